/- inlaylaw08.sanity: it is true. Conditions: none. -/
import Derived.Test.YtlhehhhpaebpoaaGreatLaw1
namespace Go.Proofs.YtlhehhhpaebpoaaGreat
open Go Go.RowKit Go.Inl
set_option linter.unusedSimpArgs false
set_option linter.unusedVariables false
theorem lit_wf {bs : List Int} (h : ∀ b ∈ bs, 0 ≤ b ∧ b ≤ 255) : ∀ s ∈ litS bs, s.wf := by
  intro s hs
  obtain ⟨b, hb, rfl⟩ := List.mem_map.1 hs
  exact ⟨by dsimp only; omega, by dsimp only; omega, (h b hb).1, (h b hb).2⟩
def okB (b : Int) : Bool := decide (0 ≤ b) && decide (b ≤ 255)
def okM (b : Int) : Bool := decide (-1099511627776 ≤ b) && decide (b ≤ 1099511627776)
def okSym (s : Sym) : Bool := okM s.at_ && okB s.b
def okOp (x : OpL) : Bool := okM x.kind && okM x.from_ && okM x.len && okB x.b && x.data.all okB
theorem okB_s {b : Int} (h : okB b = true) : 0 ≤ b ∧ b ≤ 255 := by simpa [okB] using h
theorem okM_s {b : Int} (h : okM b = true) : Mid b := by unfold Mid; simpa [okM] using h
theorem okSyms {l : List Sym} (h : l.all okSym = true) : ∀ s ∈ l, s.wf := fun s hs => by
  have := List.all_eq_true.1 h s hs
  simp only [okSym, Bool.and_eq_true] at this
  exact ⟨(okM_s this.1).1, (okM_s this.1).2, (okB_s this.2).1, (okB_s this.2).2⟩
theorem okOps {l : List OpL} (h : l.all okOp = true) : ∀ x ∈ l, x.wf := fun x hx => by
  have := List.all_eq_true.1 h x hx
  simp only [okOp, Bool.and_eq_true] at this
  obtain ⟨⟨⟨⟨h1, h2⟩, h3⟩, h4⟩, h5⟩ := this
  exact ⟨okM_s h1, okM_s h2, okM_s h3, okB_s h4, fun y hy => okB_s (List.all_eq_true.1 h5 y hy)⟩
def p2 : PatL := ⟨true, 2, 0, []⟩
def p3 : PatL := ⟨false, 2, 0, []⟩
def p1 : PatL := ⟨false, 0, 1, []⟩
theorem small_wf (a : Bool) (n m : Int) (hn : Mid n) (hm : Mid m) : (⟨a, n, m, []⟩ : PatL).wf := ⟨hn, hm, fun x hx => by simp at hx, by simp⟩
theorem mid2 : Mid 2 := ⟨by decide, by decide⟩
theorem mid1 : Mid 1 := ⟨by decide, by decide⟩
theorem mid0 : Mid 0 := ⟨by decide, by decide⟩

end Go.Proofs.YtlhehhhpaebpoaaGreat

