/- The functions of package inlaylaw08 that look at fixed examples: what they compute. Conditions: numbers within bounds. -/
import Derived.Test.YtlhehhhpaebpoaaGreatKRef6
import Derived.Test.YtlhehhhpaebpoaaGreatKCore2
namespace Go.Proofs.YtlhehhhpaebpoaaGreat
open Go Go.RowKit Go.Inl
set_option linter.unusedSimpArgs false
set_option linter.unusedVariables false
theorem opS_wf {kind : Int} {l : List Sym} (hk : Mid kind) (hw : ∀ s ∈ l, s.wf) (hn : l.length ≤ 1000000) : (opS kind l).wf := by
  have hh : (l.headD ⟨false, 0, 0⟩).wf := by
    cases l with
    | nil => exact ⟨by decide, by decide, by decide, by decide⟩
    | cons s l => exact hw s (by simp)
  obtain ⟨h1, h2, h3, h4⟩ := hh
  refine ⟨hk, ?_, ?_, ?_, ?_⟩
  · show Mid (if kind = 1 ∨ kind = 2 then _ else _)
    unfold Mid
    split <;> omega
  · show Mid (l.length : Int)
    unfold Mid
    omega
  · show 0 ≤ (if kind = 3 then _ else _) ∧ (if kind = 3 then _ else _) ≤ 255
    split <;> omega
  · intro y hy
    have hy' : y ∈ if kind = 2 ∨ kind = 4 then l.map (·.b) else [] := hy
    split at hy'
    · obtain ⟨s, hs, rfl⟩ := List.mem_map.1 hy'
      exact ⟨(hw s hs).2.2.1, (hw s hs).2.2.2⟩
    · simp at hy'
theorem opsT_wf {l : List Sym} (hw : ∀ s ∈ l, s.wf) (hn : l.length ≤ 1000000) : ∀ (f i : Nat), ∀ x ∈ opsT (tab l) l f i, x.wf
  | 0, i, x, hx => by simp [opsT] at hx
  | f + 1, i, x, hx => by
    by_cases hi : i < l.length
    · have htl := tab_length l
      obtain ⟨p, hp⟩ : ∃ p, (tab l)[i]? = some p := ⟨_, List.getElem?_eq_getElem (by omega)⟩
      rw [opsT_step hi hp] at hx
      rcases List.mem_cons.1 hx with rfl | hx
      · refine opS_wf (tab_kind l i p hp) (fun s hs => hw s (List.mem_of_mem_take (List.mem_of_mem_drop hs))) ?_
        rw [List.length_drop, List.length_take]; omega
      · exact opsT_wf hw hn f _ x hx
    · rw [opsT_end hi] at hx; simp at hx
theorem opsT_len (t : List Pl) (l : List Sym) : ∀ (f i : Nat), (opsT t l f i).length ≤ f
  | 0, i => by simp [opsT]
  | f + 1, i => by
    by_cases hi : i < l.length
    · simp only [opsT, hi, if_true, List.length_cons]
      have := opsT_len t l f (i + (t.getD i Pl.zero).length.toNat)
      omega
    · rw [opsT_end hi]; simp
theorem zero_wf : PatL.zero.wf := ⟨⟨by decide, by decide⟩, ⟨by decide, by decide⟩, fun x hx => by simp [PatL.zero] at hx, by decide⟩
theorem cheapP_wf {l : List Sym} {n : Int} (hw : ∀ s ∈ l, s.wf) : (cheapP l n).1.wf := by
  unfold cheapP
  split
  · exact zero_wf
  · rename_i h
    simp only [Bool.or_eq_true, decide_eq_true_eq, not_or] at h
    split
    · exact zero_wf
    · refine ⟨⟨by dsimp only; omega, by dsimp only; omega⟩, ⟨by dsimp only; omega, by dsimp only; omega⟩, opsT_wf hw (by omega) _ _, ?_⟩
      have := opsT_len (tab l) l (l.length + 1) 0
      dsimp only; omega
theorem formP_wf {p : PatL} (hp : p.wf) : (formP p).1.wf := by
  have h := cheapP_wf (n := p.in_) (symsOf_wf hp)
  unfold formP
  split
  · dsimp only
    split
    · exact ⟨h.in_, h.out, h.ops, h.len⟩
    · exact h
  · exact zero_wf
theorem wf_bytes {p : PatL} (hp : p.wf) : ∀ x ∈ p.ops, ∀ z ∈ x.data, 0 ≤ z ∧ z ≤ 255 := fun x hx => (hp.ops x hx).data
def litS (bs : List Int) : List Sym := bs.map fun b => ⟨false, 0, b⟩
def formsP (l : List Sym) (ops : List OpL) : Bool := decide ((cheapP l 4).2 = 0) && samePR (cheapP l 4).1 ⟨false, 4, l.length, ops⟩

theorem cheapest_e (ad : Option Addr) (m cap : Nat) (l : List Sym) (size : Int) (q : PatL) (e : Int) (w0 : World) (I0 : Imm) (hI : Sat I0 w0) (hl : RSyms I0 (.slice ad m cap) l) (hm : m = l.length) (hw : ∀ s ∈ l, s.wf) (he : cheapP l size = (q, e)) :
    Ctr Tryz.prog 35 [.slice ad m cap, .int .i64 size] w0 (fun v w' => ∃ I' a m c, v = .tuple #[.agg #[.bool q.lifted, .int .i64 q.in_, .int .i64 q.out, .slice a m c], .int .i64 e] ∧ Ext w0 I0 w' I' ∧ ROps I' (.slice a m c) q.ops) := by
  subst hm
  have h := cheapest_c ad cap l size w0 I0 hI hl hw
  rw [he] at h
  exact h
theorem sameR_e (p q : PatL) (ad bd : Option Addr) (m cap mb capb : Nat) (b : Bool) (w0 : World) (I0 : Imm) (hI : Sat I0 w0) (hops : ROps I0 (.slice ad m cap) p.ops) (hp : p.wf) (hoq : ROps I0 (.slice bd mb capb) q.ops) (hq : q.wf) (he : samePR p q = b) :
    Ctr Tryz.prog 17 [.agg #[.bool p.lifted, .int .i64 p.in_, .int .i64 p.out, .slice ad m cap], .agg #[.bool q.lifted, .int .i64 q.in_, .int .i64 q.out, .slice bd mb capb]] w0 (fun v w' => v = .bool b ∧ Ext w0 I0 w' I0) := by
  have h := sameR_c p q ad bd m cap mb capb w0 I0 hI hops (wf_bytes hp) hoq (wf_bytes hq)
  rw [he] at h
  exact h


end Go.Proofs.YtlhehhhpaebpoaaGreat

