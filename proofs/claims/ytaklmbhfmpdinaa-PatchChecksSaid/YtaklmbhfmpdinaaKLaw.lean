/- The functions of package inlaylaw08 that look at fixed examples: what they compute. Conditions: numbers within bounds. inlaylaw08.sanity: it is true. Conditions: none. inlaylaw08.NormalRefuses: its function answers true. Conditions: arguments are bytes and 32-bit numbers. Contracts of packages normal and inlayref06 at right symbols; slices of slices. Conditions: none. -/
import Derived.Test.YtaklmbhfmpdinaaKRef6
import Derived.Test.YtaklmbhfmpdinaaKCore2
import Derived.Test.YtaklmbhfmpdinaaKOpt
namespace Go.Proofs.Ytaklmbhfmpdinaa
open Go Go.RowKit Go.Inl
set_option linter.unusedSimpArgs false
set_option linter.unusedVariables false
theorem wf_bytes {p : PatL} (hp : p.wf) : ∀ x ∈ p.ops, ∀ z ∈ x.data, 0 ≤ z ∧ z ≤ 255 := fun x hx => (hp.ops x hx).data
theorem sameR_e (p q : PatL) (ad bd : Option Addr) (m cap mb capb : Nat) (b : Bool) (w0 : World) (I0 : Imm) (hI : Sat I0 w0) (hops : ROps I0 (.slice ad m cap) p.ops) (hp : p.wf) (hoq : ROps I0 (.slice bd mb capb) q.ops) (hq : q.wf) (he : samePR p q = b) :
    Ctr Try.prog 18 [.agg #[.bool p.lifted, .int .i64 p.in_, .int .i64 p.out, .slice ad m cap], .agg #[.bool q.lifted, .int .i64 q.in_, .int .i64 q.out, .slice bd mb capb]] w0 (fun v w' => v = .bool b ∧ Ext w0 I0 w' I0) := by
  have h := sameR_c p q ad bd m cap mb capb w0 I0 hI hops (wf_bytes hp) hoq (wf_bytes hq)
  rw [he] at h
  exact h


end Go.Proofs.Ytaklmbhfmpdinaa


namespace Go.Proofs.Ytaklmbhfmpdinaa
open Go Go.RowKit Go.Inl
set_option linter.unusedSimpArgs false
set_option linter.unusedVariables false
def okB (b : Int) : Bool := decide (0 ≤ b) && decide (b ≤ 255)
def okM (b : Int) : Bool := decide (-1099511627776 ≤ b) && decide (b ≤ 1099511627776)
def okSym (s : Sym) : Bool := okM s.at_ && okB s.b
def okOp (x : OpL) : Bool := okM x.kind && okM x.from_ && okM x.len && okB x.b && x.data.all okB
theorem okB_s {b : Int} (h : okB b = true) : 0 ≤ b ∧ b ≤ 255 := by simpa [okB] using h
theorem okM_s {b : Int} (h : okM b = true) : Mid b := by unfold Mid; simpa [okM] using h
theorem okSyms {l : List Sym} (h : l.all okSym = true) : ∀ s ∈ l, s.wf := fun s hs => by
  have := List.all_eq_true.1 h s hs
  simp only [okSym, Bool.and_eq_true] at this
  exact ⟨(okM_s this.1).1, (okM_s this.1).2, (okB_s this.2).1, (okB_s this.2).2⟩
theorem okOps {l : List OpL} (h : l.all okOp = true) : ∀ x ∈ l, x.wf := fun x hx => by
  have := List.all_eq_true.1 h x hx
  simp only [okOp, Bool.and_eq_true] at this
  obtain ⟨⟨⟨⟨h1, h2⟩, h3⟩, h4⟩, h5⟩ := this
  exact ⟨okM_s h1, okM_s h2, okM_s h3, okB_s h4, fun y hy => okB_s (List.all_eq_true.1 h5 y hy)⟩
def p2 : PatL := ⟨true, 2, 0, []⟩
def p3 : PatL := ⟨false, 2, 0, []⟩
def p1 : PatL := ⟨false, 0, 1, []⟩
end Go.Proofs.Ytaklmbhfmpdinaa


namespace Go.Proofs.Ytaklmbhfmpdinaa
open Go Go.RowKit Go.Inl
set_option linter.unusedSimpArgs false
set_option linter.unusedVariables false
theorem symsOf_sum : ∀ (l : List OpL), (∀ x ∈ l, 0 ≤ x.len) → ((symsOf l).length : Int) = sumL l
  | [], _ => rfl
  | x :: l, h => by
    have := h x (by simp)
    rw [symsOf_cons, List.length_append, symsOp_length, sumL, ← symsOf_sum l fun y hy => h y (by simp [hy])]; omega
theorem opsRaw_mem {l : List Q4} {size : Int} {x : OpL} (h : x ∈ opsRaw l size) : ∃ q ∈ l, x = opRaw q size := by
  obtain ⟨q, hq, rfl⟩ := List.mem_map.1 h
  exact ⟨q, List.mem_of_mem_take hq, rfl⟩
theorem sumL_bd : ∀ (l : List OpL), (∀ x ∈ l, 0 ≤ x.len ∧ x.len ≤ 5) → 0 ≤ sumL l ∧ sumL l ≤ 5 * (l.length : Int)
  | [], _ => by simp [sumL]
  | x :: l, h => by
    have h1 := h x (by simp)
    have h2 := sumL_bd l fun y hy => h y (by simp [hy])
    rw [sumL, List.length_cons]; omega
theorem opsRaw_len {l : List Q4} {size : Int} (hq : ∀ q ∈ l, q.wf) (hs : 0 ≤ size) : ∀ x ∈ opsRaw l size, 0 ≤ x.len ∧ x.len ≤ 5 := fun x hx => by
  obtain ⟨q, hq', rfl⟩ := opsRaw_mem hx
  have := lenRaw_bd (hq q hq') hs
  exact ⟨by show 0 ≤ lenRaw q size; omega, by show lenRaw q size ≤ 5; omega⟩
theorem madeP_out {l : List Q4} {size : Int} (hq : ∀ q ∈ l, q.wf) (hs : 0 ≤ size) : 0 ≤ (madeP l size).out ∧ (madeP l size).out ≤ 30 := by
  have h := sumL_bd (opsRaw l size) (opsRaw_len hq hs)
  have h6 : (opsRaw l size).length ≤ 6 := by unfold opsRaw; rw [List.length_map, List.length_take]; omega
  exact ⟨h.1, by show sumL _ ≤ 30; omega⟩
theorem madeP_wf' {l : List Q4} {size : Int} (hq : ∀ q ∈ l, q.wf) (hs : 0 ≤ size ∧ size ≤ 65536) (a : Bool) (o : Int) (ho : Mid o) : (⟨a, size, o, opsRaw l size⟩ : PatL).wf := by
  have h6 : (opsRaw l size).length ≤ 6 := by unfold opsRaw; rw [List.length_map, List.length_take]; omega
  refine ⟨⟨by dsimp only; omega, by dsimp only; omega⟩, ho, fun x hx => ?_, by dsimp only; omega⟩
  obtain ⟨q, hq', rfl⟩ := opsRaw_mem hx
  exact opRaw_wf (hq q hq') hs
theorem madeP_wf {l : List Q4} {size : Int} (hq : ∀ q ∈ l, q.wf) (hs : 0 ≤ size ∧ size ≤ 65536) : (madeP l size).wf := by
  have := madeP_out hq hs.1
  exact madeP_wf' hq hs false _ ⟨by show _ ≤ (madeP l size).out; omega, by show (madeP l size).out ≤ _; omega⟩
end Go.Proofs.Ytaklmbhfmpdinaa


namespace Go.Proofs.Ytaklmbhfmpdinaa
open Go Go.RowKit Go.Inl
set_option linter.unusedSimpArgs false
set_option linter.unusedVariables false
theorem _root_.Go.Inl.RSl.resl2 {α : Type} {I : Imm} {sz : Nat} {R : List Value → α → Prop} {ad : Option Addr} {len cap : Nat} {xs : List α} (hr : RSl I sz R (.slice ad len cap) xs) (l h : Nat) (hlh : l ≤ h) (hh : h ≤ xs.length) :
    RSl I sz R (Inl.resl (.slice ad len cap) l h cap sz) ((xs.take h).drop l) ∧ h ≤ cap ∧ len = xs.length := by
  rcases hr with ⟨⟨a, c, e, hc, hn⟩, rfl⟩ | ⟨b, o, c, h1, h2, h3, h4⟩
  · cases e
    simp at hh; subst hh; simp at hlh; subst hlh
    refine ⟨.inl ⟨⟨if cap = 0 then ad else ad.map (·.add (0 * sz)), cap, by simp [Inl.resl], hc, fun h => ?_⟩, by simp⟩, by omega, rfl⟩
    split at h
    · assumption
    · cases ad with
      | none => exact hn rfl
      | some a => simp at h
  · cases h1
    have hlen : ((xs.take h).drop l).length = h - l := by simp [Nat.min_eq_left hh]
    refine ⟨?_, by omega, rfl⟩
    by_cases e : cap = l
    · subst e
      refine .inr ⟨b, o, 0, ?_, by omega, by simp, fun i x hx => ?_⟩
      · simp only [Inl.resl, if_true, Nat.sub_self, hlen]
      · have := (List.getElem?_eq_some_iff.1 hx).1
        omega
    · refine .inr ⟨b, o + l * sz, cap - l, by rw [hlen]; simp [Inl.resl, e, addr_add], by omega, by omega, ?_⟩
      intro i x hx
      rw [List.getElem?_drop, List.getElem?_take] at hx
      split at hx
      · obtain ⟨cs, c1, c2, c3⟩ := h4 _ _ hx
        exact ⟨cs, c1, by rw [show o + l * sz + i * sz = o + (l + i) * sz by rw [Nat.add_mul]; omega]; exact c2, c3⟩
      · cases hx
theorem _root_.Go.Inl.RSl.slL {α : Type} {I : Imm} {sz : Nat} {R : List Value → α → Prop} {ad : Option Addr} {len cap : Nat} {xs : List α} (hr : RSl I sz R (.slice ad len cap) xs) (l : Nat) (hl : l ≤ xs.length) :
    RSl I sz R (Inl.resl (.slice ad len cap) l len cap sz) (xs.drop l) := by
  have h0 := (hr.resl2 0 0 (by omega) (by omega)).2.2
  have := (hr.resl2 l xs.length hl (Nat.le_refl _)).1
  rw [List.take_length, ← h0] at this
  exact this
theorem ops_len_bd {n : Int} : ∀ (l : List OpL), OpsOk n l → ∀ x ∈ l, 0 ≤ x.len ∧ x.len ≤ ((symsOf l).length : Int)
  | [], _, x, hx => by simp at hx
  | y :: l, h, x, hx => by
    rw [symsOf_cons, List.length_append, symsOp_length]
    rcases List.mem_cons.1 hx with rfl | hx
    · have := (h x (by simp)).1
      exact ⟨by omega, by omega⟩
    · have := ops_len_bd l (fun z hz => h z (by simp [hz])) x hx
      exact ⟨this.1, by omega⟩


end Go.Proofs.Ytaklmbhfmpdinaa

