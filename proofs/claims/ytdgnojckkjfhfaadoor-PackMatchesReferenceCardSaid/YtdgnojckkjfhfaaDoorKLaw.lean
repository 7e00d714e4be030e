/- The functions of package inlaylaw08 that look at fixed examples: what they compute. Conditions: numbers within bounds. inlaylaw08.sanity: it is true. Conditions: none. inlaylaw08.NormalRefuses: its function answers true. Conditions: arguments are bytes and 32-bit numbers. Contracts of packages normal and inlayref06 at right symbols; slices of slices. Conditions: none. -/
import Derived.Test.YtdgnojckkjfhfaaDoorKRef6
import Derived.Test.YtdgnojckkjfhfaaDoorKCore2
import Derived.Test.YtdgnojckkjfhfaaDoorKOpt
namespace Go.Proofs.YtdgnojckkjfhfaaDoor
open Go Go.RowKit Go.Inl
set_option linter.unusedSimpArgs false
set_option linter.unusedVariables false
theorem zero_wf : PatL.zero.wf := ⟨⟨by decide, by decide⟩, ⟨by decide, by decide⟩, fun x hx => by simp [PatL.zero] at hx, by decide⟩
theorem wf_bytes {p : PatL} (hp : p.wf) : ∀ x ∈ p.ops, ∀ z ∈ x.data, 0 ≤ z ∧ z ≤ 255 := fun x hx => (hp.ops x hx).data
theorem sameR_e (p q : PatL) (ad bd : Option Addr) (m cap mb capb : Nat) (b : Bool) (w0 : World) (I0 : Imm) (hI : Sat I0 w0) (hops : ROps I0 (.slice ad m cap) p.ops) (hp : p.wf) (hoq : ROps I0 (.slice bd mb capb) q.ops) (hq : q.wf) (he : samePR p q = b) :
    Ctr Tryd.prog 17 [.agg #[.bool p.lifted, .int .i64 p.in_, .int .i64 p.out, .slice ad m cap], .agg #[.bool q.lifted, .int .i64 q.in_, .int .i64 q.out, .slice bd mb capb]] w0 (fun v w' => v = .bool b ∧ Ext w0 I0 w' I0) := by
  have h := sameR_c p q ad bd m cap mb capb w0 I0 hI hops (wf_bytes hp) hoq (wf_bytes hq)
  rw [he] at h
  exact h


end Go.Proofs.YtdgnojckkjfhfaaDoor


namespace Go.Proofs.YtdgnojckkjfhfaaDoor
open Go Go.RowKit Go.Inl
set_option linter.unusedSimpArgs false
set_option linter.unusedVariables false
def p2 : PatL := ⟨true, 2, 0, []⟩
def p3 : PatL := ⟨false, 2, 0, []⟩
def p1 : PatL := ⟨false, 0, 1, []⟩
end Go.Proofs.YtdgnojckkjfhfaaDoor


namespace Go.Proofs.YtdgnojckkjfhfaaDoor
open Go Go.RowKit Go.Inl
set_option linter.unusedSimpArgs false
set_option linter.unusedVariables false
theorem symsOf_sum : ∀ (l : List OpL), (∀ x ∈ l, 0 ≤ x.len) → ((symsOf l).length : Int) = sumL l
  | [], _ => rfl
  | x :: l, h => by
    have := h x (by simp)
    rw [symsOf_cons, List.length_append, symsOp_length, sumL, ← symsOf_sum l fun y hy => h y (by simp [hy])]; omega
theorem opsRaw_mem {l : List Q4} {size : Int} {x : OpL} (h : x ∈ opsRaw l size) : ∃ q ∈ l, x = opRaw q size := by
  obtain ⟨q, hq, rfl⟩ := List.mem_map.1 h
  exact ⟨q, List.mem_of_mem_take hq, rfl⟩
theorem sumL_bd : ∀ (l : List OpL), (∀ x ∈ l, 0 ≤ x.len ∧ x.len ≤ 5) → 0 ≤ sumL l ∧ sumL l ≤ 5 * (l.length : Int)
  | [], _ => by simp [sumL]
  | x :: l, h => by
    have h1 := h x (by simp)
    have h2 := sumL_bd l fun y hy => h y (by simp [hy])
    rw [sumL, List.length_cons]; omega
theorem opsRaw_len {l : List Q4} {size : Int} (hq : ∀ q ∈ l, q.wf) (hs : 0 ≤ size) : ∀ x ∈ opsRaw l size, 0 ≤ x.len ∧ x.len ≤ 5 := fun x hx => by
  obtain ⟨q, hq', rfl⟩ := opsRaw_mem hx
  have := lenRaw_bd (hq q hq') hs
  exact ⟨by show 0 ≤ lenRaw q size; omega, by show lenRaw q size ≤ 5; omega⟩
theorem madeP_out {l : List Q4} {size : Int} (hq : ∀ q ∈ l, q.wf) (hs : 0 ≤ size) : 0 ≤ (madeP l size).out ∧ (madeP l size).out ≤ 30 := by
  have h := sumL_bd (opsRaw l size) (opsRaw_len hq hs)
  have h6 : (opsRaw l size).length ≤ 6 := by unfold opsRaw; rw [List.length_map, List.length_take]; omega
  exact ⟨h.1, by show sumL _ ≤ 30; omega⟩
theorem madeP_wf' {l : List Q4} {size : Int} (hq : ∀ q ∈ l, q.wf) (hs : 0 ≤ size ∧ size ≤ 65536) (a : Bool) (o : Int) (ho : Mid o) : (⟨a, size, o, opsRaw l size⟩ : PatL).wf := by
  have h6 : (opsRaw l size).length ≤ 6 := by unfold opsRaw; rw [List.length_map, List.length_take]; omega
  refine ⟨⟨by dsimp only; omega, by dsimp only; omega⟩, ho, fun x hx => ?_, by dsimp only; omega⟩
  obtain ⟨q, hq', rfl⟩ := opsRaw_mem hx
  exact opRaw_wf (hq q hq') hs
theorem madeP_wf {l : List Q4} {size : Int} (hq : ∀ q ∈ l, q.wf) (hs : 0 ≤ size ∧ size ≤ 65536) : (madeP l size).wf := by
  have := madeP_out hq hs.1
  exact madeP_wf' hq hs false _ ⟨by show _ ≤ (madeP l size).out; omega, by show (madeP l size).out ≤ _; omega⟩
end Go.Proofs.YtdgnojckkjfhfaaDoor


namespace Go.Proofs.YtdgnojckkjfhfaaDoor
open Go Go.RowKit Go.Inl
set_option linter.unusedSimpArgs false
set_option linter.unusedVariables false
theorem _root_.Go.Inl.RSl.resl2 {α : Type} {I : Imm} {sz : Nat} {R : List Value → α → Prop} {ad : Option Addr} {len cap : Nat} {xs : List α} (hr : RSl I sz R (.slice ad len cap) xs) (l h : Nat) (hlh : l ≤ h) (hh : h ≤ xs.length) :
    RSl I sz R (Inl.resl (.slice ad len cap) l h cap sz) ((xs.take h).drop l) ∧ h ≤ cap ∧ len = xs.length := by
  rcases hr with ⟨⟨a, c, e, hc, hn⟩, rfl⟩ | ⟨b, o, c, h1, h2, h3, h4⟩
  · cases e
    simp at hh; subst hh; simp at hlh; subst hlh
    refine ⟨.inl ⟨⟨if cap = 0 then ad else ad.map (·.add (0 * sz)), cap, by simp [Inl.resl], hc, fun h => ?_⟩, by simp⟩, by omega, rfl⟩
    split at h
    · assumption
    · cases ad with
      | none => exact hn rfl
      | some a => simp at h
  · cases h1
    have hlen : ((xs.take h).drop l).length = h - l := by simp [Nat.min_eq_left hh]
    refine ⟨?_, by omega, rfl⟩
    by_cases e : cap = l
    · subst e
      refine .inr ⟨b, o, 0, ?_, by omega, by simp, fun i x hx => ?_⟩
      · simp only [Inl.resl, if_true, Nat.sub_self, hlen]
      · have := (List.getElem?_eq_some_iff.1 hx).1
        omega
    · refine .inr ⟨b, o + l * sz, cap - l, by rw [hlen]; simp [Inl.resl, e, addr_add], by omega, by omega, ?_⟩
      intro i x hx
      rw [List.getElem?_drop, List.getElem?_take] at hx
      split at hx
      · obtain ⟨cs, c1, c2, c3⟩ := h4 _ _ hx
        exact ⟨cs, c1, by rw [show o + l * sz + i * sz = o + (l + i) * sz by rw [Nat.add_mul]; omega]; exact c2, c3⟩
      · cases hx
theorem _root_.Go.Inl.RSl.slH {α : Type} {I : Imm} {sz : Nat} {R : List Value → α → Prop} {ad : Option Addr} {len cap : Nat} {xs : List α} (hr : RSl I sz R (.slice ad len cap) xs) (h : Nat) (hh : h ≤ xs.length) :
    RSl I sz R (Inl.resl (.slice ad len cap) 0 h cap sz) (xs.take h) := by
  have := (hr.resl2 0 h (by omega) hh).1
  rwa [List.drop_zero] at this
theorem _root_.Go.Inl.RSl.slL {α : Type} {I : Imm} {sz : Nat} {R : List Value → α → Prop} {ad : Option Addr} {len cap : Nat} {xs : List α} (hr : RSl I sz R (.slice ad len cap) xs) (l : Nat) (hl : l ≤ xs.length) :
    RSl I sz R (Inl.resl (.slice ad len cap) l len cap sz) (xs.drop l) := by
  have h0 := (hr.resl2 0 0 (by omega) (by omega)).2.2
  have := (hr.resl2 l xs.length hl (Nat.le_refl _)).1
  rw [List.take_length, ← h0] at this
  exact this
theorem rightR_of {x : OpL} {n : Int} (h1 : 1 ≤ x.len) (h2 : x.len ≤ 65536) (h3 : rightP x n = true) : rightR x n = true := by
  unfold rightR rightP insideP inS at *
  simp only [Bool.and_eq_true, decide_eq_true_eq] at *
  refine ⟨⟨h1, h2⟩, ?_⟩
  by_cases k1 : x.kind = 1
  · simp [k1] at h3 ⊢; omega
  · by_cases k2 : x.kind = 2
    · simp [k2] at h3 ⊢; omega
    · by_cases k3 : x.kind = 3
      · simp [k3] at h3 ⊢; omega
      · by_cases k4 : x.kind = 4
        · simp [k4] at h3 ⊢; omega
        · simp [k1, k2, k3, k4] at h3
theorem checkRGo_right {n out : Int} : ∀ (l : List OpL) (sum i : Int), OpsOk n l → out ≤ 65536 → sum + ((symsOf l).length : Int) = out → 0 ≤ sum → (checkRGo n out l sum i).2 = 0
  | [], sum, i, _, _, h, _ => by
    simp [symsOf] at h
    unfold checkRGo; rw [if_pos (by omega)]
  | x :: l, sum, i, hr, hb, h, h0 => by
    obtain ⟨h1, h2⟩ := hr x (by simp)
    rw [symsOf_cons, List.length_append, symsOp_length] at h
    unfold checkRGo
    rw [if_neg (by rw [rightR_of h1 (by omega) h2]; simp; omega)]
    exact checkRGo_right l _ _ (fun y hy => hr y (by simp [hy])) hb (by omega) (by omega)
theorem checkR_right {p : PatL} (h0 : 0 ≤ p.in_ ∧ p.in_ ≤ 65536) (h1 : OpsOk p.in_ p.ops) (h2 : ((symsOf p.ops).length : Int) = p.out) (h3 : p.out ≤ 65536) (h4 : p.ops.length ≤ 4096) : (checkR p).2 = 0 := by
  unfold checkR
  rw [if_neg (by simp [inS]; omega)]
  exact checkRGo_right _ _ _ h1 h3 (by omega) (by omega)
theorem checkR_of {p : PatL} (h : (checkP p).2 = 0) : (checkR p).2 = 0 := by
  obtain ⟨h1, h2, h3, h4, h5, h6, h7⟩ := checkP_ok h
  exact checkR_right ⟨h3, h4⟩ h1 h2 h6 h7
end Go.Proofs.YtdgnojckkjfhfaaDoor

