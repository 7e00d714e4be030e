/- inlaylaw08.NormalRefuses: its function answers true. Conditions: arguments are bytes and 32-bit numbers. -/
import Derived.Test.YtlhehhhpaebpoaaGreatSanity
namespace Go.Proofs.YtlhehhhpaebpoaaGreat
open Go Go.RowKit Go.Inl
set_option linter.unusedSimpArgs false
set_option linter.unusedVariables false
theorem symsRaw_len (l : List Q2) (size : Int) : (symsRaw l size).length ≤ 20 := by
  unfold symsRaw
  rw [rawGo_length, List.length_take]; omega
theorem fit_wf {s : Sym} {size : Int} (h : s.fit size) (hs : size ≤ 65536) : s.wf := by
  obtain ⟨h1, h2, h3, h4⟩ := h
  cases ho : s.old
  · have := h2 ho; exact ⟨by omega, by omega, by omega, by omega⟩
  · have := h1 ho; exact ⟨by omega, by omega, by omega, by omega⟩
theorem symsRaw_fit {l : List Q2} {size : Int} (hq : ∀ q ∈ l, q.wf) : ∀ s ∈ symsRaw l size, s.fit size :=
  rawGo_fit _ fun q hq' => hq q (List.mem_of_mem_take hq')
theorem symsRaw_wf {l : List Q2} {size : Int} (hq : ∀ q ∈ l, q.wf) (hs : size ≤ 65536) : ∀ s ∈ symsRaw l size, s.wf := fun s h => fit_wf (symsRaw_fit hq s h) hs
theorem u16_bd (a : Int) : 0 ≤ IntKind.u16.wrap a ∧ IntKind.u16.wrap a ≤ 65535 := by
  rw [IntKind.wrap_u16]; omega
theorem cheapP_strange {l : List Sym} {s : Sym} {n : Int} (h : strange n s = true) : cheapP (l ++ [s]) n = (PatL.zero, 60) := by
  unfold cheapP
  rw [if_pos]
  simp [h]
theorem cheapP_nil (n : Int) : cheapP [] n = if 0 ≤ n ∧ n ≤ 65536 then (⟨false, n, 0, []⟩, 0) else (PatL.zero, 60) := by
  unfold cheapP
  by_cases h : 0 ≤ n ∧ n ≤ 65536
  · rw [if_pos h, if_neg (by simp; omega)]; rfl
  · rw [if_neg h, if_pos (by simp; omega)]
theorem checkGo_60 {n : Int} : ∀ (l : List OpL) (left i : Int), (checkGo n l left i).2 = 60 ∨ (checkGo n l left i).2 = 0
  | [], left, i => by unfold checkGo; split <;> simp
  | x :: l, left, i => by
    unfold checkGo
    split
    · exact .inl rfl
    · exact checkGo_60 l _ _
theorem checkP_60 (p : PatL) : (checkP p).2 = 60 ∨ (checkP p).2 = 0 := by
  unfold checkP
  split
  · exact .inl rfl
  · exact checkGo_60 _ _ _
theorem symsOf_sum : ∀ (l : List OpL), (∀ x ∈ l, 0 ≤ x.len) → ((symsOf l).length : Int) = sumL l
  | [], _ => rfl
  | x :: l, h => by
    have := h x (by simp)
    rw [symsOf_cons, List.length_append, symsOp_length, sumL, ← symsOf_sum l fun y hy => h y (by simp [hy])]; omega
theorem opsRaw_mem {l : List Q4} {size : Int} {x : OpL} (h : x ∈ opsRaw l size) : ∃ q ∈ l, x = opRaw q size := by
  obtain ⟨q, hq, rfl⟩ := List.mem_map.1 h
  exact ⟨q, List.mem_of_mem_take hq, rfl⟩
theorem sumL_bd : ∀ (l : List OpL), (∀ x ∈ l, 0 ≤ x.len ∧ x.len ≤ 5) → 0 ≤ sumL l ∧ sumL l ≤ 5 * (l.length : Int)
  | [], _ => by simp [sumL]
  | x :: l, h => by
    have h1 := h x (by simp)
    have h2 := sumL_bd l fun y hy => h y (by simp [hy])
    rw [sumL, List.length_cons]; omega
theorem opsRaw_len {l : List Q4} {size : Int} (hq : ∀ q ∈ l, q.wf) (hs : 0 ≤ size) : ∀ x ∈ opsRaw l size, 0 ≤ x.len ∧ x.len ≤ 5 := fun x hx => by
  obtain ⟨q, hq', rfl⟩ := opsRaw_mem hx
  have := lenRaw_bd (hq q hq') hs
  exact ⟨by show 0 ≤ lenRaw q size; omega, by show lenRaw q size ≤ 5; omega⟩
theorem madeP_out {l : List Q4} {size : Int} (hq : ∀ q ∈ l, q.wf) (hs : 0 ≤ size) : 0 ≤ (madeP l size).out ∧ (madeP l size).out ≤ 30 := by
  have h := sumL_bd (opsRaw l size) (opsRaw_len hq hs)
  have h6 : (opsRaw l size).length ≤ 6 := by unfold opsRaw; rw [List.length_map, List.length_take]; omega
  exact ⟨h.1, by show sumL _ ≤ 30; omega⟩
theorem madeP_wf' {l : List Q4} {size : Int} (hq : ∀ q ∈ l, q.wf) (hs : 0 ≤ size ∧ size ≤ 65536) (a : Bool) (o : Int) (ho : Mid o) : (⟨a, size, o, opsRaw l size⟩ : PatL).wf := by
  have h6 : (opsRaw l size).length ≤ 6 := by unfold opsRaw; rw [List.length_map, List.length_take]; omega
  refine ⟨⟨by dsimp only; omega, by dsimp only; omega⟩, ho, fun x hx => ?_, by dsimp only; omega⟩
  obtain ⟨q, hq', rfl⟩ := opsRaw_mem hx
  exact opRaw_wf (hq q hq') hs
theorem madeP_wf {l : List Q4} {size : Int} (hq : ∀ q ∈ l, q.wf) (hs : 0 ≤ size ∧ size ≤ 65536) : (madeP l size).wf := by
  have := madeP_out hq hs.1
  exact madeP_wf' hq hs false _ ⟨by show _ ≤ (madeP l size).out; omega, by show (madeP l size).out ≤ _; omega⟩
theorem symbolsP_long {l : List Q4} {size o : Int} (hq : ∀ q ∈ l, q.wf) (hs : 0 ≤ size) (a : Bool) (h : sumL (opsRaw l size) < o) : symbolsP ⟨a, size, o, opsRaw l size⟩ = ([], 60) := by
  have h0 : (checkP ⟨a, size, o, opsRaw l size⟩).2 = 60 := by
    rcases checkP_60 ⟨a, size, o, opsRaw l size⟩ with h1 | h1
    · exact h1
    · have h2 := (checkP_ok h1).2.1
      rw [symsOf_sum _ fun x hx => (opsRaw_len hq hs x hx).1] at h2
      dsimp only at h2
      omega
  unfold symbolsP
  rw [h0]; rfl

end Go.Proofs.YtlhehhhpaebpoaaGreat

