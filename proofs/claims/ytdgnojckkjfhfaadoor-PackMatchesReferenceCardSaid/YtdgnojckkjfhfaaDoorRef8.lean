/- inlayref08.Cheapest, Form, Same: what they compute, namely the same as package normal. Conditions: numbers within bounds. -/
import Derived.Test.YtdgnojckkjfhfaaDoorKCut
import Derived.Test.YtdgnojckkjfhfaaDoorKOpt
namespace Go.Proofs.YtdgnojckkjfhfaaDoor
open Go Go.RowKit Go.Inl
set_option linter.unusedSimpArgs false
set_option linter.unusedVariables false
theorem rightP_of {x : OpL} {n : Int} (h : rightR x n = true) : 1 ≤ x.len ∧ x.len ≤ 65536 ∧ rightP x n = true := by
  unfold rightR rightP insideP inS at *
  simp only [Bool.and_eq_true, decide_eq_true_eq] at *
  obtain ⟨⟨h1, h2⟩, h3⟩ := h
  refine ⟨h1, h2, ?_⟩
  by_cases k1 : x.kind = 1
  · simp [k1] at h3 ⊢; omega
  · by_cases k2 : x.kind = 2
    · simp [k2] at h3 ⊢; omega
    · by_cases k3 : x.kind = 3
      · simp [k3] at h3 ⊢; omega
      · by_cases k4 : x.kind = 4
        · simp [k4] at h3 ⊢; omega
        · simp [k1, k2, k3, k4] at h3
theorem checkRGo_ok8 {n out : Int} : ∀ (l : List OpL) (sum i : Int), (checkRGo n out l sum i).2 = 0 → OpsOk n l ∧ sum + ((symsOf l).length : Int) = out
  | [], sum, i, h => by
    unfold checkRGo at h
    split at h
    · exact ⟨fun x hx => by simp at hx, by simp [symsOf]; omega⟩
    · simp at h
  | x :: l, sum, i, h => by
    unfold checkRGo at h
    split at h
    · simp at h
    · rename_i hb
      simp only [Bool.or_eq_true, Bool.not_eq_true', decide_eq_true_eq, not_or, Bool.not_eq_false] at hb
      obtain ⟨h1, h2, h3⟩ := rightP_of hb.1
      obtain ⟨h4, h5⟩ := checkRGo_ok8 l _ _ h
      refine ⟨fun y hy => ?_, ?_⟩
      · rcases List.mem_cons.1 hy with rfl | hy
        · exact ⟨h1, h3⟩
        · exact h4 y hy
      · rw [symsOf_cons, List.length_append, symsOp_length]; omega
theorem checkR_iff (p : PatL) : (checkR p).2 = 0 ↔ (checkP p).2 = 0 := by
  refine ⟨fun h => ?_, checkR_of⟩
  unfold checkR at h
  split at h
  · simp at h
  · rename_i hb
    simp only [inS, Bool.or_eq_true, Bool.not_eq_true', Bool.and_eq_false_iff, decide_eq_true_eq, decide_eq_false_iff_not, not_or] at hb
    obtain ⟨h1, h2⟩ := checkRGo_ok8 _ _ _ h
    exact checkP_right (by omega) h1 (by omega) (by omega) (by omega)
end Go.Proofs.YtdgnojckkjfhfaaDoor

