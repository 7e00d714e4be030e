/- merge.places, merge.ranges: an iterator over the places where something holds, and their ranges. Conditions: numbers within bounds. -/
import Derived.Test.YtaklmbhfmpdinaaGreatDoorKSmall
import Derived.Test.YtaklmbhfmpdinaaGreatDoorKRef6
import Derived.Test.YtaklmbhfmpdinaaGreatDoorKCore3
import Derived.Test.YtaklmbhfmpdinaaGreatDoorSpec11
namespace Go.Proofs.YtaklmbhfmpdinaaGreatDoor
open Go Go.RowKit Go.Inl
set_option linter.unusedSimpArgs false
set_option linter.unusedVariables false
theorem plc_at {f : Nat → Bool} {i : Nat} (hf : f i = true) : ∀ {n : Nat}, i < n → (plc n f)[(plc i f).length]? = some i
  | 0, h => by omega
  | n + 1, h => by
    rw [plc_succ]
    by_cases hn : i = n
    · subst hn
      rw [hf, if_pos rfl, List.getElem?_append_right (Nat.le_refl _), Nat.sub_self]; rfl
    · have ih := plc_at hf (n := n) (by omega)
      split
      · rw [List.getElem?_append_left (List.getElem?_eq_some_iff.1 ih).1, ih]
      · exact ih
theorem plc_lt {f : Nat → Bool} {i n : Nat} (hf : f i = true) (h : i < n) : (plc i f).length < (plc n f).length := (List.getElem?_eq_some_iff.1 (plc_at hf h)).1
theorem plc_one {f : Nat → Bool} {i : Nat} (hf : f i = true) : (plc (i + 1) f).length = (plc i f).length + 1 := by rw [plc_succ, hf, if_pos rfl, List.length_append]; rfl
theorem plc_none {f : Nat → Bool} {i : Nat} (hf : f i = false) : plc (i + 1) f = plc i f := by rw [plc_succ, hf, if_neg (by simp)]
end Go.Proofs.YtaklmbhfmpdinaaGreatDoor

