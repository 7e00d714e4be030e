/- merge.places, merge.ranges: an iterator over the places where something holds, and their ranges. Conditions: numbers within bounds. -/
import Derived.Test.YtaklmbhfmpdinaaGreatKSmall
import Derived.Test.YtaklmbhfmpdinaaGreatPats
import Derived.Test.YtaklmbhfmpdinaaGreatKCore3
import Derived.Test.YtaklmbhfmpdinaaGreatSpec11
set_option linter.unusedSimpArgs false
set_option linter.unusedVariables false
namespace Go.Proofs.YtaklmbhfmpdinaaGreat
open Go Go.RowKit Go.Inl
def rgC (r : Int × Int) : List Value := [.int .i64 r.1, .int .i64 r.2]
theorem kT (r : Int × Int) : (rgC r).length = 2 := rfl
abbrev RRgs (I : Imm) (v : Value) (l : List (Int × Int)) : Prop := RFl I 2 rgC v l
theorem vJ {f : Nat → Bool} {i : Nat} (hf : f i = true) : ∀ {n : Nat}, i < n → (plc n f)[(plc i f).length]? = some i
 | 0, h => by omega
 | n + 1, h => by
   rw [ym]
   by_cases hn : i = n
   · subst hn
     rw [hf, if_pos rfl, List.getElem?_append_right (Nat.le_refl _), Nat.sub_self]; rfl
   · have ih := vJ hf (n := n) (by omega)
     split
     · rw [List.getElem?_append_left (List.getElem?_eq_some_iff.1 ih).1, ih]
     · exact ih
theorem plc_lt {f : Nat → Bool} {i n : Nat} (hf : f i = true) (h : i < n) : (plc i f).length < (plc n f).length := (List.getElem?_eq_some_iff.1 (vJ hf h)).1
theorem plc_one {f : Nat → Bool} {i : Nat} (hf : f i = true) : (plc (i + 1) f).length = (plc i f).length + 1 := by rw [ym, hf, if_pos rfl, List.length_append]; rfl
theorem plc_none {f : Nat → Bool} {i : Nat} (hf : f i = false) : plc (i + 1) f = plc i f := by rw [ym, hf, if_neg (by simp)]
def lastR (R : List (Int × Int)) : Int × Int := R.getLast?.getD (0, 0)
theorem ju {R : List (Int × Int)} (h : 0 < R.length) : R.getLast? = some (lastR R) := by
 cases hl : R.getLast? with
 | none => rw [List.getLast?_eq_none_iff] at hl; subst hl; simp at h
 | some r => simp [lastR, hl]
theorem lastR_split {R : List (Int × Int)} (h : 0 < R.length) : ∃ D, R = D ++ [lastR R] ∧ D.length + 1 = R.length := by
 have h1 := ju h
 obtain ⟨D, hD⟩ := List.getLast?_eq_some_iff.1 h1
 refine ⟨D, hD, ?_⟩
 have h2 := congrArg List.length hD
 rw [List.length_append, List.length_singleton] at h2
 omega
theorem extR_new {R : List (Int × Int)} {i : Int} (h : ¬ (0 < R.length ∧ (lastR R).2 = i)) : extR R i = R ++ [(i, i + 1)] := by
 by_cases h0 : 0 < R.length
 · rw [yL i (ju h0), if_neg fun e => h ⟨h0, e⟩]
 · have : R = [] := List.length_eq_zero_iff.1 (by omega)
   subst this; rfl
theorem extR_same {D : List (Int × Int)} {r : Int × Int} {i : Int} (h : r.2 = i) : extR (D ++ [r]) i = D ++ [(r.1, i + 1)] := by
 rw [yL i (r := r) List.getLast?_concat, if_pos h, List.dropLast_concat]
end Go.Proofs.YtaklmbhfmpdinaaGreat
