/- Plain laws of chapter 10: which byte of the input is kept, and what the symbols turned around do. Conditions: none. -/
import Derived.Test.YtaklmbhfmpdinaaGreatCommon6
import Derived.Test.YtaklmbhfmpdinaaGreatKCore3
import Derived.Test.YtaklmbhfmpdinaaGreatSpec11
set_option linter.unusedSimpArgs false
set_option linter.unusedVariables false
namespace Go.Proofs.YtaklmbhfmpdinaaGreat
open Go Go.RowKit Go.Inl
def keptUp (l : List Sym) : Nat → List (Int × Int)
 | 0 => []
 | k + 1 => if (sAt l k).old && (lookI (keptUp l k) (sAt l k).at_).isNone then keptUp l k ++ [((sAt l k).at_, (k : Int))] else keptUp l k
def hasAt (l : List Sym) (i : Nat) (a : Int) : Prop := (sAt l i).old = true ∧ (sAt l i).at_ = a
theorem zD (l : List Sym) : ∀ (k : Nat) (a : Int), (lookI (keptUp l k) a = none → ∀ i, i < k → ¬ hasAt l i a) ∧ (∀ j, lookI (keptUp l k) a = some j → ∃ i : Nat, j = i ∧ i < k ∧ hasAt l i a ∧ ∀ i', i' < i → ¬ hasAt l i' a)
 | 0, a => ⟨fun _ i h => by omega, fun j h => by simp [keptUp, lookI] at h⟩
 | k + 1, a => by
   obtain ⟨n1, s1⟩ := zD l k a
   unfold keptUp
   by_cases hc : ((sAt l k).old && (lookI (keptUp l k) (sAt l k).at_).isNone) = true
   · rw [if_pos hc, lookI_snoc]
     rw [Bool.and_eq_true, Option.isNone_iff_eq_none] at hc
     cases hl : lookI (keptUp l k) a with
     | some x =>
       refine ⟨fun h => by simp at h, fun j h => ?_⟩
       obtain ⟨i, h1, h2, h3, h4⟩ := s1 x hl
       obtain rfl : x = j := by simpa using h
       exact ⟨i, h1, by omega, h3, h4⟩
     | none =>
       have hno := n1 hl
       by_cases e : a = (sAt l k).at_
       · refine ⟨fun h => by simp [e] at h, fun j h => ?_⟩
         have hj : (k : Int) = j := by simpa [e] using h
         exact ⟨k, hj.symm, by omega, ⟨hc.1, e.symm⟩, hno⟩
       · refine ⟨fun _ i hi hh => ?_, fun j h => by simp [e] at h⟩
         rcases Nat.lt_succ_iff_lt_or_eq.1 hi with h | h
         · exact hno i h hh
         · subst h; exact e hh.2.symm
   · rw [if_neg hc]
     refine ⟨fun h i hi hh => ?_, fun j h => ?_⟩
     · rcases Nat.lt_succ_iff_lt_or_eq.1 hi with h' | h'
       · exact n1 h i h' hh
       · subst h'
         refine hc ?_
         rw [Bool.and_eq_true, Option.isNone_iff_eq_none, hh.2]
         exact ⟨hh.1, h⟩
     · obtain ⟨i, h1, h2, h3, h4⟩ := s1 j h
       exact ⟨i, h1, by omega, h3, h4⟩
def kept (l : List Sym) (a : Int) : Option Int := lookI (keptUp l l.length) a
theorem zE {l : List Sym} {a j : Int} (h : kept l a = some j) : 0 ≤ j ∧ j < (l.length : Int) := by
 obtain ⟨i, h1, h2, _⟩ := (zD l l.length a).2 j h
 omega
def invAt (l : List Sym) (old : List Int) (i : Nat) : Sym :=
 match kept l i with
 | some j => ⟨true, j, Go.IntKind.u8.wrap (-(sAt l j.toNat).b)⟩
 | none => ⟨false, 0, old.getD i 0⟩
def invUp (l : List Sym) (old : List Int) (k : Nat) : List Sym := (List.range old.length).map fun i => if i < k then invAt l old i else ⟨false, 0, 0⟩
def invS (l : List Sym) (old : List Int) : List Sym := (List.range old.length).map fun i => invAt l old i
theorem js (l : List Sym) (old : List Int) (k : Nat) : (invUp l old k).length = old.length := by simp [invUp]
theorem jz (l : List Sym) (old : List Int) : (invS l old).length = old.length := by simp [invS]
theorem invS_at {l : List Sym} {old : List Int} {i : Nat} (h : i < old.length) : (invS l old)[i]? = some (invAt l old i) := by
 unfold invS; rw [List.getElem?_map, List.getElem?_range h]; rfl
theorem kL {l : List Sym} {old : List Int} {i k : Nat} (h : i < old.length) : (invUp l old k)[i]? = some (if i < k then invAt l old i else ⟨false, 0, 0⟩) := by
 unfold invUp; rw [List.getElem?_map, List.getElem?_range h]; rfl
theorem invUp_0 (l : List Sym) (old : List Int) : invUp l old 0 = List.replicate old.length ⟨false, 0, 0⟩ := by
 apply List.ext_getElem?
 intro i
 by_cases h : i < old.length
 · rw [kL h, if_neg (by omega), List.getElem?_replicate, if_pos h]
 · rw [List.getElem?_eq_none (by rw [js]; omega), List.getElem?_eq_none (by simp; omega)]
theorem invUp_all (l : List Sym) (old : List Int) : invUp l old old.length = invS l old := List.map_congr_left fun i hi => by rw [if_pos (List.mem_range.1 hi)]
theorem invUp_set {l : List Sym} {old : List Int} {k : Nat} (h : k < old.length) : (invUp l old k).set k (invAt l old k) = invUp l old (k + 1) := by
 apply List.ext_getElem?
 intro i
 rw [List.getElem?_set]
 by_cases hi : i < old.length
 · by_cases e : k = i
   · subst e
     rw [if_pos rfl, if_pos (by rw [js]; exact h), kL h, if_pos (by omega)]
   · rw [if_neg e, kL hi, kL hi]
     by_cases h2 : i < k
     · rw [if_pos h2, if_pos (by omega)]
     · rw [if_neg h2, if_neg (by omega)]
 · rw [if_neg (by omega), List.getElem?_eq_none (by rw [js]; omega), List.getElem?_eq_none (by rw [js]; omega)]
theorem wrapB (x : Int) : 0 ≤ IntKind.u8.wrap x ∧ IntKind.u8.wrap x ≤ 255 := by rw [IntKind.wrap_u8]; omega
theorem invAt_wf {l : List Sym} {old : List Int} (hl : l.length ≤ 1000000) (hb : ∀ y ∈ old, 0 ≤ y ∧ y ≤ 255) {i : Nat} (hi : i < old.length) : (invAt l old i).wf := by
 unfold invAt
 cases h : kept l i with
 | none =>
   have : old.getD i 0 = old[i] := by rw [List.getD_eq_getElem?_getD, List.getElem?_eq_getElem hi]; rfl
   have h2 := hb _ (List.getElem_mem hi)
   refine ⟨by show _ ≤ (0 : Int); omega, by show (0 : Int) ≤ _; omega, ?_, ?_⟩
   · show 0 ≤ old.getD i 0; omega
   · show old.getD i 0 ≤ 255; omega
 | some j =>
   have := zE h
   have hw := wrapB (-(sAt l j.toNat).b)
   exact ⟨by show _ ≤ j; omega, by show j ≤ _; omega, hw.1, hw.2⟩
theorem kW {l : List Sym} {old : List Int} (hl : l.length ≤ 1000000) (hb : ∀ y ∈ old, 0 ≤ y ∧ y ≤ 255) : ∀ s ∈ invS l old, s.wf := fun s hs => by
 obtain ⟨i, hi, rfl⟩ := List.mem_map.1 hs
 exact invAt_wf hl hb (List.mem_range.1 hi)
end Go.Proofs.YtaklmbhfmpdinaaGreat
