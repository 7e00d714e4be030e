/- Lifted code: lowering it gives the code again, reading its form gives it again (plain). Conditions: words are words. -/
import Derived.Test.YtaklmbhfmpdinaaGreatApplyL
set_option linter.unusedSimpArgs false
set_option linter.unusedVariables false
namespace Go.Proofs.YtaklmbhfmpdinaaGreat
open Go Go.RowKit Go.Inl
theorem kY {α : Type} (g : Nat → α) : ∀ (l : List Nat) (acc : List α) (i : Nat), i < acc.length → (l.foldl (fun acc i => acc.set i (g i)) acc)[i]? = if i ∈ l then some (g i) else acc[i]?
 | [], acc, i, h => by simp
 | j :: l, acc, i, h => by
   rw [List.foldl_cons, kY g l (acc.set j (g j)) i (by rw [List.length_set]; exact h)]
   by_cases hi : i ∈ l
   · rw [if_pos hi, if_pos (List.mem_cons_of_mem _ hi)]
   · rw [if_neg hi]
     by_cases hj : j = i
     · subst hj; rw [if_pos (List.mem_cons_self ..), List.getElem?_set_self h]
     · rw [if_neg (by rw [List.mem_cons]; rintro (h' | h'); exact hj h'.symm; exact hi h'), List.getElem?_set_ne hj]
theorem liftW_get {ws ls : List Int} {i : Nat} (h : i < ws.length) : (liftW ws ls (lks ws))[i]? = some (if lnk ws i = true then numAt ws ls i else ws.getD i 0) := by
 unfold liftW
 rw [kY (fun i => numAt ws ls i) (lks ws) ws i h]
 by_cases hl : lnk ws i = true
 · rw [if_pos (kx.2 ⟨h, hl⟩), if_pos hl]
 · rw [if_neg (fun hm => hl (kx.1 hm).2), if_neg hl, qM h]
theorem liftM_get {ws : List Int} {i : Nat} (h : i < ws.length) : (Inl.liftM ws.length (lks ws))[i]? = some (lnk ws i) := by
 unfold Inl.liftM
 rw [kY (fun _ => true) (lks ws) _ i (by rw [List.length_replicate]; exact h)]
 by_cases hl : lnk ws i = true
 · rw [if_pos (kx.2 ⟨h, hl⟩), hl]
 · rw [if_neg (fun hm => hl (kx.1 hm).2), List.getElem?_replicate, if_pos h]
   simp only [Bool.not_eq_true] at hl
   rw [hl]
theorem chunk_getD {m : List Bool} {i : Nat} (hi : i < m.length) : (chunk m (i / 8)).getD (i % 8) false = m.getD i false := by
 unfold chunk
 rw [List.getD_eq_getElem?_getD, List.getElem?_drop, List.getElem?_take, List.getD_eq_getElem?_getD]
 rw [if_pos (by split <;> omega), show 8 * (i / 8) + i % 8 = i by omega]
theorem sorted_last {l : List Int} (h : l.Pairwise (· < ·)) (h0 : ∀ n ∈ l, 0 ≤ n) {k : Nat} (hk : k < l.length) : 0 ≤ l.getD k 0 - lastL l k ∧ 0 ≤ lastL l k := by
 have hkm : l.getD k 0 = l[k] := by rw [List.getD_eq_getElem?_getD, List.getElem?_eq_getElem hk]; rfl
 have hk0 := h0 l[k] (List.getElem_mem hk)
 unfold lastL
 split
 · rw [hkm]; omega
 · have hk1 : k - 1 < l.length := by omega
   have e : l.getD (k - 1) 0 = l[k - 1] := by rw [List.getD_eq_getElem?_getD, List.getElem?_eq_getElem hk1]; rfl
   have := List.pairwise_iff_getElem.1 h (k - 1) k hk1 hk (by omega)
   have := h0 l[k - 1] (List.getElem_mem hk1)
   rw [hkm, e]; omega
end Go.Proofs.YtaklmbhfmpdinaaGreat
