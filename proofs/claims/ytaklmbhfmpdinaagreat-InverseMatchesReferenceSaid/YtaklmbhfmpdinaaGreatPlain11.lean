/- Plain laws of merging: ranges, clashes, merged symbols. Conditions: none. -/
import Derived.Test.YtaklmbhfmpdinaaGreatMade11
import Derived.Test.YtaklmbhfmpdinaaGreatKComp
import Derived.Test.YtaklmbhfmpdinaaGreatKCut
set_option linter.unusedSimpArgs false
set_option linter.unusedVariables false
namespace Go.Proofs.YtaklmbhfmpdinaaGreat
open Go Go.RowKit Go.Inl
/-! ### Ranges -/
structure RgOk (R : List (Int × Int)) (N : Int) : Prop where
 each : ∀ r ∈ R, 0 ≤ r.1 ∧ r.1 < r.2 ∧ r.2 ≤ N
 sep : ∀ (i : Nat) (r s : Int × Int), R[i]? = some r → R[i + 1]? = some s → r.2 < s.1
theorem rgOk_snoc {D : List (Int × Int)} {N : Int} {x : Int × Int} (h : RgOk D N) (h1 : 0 ≤ x.1 ∧ x.1 < x.2 ∧ x.2 ≤ N) (h2 : ∀ r, D.getLast? = some r → r.2 < x.1) : RgOk (D ++ [x]) N := by
 refine ⟨fun r hr => ?_, fun i r s hr hs => ?_⟩
 · rcases List.mem_append.1 hr with hr | hr
   · exact h.each r hr
   · simp only [List.mem_singleton] at hr; subst hr; exact h1
 · have hil : i + 1 < D.length + 1 := by have := (List.getElem?_eq_some_iff.1 hs).1; simpa using this
   rw [List.getElem?_append_left (by omega)] at hr
   by_cases hi : i + 1 < D.length
   · rw [List.getElem?_append_left hi] at hs
     exact h.sep i r s hr hs
   · rw [List.getElem?_append_right (by omega), show i + 1 - D.length = 0 by omega] at hs
     obtain rfl : x = s := by simpa using hs
     refine h2 r ?_
     rw [List.getLast?_eq_getElem?, show D.length - 1 = i by omega]; exact hr
theorem yG {R : List (Int × Int)} {N M : Int} (h : RgOk R N) (hM : N ≤ M) : RgOk R M := ⟨fun r hr => by have := h.each r hr; omega, h.sep⟩
theorem rgOk_init {D : List (Int × Int)} {N : Int} {x : Int × Int} (h : RgOk (D ++ [x]) N) : RgOk D N := by
 refine ⟨fun r hr => h.each r (by simp [hr]), fun i r s hr hs => h.sep i r s ?_ ?_⟩
 · rw [List.getElem?_append_left (List.getElem?_eq_some_iff.1 hr).1]; exact hr
 · rw [List.getElem?_append_left (List.getElem?_eq_some_iff.1 hs).1]; exact hs
theorem vy (f : Nat → Bool) : ∀ N : Nat, RgOk (rngs N f) N
 | 0 => ⟨fun r hr => by simp [rngs_zero] at hr, fun i r s hr => by simp [rngs_zero] at hr⟩
 | N + 1 => by
   have ih := vy f N
   rw [yF]
   split
   · by_cases h : 0 < (rngs N f).length ∧ (lastR (rngs N f)).2 = N
     · obtain ⟨D, hD, _⟩ := lastR_split h.1
       generalize lastR (rngs N f) = r at hD h
       rw [hD] at ih ⊢
       rw [extR_same h.2]
       have hr := ih.each r (by simp)
       refine rgOk_snoc (yG (rgOk_init ih) (by omega)) ⟨hr.1, by show r.1 < (N : Int) + 1; omega, by show (N : Int) + 1 ≤ _; omega⟩ ?_
       intro s hs
       have hl : D[D.length - 1]? = some s := by rw [← List.getLast?_eq_getElem?]; exact hs
       have hlt := (List.getElem?_eq_some_iff.1 hl).1
       refine ih.sep (D.length - 1) s r ?_ ?_
       · rw [List.getElem?_append_left (by omega)]; exact hl
       · rw [List.getElem?_append_right (by omega), show D.length - 1 + 1 - D.length = 0 by omega]; rfl
     · rw [extR_new h]
       refine rgOk_snoc (yG ih (by omega)) ⟨by show (0 : Int) ≤ N; omega, by show (N : Int) < N + 1; omega, by show (N : Int) + 1 ≤ _; omega⟩ ?_
       intro s hs
       have h1 := (ih.each s (List.mem_of_getLast? hs)).2.2
       have h2 : 0 < (rngs N f).length := List.length_pos_iff.2 (fun e => by rw [e] at hs; simp at hs)
       have h3 := ju h2
       rw [hs] at h3
       obtain rfl := Option.some.inj h3
       have : (lastR (rngs N f)).2 ≠ N := fun e => h ⟨h2, e⟩
       show _ < (N : Int)
       omega
   · exact yG ih (by omega)
end Go.Proofs.YtaklmbhfmpdinaaGreat
