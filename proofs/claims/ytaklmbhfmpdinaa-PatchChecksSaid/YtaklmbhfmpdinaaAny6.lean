/- patch.Apply and patch.Symbols of any patch whose bytes are bytes: what is refused. Conditions: none. -/
import Derived.Test.YtaklmbhfmpdinaaReadP
import Derived.Test.YtaklmbhfmpdinaaCheckW
import Derived.Test.YtaklmbhfmpdinaaApplyL
import Derived.Test.YtaklmbhfmpdinaaPParts
namespace Go.Proofs.Ytaklmbhfmpdinaa
open Go Go.RowKit Go.Inl
set_option linter.unusedSimpArgs false
set_option linter.unusedVariables false
theorem lowR_e (x : LiftL) : (lowR x).2 ≠ 60 := by unfold lowR; cases lowerP x <;> simp
theorem checkGo_e (n : Int) : ∀ (l : List OpL) (left i : Int), (checkGo n l left i).2 = 0 ∨ (checkGo n l left i).2 = 60
  | [], left, i => by unfold checkGo; split <;> simp
  | x :: r, left, i => by
    unfold checkGo
    split
    · right; rfl
    · exact checkGo_e n r _ _
theorem checkP_e (p : PatL) : (checkP p).2 = 0 ∨ (checkP p).2 = 60 := by
  unfold checkP
  split
  · right; rfl
  · exact checkGo_e _ _ _ _
theorem applyP_e {old : List Int} {p : PatL} (hk : (checkP p).2 = 0) : (applyP old p).2 ≠ 60 := by
  by_cases h : (old.length : Int) = p.in_
  · rw [applyP_right hk h.symm]; simp
  · unfold applyP
    rw [symbolsP_ok hk, if_pos rfl, if_neg h]; simp
theorem applyLP_e {old : List Int} {p : PatL} (hk : (checkP p).2 = 0) : (applyLP old p).2 ≠ 60 := by
  unfold applyLP
  rw [symbolsP_ok hk, if_pos rfl]
  split
  · simp
  · split
    · rename_i h
      rw [runP_right hk h.symm, if_pos rfl]
      split
      · exact lowR_e _
      · simp
    · simp
/-- What patch.Apply of nothing gives. -/
theorem apply_any (p : PatL) (ad : Option Addr) (m cap : Nat) (w0 : World) (I0 : Imm) (hI : Sat I0 w0) (hops : ROps I0 (.slice ad m cap) p.ops) (hb : ∀ x ∈ p.ops, OpB x) :
    Ctr Try.prog 9 [.slice none 0 0, .agg #[.bool p.lifted, .int .i64 p.in_, .int .i64 p.out, .slice ad m cap]] w0 (fun v w' => ∃ I' a n c e, v = .tuple #[.slice a n c, .int .i64 e] ∧ Ext w0 I0 w' I' ∧ (e = 60 ↔ (checkP p).2 ≠ 0)) := by
  by_cases hk : (checkP p).2 = 0
  · have hw := wf_of_ok hk hb
    cases hl : p.lifted
    · have h := apply_c p ad none m cap 0 [] w0 I0 hI hops hw hl RFl.nil
      rw [hl] at h
      refine h.mono ?_
      rintro v w' ⟨I', a, c, rfl, hE, _⟩
      exact ⟨I', a, _, c, _, rfl, hE, iff_of_false (applyP_e hk) (by simp [hk])⟩
    · have h := applyl_c p ad none m cap 0 [] _ _ w0 I0 hI hops hw hl RFl.nil (by simp [Byts]) (by simp) rfl
      rw [hl] at h
      refine h.mono ?_
      rintro v w' ⟨I', a, c, rfl, hE, _⟩
      exact ⟨I', a, _, c, _, rfl, hE, iff_of_false (applyLP_e hk) (by simp [hk])⟩
  · refine (apply_bad p ad none m cap 0 0 w0 I0 hI hops hk).mono ?_
    rintro v w' ⟨rfl, hE⟩
    exact ⟨I0, none, 0, 0, _, rfl, hE, iff_of_true ((checkP_e p).resolve_left hk) hk⟩
theorem symbols_any (p : PatL) (ad : Option Addr) (m cap : Nat) (w0 : World) (I0 : Imm) (hI : Sat I0 w0) (hops : ROps I0 (.slice ad m cap) p.ops) (hb : ∀ x ∈ p.ops, OpB x) :
    Ctr Try.prog 10 [.agg #[.bool p.lifted, .int .i64 p.in_, .int .i64 p.out, .slice ad m cap]] w0 (fun v w' => ∃ I' a n c, v = .tuple #[.slice a n c, .int .i64 (checkP p).2] ∧ Ext w0 I0 w' I' ∧ ((checkP p).2 ≠ 0 → n = 0)) := by
  by_cases hk : (checkP p).2 = 0
  · refine (symbols_L p ad m cap _ _ w0 I0 hI hops (wf_of_ok hk hb) (symbolsP_ok hk)).mono ?_
    rintro v w' ⟨I', a, c, rfl, hE, _⟩
    exact ⟨I', a, _, c, by rw [hk], hE, fun h => absurd hk h⟩
  · refine (symbols_bad p ad m cap w0 I0 hI hops hk).mono ?_
    rintro v w' ⟨rfl, hE⟩
    exact ⟨I0, none, 0, 0, rfl, hE, fun _ => rfl⟩

end Go.Proofs.Ytaklmbhfmpdinaa

