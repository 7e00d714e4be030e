/- The law PatchChecks of chapter 06 answers true whatever its arguments, and they read afterwards as they read before. Conditions: none. -/
import Derived.Test.YtaklmbhfmpdinaaRows
import Derived.Test.YtaklmbhfmpdinaaRead6
import Derived.Test.YtaklmbhfmpdinaaPChecks
import Derived.Test.YtaklmbhfmpdinaaReadP
import Derived.ProofKit
import Derived.OpenShut
import Derived.ChangeOld
import Derived.Below
import Derived.KernelRfl
namespace Go.Proofs.Ytaklmbhfmpdinaa
open Go Go.Inl Go.ChangeShapes Go.WideShapes Go.ChangeAt Go.RowKit
theorem patchChecks_own : ownKnob Try.prog.godebug = none := by kernel_rfl
theorem patchChecks_laid : laidOutB Try.prog = true := by kernel_rfl
set_option maxRecDepth 100000 in
theorem patchChecks_lifted (os : Os) (started : os.Started) (H : Type) (enc : TypeId × Value → H) :
    ReturnsInHanded {} Try.checked os 3 .any (Rows.patchChecksSpec.pre6 enc Try.prog Try.f3 Rows.patchChecksRow.domain false) (Rows.patchChecksSpec.post enc Try.prog Try.f3 false true false false) := by
  refine returnsInHanded_of_change (C := Try.checked) patchChecks_own started (by kernel_rfl) Try.func3
    (ChangeSpec.witness6 (enc := enc) (C := Try.checked) false ⟨#[], #[.agg #[.bool false, .int .i64 0, .int .i64 0, .slice none 0 0], .agg #[.int .u8 0, .slice none 0 0], .agg #[.int .i16 0, .int .i16 0, .int .i16 0, .int .i16 0]], []⟩ 8 (by kernel_rfl) (by kernel_rfl) (by kernel_rfl) (by kernel_rfl)) ?_
  intro W base args ds gs before hval0 hW hcnd _
  have hval : ∀ (j : Nat) t v, Try.f3.params[j]? = some t → args[j]? = some v → Value.okWide Try.prog W .any base t v := hval0
  have hW' := hW
  obtain ⟨p, q, hA0, hV, rfl, hfz, hnd⟩ := hW
  have hA : DataW.TrodAll enc Try.prog W 0 (fun _ => true) true Try.f3.params.toList args.toList ds p := hA0
  rw [Try.params3] at hA hval
  obtain ⟨v0, vs0, d0, ds0, p0, w0, hargs, rfl, rfl, h0, t0⟩ := trodAll_cons hA
  obtain ⟨v1, vs1, d1, ds1, p1, w1, rfl, rfl, rfl, h1, t1⟩ := trodAll_cons t0
  obtain ⟨v2, vs2, d2, ds2, p2, w2, rfl, rfl, rfl, h2, t2⟩ := trodAll_cons t1
  obtain ⟨rfl, rfl, rfl⟩ := trodAll_nil t2
  obtain rfl : args = #[v0, v1, v2] := by cases args; simp_all
  obtain ⟨rfl, rfl⟩ := trodVars_none hV
  have k0 := h0
  have lt0 := trod_places_lt h0
  have k1 := h1
  have lt1 := trod_places_lt h1
  have k2 := h2
  have lt2 := trod_places_lt h2
  obtain ⟨_, rfl, p0, a0, m0, c0, rfl, g0, q0⟩ := read_agg (ok_agg Try.underlying24 (.inl ⟨_, rfl⟩) (hval 0 24 v0 rfl rfl)) h0 opens_pat
  obtain ⟨_, rfl, r1, a1, m1, l1, rfl, hr1, g1, q1⟩ := read_agg (ok_agg Try.underlying27 (.inl ⟨_, rfl⟩) (hval 1 27 v1 rfl rfl)) h1 opens_raw
  obtain ⟨_, rfl, z2, rfl, hz2, hw2⟩ := read_agg (ok_agg Try.underlying29 (.inr ⟨_, _, rfl⟩) (hval 2 29 v2 rfl rfl)) h2 (opens_array (k := .i16) (n := 4) Try.underlying29 Try.underlying28 (by kernel_rfl) (by kernel_rfl))
  obtain ⟨x2_0, x2_1, x2_2, x2_3, rfl⟩ := list4 hz2
  have hx2_0 := i16_of (hw2 x2_0 (by simp))
  have hx2_1 := i16_of (hw2 x2_1 (by simp))
  have hx2_2 := i16_of (hw2 x2_2 (by simp))
  have hx2_3 := i16_of (hw2 x2_3 (by simp))
  clear hA0 hval0
  refine (pchecks_c p0 a0 m0 c0 r1 a1 m1 l1 x2_0 x2_1 x2_2 x2_3 W (memI W) (memI_sat W) g0 q0 hr1 g1 q1 hx2_1 : Ctr Try.prog 3 _ W _).calls.mono fun e W' ⟨_, he, I', hv, hE⟩ => ?_
  subst hv; subst he
  have bel := Ext.below hE
  exact ⟨_, rfl, _, _, _, [], _, [], hW', trodAll_mk1 (shut_bool Try.underlying4 _), (trodAll_cons_mk (Below.trod patchChecks_laid (by kernel_rfl) (of_decide_eq_true (by kernel_rfl)) k0 bel lt0) (trodAll_cons_mk (Below.trod patchChecks_laid (by kernel_rfl) (of_decide_eq_true (by kernel_rfl)) k1 bel lt1) (trodAll_cons_mk (Below.trod patchChecks_laid (by kernel_rfl) (of_decide_eq_true (by kernel_rfl)) k2 bel lt2) trodAll_mk0))), rfl, bel.frame _, fun h => by cases h⟩
/-- THE STATEMENT. -/
theorem patchChecks_holds : Rows.PatchChecksSaid :=
  OpenClaim.holds_of_wide 3 Try.f3 rfl rfl rfl rfl rfl rfl rfl ⟨rfl, rfl, rfl, rfl, rfl⟩ rfl rfl rfl rfl rfl (by kernel_rfl) Try.func3 (by kernel_rfl)
    (of_decide_eq_true (by kernel_rfl)) (by unfold Func.isWrapper; first | (rw [if_pos (by decide +kernel)]; kernel_rfl) | (rw [if_neg (by decide +kernel)]; exact ⟨rfl, rfl⟩))
    (fun os started H enc _ => patchChecks_lifted os started H enc)
#print axioms patchChecks_holds
end Go.Proofs.Ytaklmbhfmpdinaa
