/- The law PatchParts of chapter 06 answers true whatever its arguments, and they read afterwards as they read before. Conditions: none. -/
import Derived.Test.YthfgchcdilodlaaRows
import Derived.Test.YthfgchcdilodlaaRead6
import Derived.Test.YthfgchcdilodlaaPParts
import Derived.ProofKit
import Derived.OpenShut
import Derived.ChangeOld
import Derived.Below
import Derived.KernelRfl
namespace Go.Proofs.Ythfgchcdilodlaa
open Go Go.Inl Go.ChangeShapes Go.WideShapes Go.ChangeAt Go.RowKit
theorem patchParts_own : ownKnob Try.prog.godebug = none := by kernel_rfl
theorem patchParts_laid : laidOutB Try.prog = true := by kernel_rfl
set_option maxRecDepth 100000 in
theorem patchParts_lifted (os : Os) (started : os.Started) (H : Type) (enc : TypeId × Value → H) :
    ReturnsInHanded {} Try.checked os 6 .any (Rows.patchPartsSpec.pre6 enc Try.prog Try.f6 Rows.patchPartsRow.domain false) (Rows.patchPartsSpec.post enc Try.prog Try.f6 false true false false) := by
  refine returnsInHanded_of_change (C := Try.checked) patchParts_own started (by kernel_rfl) Try.func6
    (ChangeSpec.witness6 (enc := enc) (C := Try.checked) false ⟨#[], #[.agg #[.int .u8 0, .slice none 0 0], .agg #[.int .u8 0, .slice none 0 0], .slice none 0 0], []⟩ 8 (by kernel_rfl) (by kernel_rfl) (by kernel_rfl) (by kernel_rfl)) ?_
  intro W base args ds gs before hval0 hW hcnd _
  have hval : ∀ (j : Nat) t v, Try.f6.params[j]? = some t → args[j]? = some v → Value.okWide Try.prog W .any base t v := hval0
  have hW' := hW
  obtain ⟨p, q, hA0, hV, rfl, hfz, hnd⟩ := hW
  have hA : DataW.TrodAll enc Try.prog W 0 (fun _ => true) true Try.f6.params.toList args.toList ds p := hA0
  rw [Try.params6] at hA hval
  obtain ⟨v0, vs0, d0, ds0, p0, w0, hargs, rfl, rfl, h0, t0⟩ := trodAll_cons hA
  obtain ⟨v1, vs1, d1, ds1, p1, w1, rfl, rfl, rfl, h1, t1⟩ := trodAll_cons t0
  obtain ⟨v2, vs2, d2, ds2, p2, w2, rfl, rfl, rfl, h2, t2⟩ := trodAll_cons t1
  obtain ⟨rfl, rfl, rfl⟩ := trodAll_nil t2
  obtain rfl : args = #[v0, v1, v2] := by cases args; simp_all
  obtain ⟨rfl, rfl⟩ := trodVars_none hV
  have k0 := h0
  have lt0 := trod_places_lt h0
  have k1 := h1
  have lt1 := trod_places_lt h1
  have k2 := h2
  have lt2 := trod_places_lt h2
  obtain ⟨_, rfl, r0, a0, m0, l0, rfl, hr0, g0, q0⟩ := read_agg (ok_agg Try.underlying27 (.inl ⟨_, rfl⟩) (hval 0 27 v0 rfl rfl)) h0 opens_raw
  obtain ⟨_, rfl, r1, a1, m1, l1, rfl, hr1, g1, q1⟩ := read_agg (ok_agg Try.underlying27 (.inl ⟨_, rfl⟩) (hval 1 27 v1 rfl rfl)) h1 opens_raw
  obtain ⟨a2, m2, l2, e2, g2, q2⟩ := read_one (base := base) (ok_slice Try.underlying33 (hval 2 33 v2 rfl rfl)) h2 (opens_bytes Try.underlying33 Try.underlying5 (by kernel_rfl))
  obtain rfl := (List.cons.inj e2).1
  clear hA0 hval0
  refine (pparts_c r0 r1 a0 a1 a2 m0 m1 m2 l0 l1 l2 W (memI W) (memI_sat W) hr0 g0 q0 g1 q1 g2 q2 : Ctr Try.prog 6 _ W _).calls.mono fun e W' ⟨_, he, I', hv, hE⟩ => ?_
  subst hv; subst he
  have bel := Ext.below hE
  exact ⟨_, rfl, _, _, _, [], _, [], hW', trodAll_mk1 (shut_bool Try.underlying4 _), (trodAll_cons_mk (Below.trod patchParts_laid (by kernel_rfl) (of_decide_eq_true (by kernel_rfl)) k0 bel lt0) (trodAll_cons_mk (Below.trod patchParts_laid (by kernel_rfl) (of_decide_eq_true (by kernel_rfl)) k1 bel lt1) (trodAll_cons_mk (Below.trod patchParts_laid (by kernel_rfl) (of_decide_eq_true (by kernel_rfl)) k2 bel lt2) trodAll_mk0))), rfl, bel.frame _, fun h => by cases h⟩
/-- THE STATEMENT. -/
theorem patchParts_holds : Rows.PatchPartsSaid :=
  OpenClaim.holds_of_wide 6 Try.f6 rfl rfl rfl rfl rfl rfl rfl ⟨rfl, rfl, rfl, rfl, rfl⟩ rfl rfl rfl rfl rfl (by kernel_rfl) Try.func6 (by kernel_rfl)
    (of_decide_eq_true (by kernel_rfl)) (by unfold Func.isWrapper; first | (rw [if_pos (by decide +kernel)]; kernel_rfl) | (rw [if_neg (by decide +kernel)]; exact ⟨rfl, rfl⟩))
    (fun os started H enc _ => patchParts_lifted os started H enc)
#print axioms patchParts_holds
end Go.Proofs.Ythfgchcdilodlaa
