/- The law PatchMakes of chapter 06 answers true whatever its arguments, and they read afterwards as they read before. Conditions: none. -/
import Derived.Test.YthfgchcdilodlaaRows
import Derived.Test.YthfgchcdilodlaaRead6
import Derived.Test.YthfgchcdilodlaaPMakes
import Derived.ProofKit
import Derived.OpenShut
import Derived.ChangeOld
import Derived.Below
import Derived.KernelRfl
namespace Go.Proofs.Ythfgchcdilodlaa
open Go Go.Inl Go.ChangeShapes Go.WideShapes Go.ChangeAt Go.RowKit
theorem patchMakes_own : ownKnob Try.prog.godebug = none := by kernel_rfl
theorem patchMakes_laid : laidOutB Try.prog = true := by kernel_rfl
set_option maxRecDepth 100000 in
theorem patchMakes_lifted (os : Os) (started : os.Started) (H : Type) (enc : TypeId × Value → H) :
    ReturnsInHanded {} Try.checked os 5 .any (Rows.patchMakesSpec.pre6 enc Try.prog Try.f5 Rows.patchMakesRow.domain false) (Rows.patchMakesSpec.post enc Try.prog Try.f5 false true false false) := by
  refine returnsInHanded_of_change (C := Try.checked) patchMakes_own started (by kernel_rfl) Try.func5
    (ChangeSpec.witness6 (enc := enc) (C := Try.checked) false ⟨#[], #[.slice none 0 0, .int .u8 0, .agg #[.int .i8 0, .int .i8 0, .int .i8 0]], []⟩ 8 (by kernel_rfl) (by kernel_rfl) (by kernel_rfl) (by kernel_rfl)) ?_
  intro W base args ds gs before hval0 hW hcnd _
  have hval : ∀ (j : Nat) t v, Try.f5.params[j]? = some t → args[j]? = some v → Value.okWide Try.prog W .any base t v := hval0
  have hW' := hW
  obtain ⟨p, q, hA0, hV, rfl, hfz, hnd⟩ := hW
  have hA : DataW.TrodAll enc Try.prog W 0 (fun _ => true) true Try.f5.params.toList args.toList ds p := hA0
  rw [Try.params5] at hA hval
  obtain ⟨v0, vs0, d0, ds0, p0, w0, hargs, rfl, rfl, h0, t0⟩ := trodAll_cons hA
  obtain ⟨v1, vs1, d1, ds1, p1, w1, rfl, rfl, rfl, h1, t1⟩ := trodAll_cons t0
  obtain ⟨v2, vs2, d2, ds2, p2, w2, rfl, rfl, rfl, h2, t2⟩ := trodAll_cons t1
  obtain ⟨rfl, rfl, rfl⟩ := trodAll_nil t2
  obtain rfl : args = #[v0, v1, v2] := by cases args; simp_all
  obtain ⟨rfl, rfl⟩ := trodVars_none hV
  have k0 := h0
  have lt0 := trod_places_lt h0
  have k1 := h1
  have lt1 := trod_places_lt h1
  have k2 := h2
  have lt2 := trod_places_lt h2
  obtain ⟨a0, m0, l0, e0, g0, q0⟩ := read_one (base := base) (ok_slice Try.underlying53 (hval 0 53 v0 rfl rfl)) h0 opens_q2s
  obtain rfl := (List.cons.inj e0).1
  obtain ⟨x1, e1, hx1⟩ := read_one (base := base) (ok_int Try.underlying5 (hval 1 5 v1 rfl rfl)) h1 (opens_int (k := .u8) Try.underlying5)
  obtain rfl := (List.cons.inj e1).1
  replace hx1 := u8_of hx1
  obtain ⟨_, rfl, z2, rfl, hz2, hw2⟩ := read_agg (ok_agg Try.underlying55 (.inr ⟨_, _, rfl⟩) (hval 2 55 v2 rfl rfl)) h2 (opens_array (k := .i8) (n := 3) Try.underlying55 Try.underlying54 (by kernel_rfl) (by kernel_rfl))
  obtain ⟨x2_0, x2_1, x2_2, rfl⟩ := list3 hz2
  have hx2_0 := i8_of (hw2 x2_0 (by simp))
  have hx2_1 := i8_of (hw2 x2_1 (by simp))
  have hx2_2 := i8_of (hw2 x2_2 (by simp))
  clear hA0 hval0
  refine (pmakes_c a0 m0 l0 x1 x2_0 x2_1 x2_2 W (memI W) (memI_sat W) g0 q0 hx1 hx2_0 hx2_1 hx2_2 : Ctr Try.prog 5 _ W _).calls.mono fun e W' ⟨_, he, I', hv, hE⟩ => ?_
  subst hv; subst he
  have bel := Ext.below hE
  exact ⟨_, rfl, _, _, _, [], _, [], hW', trodAll_mk1 (shut_bool Try.underlying4 _), (trodAll_cons_mk (Below.trod patchMakes_laid (by kernel_rfl) (of_decide_eq_true (by kernel_rfl)) k0 bel lt0) (trodAll_cons_mk (Below.trod patchMakes_laid (by kernel_rfl) (of_decide_eq_true (by kernel_rfl)) k1 bel lt1) (trodAll_cons_mk (Below.trod patchMakes_laid (by kernel_rfl) (of_decide_eq_true (by kernel_rfl)) k2 bel lt2) trodAll_mk0))), rfl, bel.frame _, fun h => by cases h⟩
/-- THE STATEMENT. -/
theorem patchMakes_holds : Rows.PatchMakesSaid :=
  OpenClaim.holds_of_wide 5 Try.f5 rfl rfl rfl rfl rfl rfl rfl ⟨rfl, rfl, rfl, rfl, rfl⟩ rfl rfl rfl rfl rfl (by kernel_rfl) Try.func5 (by kernel_rfl)
    (of_decide_eq_true (by kernel_rfl)) (by unfold Func.isWrapper; first | (rw [if_pos (by decide +kernel)]; kernel_rfl) | (rw [if_neg (by decide +kernel)]; exact ⟨rfl, rfl⟩))
    (fun os started H enc _ => patchMakes_lifted os started H enc)
#print axioms patchMakes_holds
end Go.Proofs.Ythfgchcdilodlaa
