/- The law SplitRefuses of chapter 12 answers true whatever its arguments, and they read afterwards as they read before. Conditions: none. -/
import Derived.Test.YthningkgpanaoaaRows
import Derived.Test.YthningkgpanaoaaRead6
import Derived.Test.YthningkgpanaoaaSRefuses
import Derived.ProofKit
import Derived.OpenShut
import Derived.ChangeOld
import Derived.Below
import Derived.KernelRfl
namespace Go.Proofs.Ythningkgpanaoaa
open Go Go.Inl Go.ChangeShapes Go.WideShapes Go.ChangeAt Go.RowKit
theorem splitRefuses_own : ownKnob Try.prog.godebug = none := by kernel_rfl
theorem splitRefuses_laid : laidOutB Try.prog = true := by kernel_rfl
set_option maxRecDepth 100000 in
theorem splitRefuses_lifted (os : Os) (started : os.Started) (H : Type) (enc : TypeId × Value → H) :
    ReturnsInHanded {} Try.checked os 11 .any (Rows.splitRefusesSpec.pre6 enc Try.prog Try.f11 Rows.splitRefusesRow.domain false) (Rows.splitRefusesSpec.post enc Try.prog Try.f11 false true false false) := by
  refine returnsInHanded_of_change (C := Try.checked) splitRefuses_own started (by kernel_rfl) Try.func11
    (ChangeSpec.witness6 (enc := enc) (C := Try.checked) false ⟨#[], #[.agg #[.int .u8 0, .slice none 0 0, .int .u8 0, .slice none 0 0, .int .u8 0, .slice none 0 0], .agg #[.bool false, .bool false, .bool false], .int .i16 0], []⟩ 8 (by kernel_rfl) (by kernel_rfl) (by kernel_rfl) (by kernel_rfl)) ?_
  intro W base args ds gs before hval0 hW hcnd _
  have hval : ∀ (j : Nat) t v, Try.f11.params[j]? = some t → args[j]? = some v → Value.okWide Try.prog W .any base t v := hval0
  have hW' := hW
  obtain ⟨p, q, hA0, hV, rfl, hfz, hnd⟩ := hW
  have hA : DataW.TrodAll enc Try.prog W 0 (fun _ => true) true Try.f11.params.toList args.toList ds p := hA0
  rw [Try.params11] at hA hval
  obtain ⟨v0, vs0, d0, ds0, p0, w0, hargs, rfl, rfl, h0, t0⟩ := trodAll_cons hA
  obtain ⟨v1, vs1, d1, ds1, p1, w1, rfl, rfl, rfl, h1, t1⟩ := trodAll_cons t0
  obtain ⟨v2, vs2, d2, ds2, p2, w2, rfl, rfl, rfl, h2, t2⟩ := trodAll_cons t1
  obtain ⟨rfl, rfl, rfl⟩ := trodAll_nil t2
  obtain rfl : args = #[v0, v1, v2] := by cases args; simp_all
  obtain ⟨rfl, rfl⟩ := trodVars_none hV
  have k0 := h0
  have lt0 := trod_places_lt h0
  have k1 := h1
  have lt1 := trod_places_lt h1
  have k2 := h2
  have lt2 := trod_places_lt h2
  obtain ⟨_, rfl, css0, rfl, hn0, hR0⟩ := read_agg (ok_agg Try.underlying78 (.inr ⟨_, _, rfl⟩) (hval 0 78 v0 rfl rfl)) h0 (opens_arrR (n := 3) (sz := 2) Try.underlying78 (by kernel_rfl) (by kernel_rfl) opens_raw)
  obtain ⟨c0_0, c0_1, c0_2, rfl⟩ := list3v hn0
  obtain ⟨r0_0, a0_0, m0_0, l0_0, rfl, hr0_0, g0_0, q0_0⟩ := hR0 c0_0 (by simp)
  obtain ⟨r0_1, a0_1, m0_1, l0_1, rfl, hr0_1, g0_1, q0_1⟩ := hR0 c0_1 (by simp)
  obtain ⟨r0_2, a0_2, m0_2, l0_2, rfl, hr0_2, g0_2, q0_2⟩ := hR0 c0_2 (by simp)
  obtain ⟨_, rfl, css1, rfl, hn1, hR1⟩ := read_agg (ok_agg Try.underlying49 (.inr ⟨_, _, rfl⟩) (hval 1 49 v1 rfl rfl)) h1 (opens_arrR (n := 3) (sz := 1) Try.underlying49 (by kernel_rfl) (by kernel_rfl) (opens_bool Try.underlying4))
  obtain ⟨c1_0, c1_1, c1_2, rfl⟩ := list3v hn1
  obtain ⟨x1_0, rfl⟩ := hR1 c1_0 (by simp)
  obtain ⟨x1_1, rfl⟩ := hR1 c1_1 (by simp)
  obtain ⟨x1_2, rfl⟩ := hR1 c1_2 (by simp)
  obtain ⟨x2, e2, hx2⟩ := read_one (base := base) (ok_int Try.underlying79 (hval 2 79 v2 rfl rfl)) h2 (opens_int (k := .i16) Try.underlying79)
  obtain rfl := (List.cons.inj e2).1
  replace hx2 := i16_of hx2
  clear hA0 hval0
  refine (srefuses_c r0_0 r0_1 r0_2 x2 a0_0 a0_1 a0_2 m0_0 m0_1 m0_2 l0_0 l0_1 l0_2 x1_0 x1_1 x1_2 W (memI W) (memI_sat W) hr0_0 g0_0 q0_0 g0_1 q0_1 g0_2 q0_2 hx2 : Ctr Try.prog 11 _ W _).calls.mono fun e W' ⟨_, he, I', hv, hE⟩ => ?_
  subst hv; subst he
  have bel := Ext.below hE
  exact ⟨_, rfl, _, _, _, [], _, [], hW', trodAll_mk1 (shut_bool Try.underlying4 _), (trodAll_cons_mk (Below.trod splitRefuses_laid (by kernel_rfl) (of_decide_eq_true (by kernel_rfl)) k0 bel lt0) (trodAll_cons_mk (Below.trod splitRefuses_laid (by kernel_rfl) (of_decide_eq_true (by kernel_rfl)) k1 bel lt1) (trodAll_cons_mk (Below.trod splitRefuses_laid (by kernel_rfl) (of_decide_eq_true (by kernel_rfl)) k2 bel lt2) trodAll_mk0))), rfl, bel.frame _, fun h => by cases h⟩
/-- THE STATEMENT. -/
theorem splitRefuses_holds : Rows.SplitRefusesSaid :=
  OpenClaim.holds_of_wide 11 Try.f11 rfl rfl rfl rfl rfl rfl rfl ⟨rfl, rfl, rfl, rfl, rfl⟩ rfl rfl rfl rfl rfl (by kernel_rfl) Try.func11 (by kernel_rfl)
    (of_decide_eq_true (by kernel_rfl)) (by unfold Func.isWrapper; first | (rw [if_pos (by decide +kernel)]; kernel_rfl) | (rw [if_neg (by decide +kernel)]; exact ⟨rfl, rfl⟩))
    (fun os started H enc _ => splitRefuses_lifted os started H enc)
#print axioms splitRefuses_holds
end Go.Proofs.Ythningkgpanaoaa
