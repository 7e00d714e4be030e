/- The law ServeMatchesReference of chapter 30 answers true whatever its arguments, and they read afterwards as they read before. Conditions: none. -/
import Derived.Test.YtcajgkfgjpfmaaaGreatRows
import Derived.Test.YtcajgkfgjpfmaaaGreatRead6
import Derived.Test.YtcajgkfgjpfmaaaGreatSvMr
import Derived.Test.YtcajgkfgjpfmaaaGreatRead30
import Derived.ProofKit
import Derived.OpenShut
import Derived.ChangeOld
import Derived.Below
import Derived.KernelRfl
namespace Go.Proofs.YtcajgkfgjpfmaaaGreat
open Go Go.Inl Go.ChangeShapes Go.WideShapes Go.ChangeAt Go.RowKit
theorem serveMatchesReference_own : ownKnob Tryz.prog.godebug = none := by kernel_rfl
theorem qX : laidOutB Tryz.prog = true := by kernel_rfl
set_option maxRecDepth 100000 in
theorem serveMatchesReference_lifted (os : Os) (started : os.Started) (H : Type) (enc : TypeId × Value → H) :
    ReturnsInHanded {} Tryz.checked os 3 .any (Rows.serveMatchesReferenceSpec.pre6 enc Tryz.prog Tryz.f3 Rows.serveMatchesReferenceRow.domain false) (Rows.serveMatchesReferenceSpec.post enc Tryz.prog Tryz.f3 false true false false) := by
  refine returnsInHanded_of_change (C := Tryz.checked) serveMatchesReference_own started (by kernel_rfl) Tryz.func3
    (ChangeSpec.witness6 (enc := enc) (C := Tryz.checked) false ⟨#[], #[.agg #[.slice none 0 0, .slice none 0 0, .slice none 0 0, .slice none 0 0], .agg #[.int .u8 0, .int .u8 0, .int .u8 0], .agg #[.int .u8 0, .int .u8 0, .int .u8 0]], []⟩ 8 (by kernel_rfl) (by kernel_rfl) (by kernel_rfl) (by kernel_rfl)) ?_
  intro W base args ds gs before hval0 hW hcnd _
  have hval : ∀ (j : Nat) t v, Tryz.f3.params[j]? = some t → args[j]? = some v → Value.okWide Tryz.prog W .any base t v := hval0
  have hW' := hW
  obtain ⟨p, q, hA0, hV, rfl, hfz, hnd⟩ := hW
  have hA : DataW.TrodAll enc Tryz.prog W 0 (fun _ => true) true Tryz.f3.params.toList args.toList ds p := hA0
  rw [Tryz.params3] at hA hval
  obtain ⟨v0, vs0, d0, ds0, p0, w0, hargs, rfl, rfl, h0, t0⟩ := trodAll_cons hA
  obtain ⟨v1, vs1, d1, ds1, p1, w1, rfl, rfl, rfl, h1, t1⟩ := trodAll_cons t0
  obtain ⟨v2, vs2, d2, ds2, p2, w2, rfl, rfl, rfl, h2, t2⟩ := trodAll_cons t1
  obtain ⟨rfl, rfl, rfl⟩ := trodAll_nil t2
  obtain rfl : args = #[v0, v1, v2] := by cases args; simp_all
  obtain ⟨rfl, rfl⟩ := trodVars_none hV
  have k0 := h0
  have lt0 := kp h0
  have k1 := h1
  have lt1 := kp h1
  have k2 := h2
  have lt2 := kp h2
  obtain ⟨_, rfl, av, cv, al, cl, ap, cp, ag, cg, V, Q, X, Z, rfl, ⟨hV, hVb⟩, ⟨hQ, hQw⟩, ⟨hX, hXw⟩, hZ, hZb⟩ := ve (xe Tryz.underlying28 (.inl ⟨_, rfl⟩) (hval 0 28 v0 rfl rfl)) h0 opens_raw30
  obtain ⟨_, rfl, z1, rfl, hz1, hw1⟩ := ve (xe Tryz.underlying29 (.inr ⟨_, _, rfl⟩) (hval 1 29 v1 rfl rfl)) h1 (kz (k := .u8) (n := 3) Tryz.underlying29 Tryz.underlying5 (by kernel_rfl) (by kernel_rfl))
  obtain ⟨x1_0, x1_1, x1_2, rfl⟩ := list3 hz1
  have hx1_0 := u8_of (hw1 x1_0 (by simp))
  have hx1_1 := u8_of (hw1 x1_1 (by simp))
  have hx1_2 := u8_of (hw1 x1_2 (by simp))
  obtain ⟨_, rfl, z2, rfl, hz2, hw2⟩ := ve (xe Tryz.underlying29 (.inr ⟨_, _, rfl⟩) (hval 2 29 v2 rfl rfl)) h2 (kz (k := .u8) (n := 3) Tryz.underlying29 Tryz.underlying5 (by kernel_rfl) (by kernel_rfl))
  obtain ⟨x2_0, x2_1, x2_2, rfl⟩ := list3 hz2
  have hx2_0 := u8_of (hw2 x2_0 (by simp))
  have hx2_1 := u8_of (hw2 x2_1 (by simp))
  have hx2_2 := u8_of (hw2 x2_2 (by simp))
  clear hA0 hval0
  refine (smatch_c av al ap ag cv cl cp cg V Q X Z x1_0 x1_1 x1_2 x2_0 x2_1 x2_2 W (memI W) (memI_sat W) hV hVb hQ hQw hX hXw hZ hZb hx1_0 hx1_1 hx1_2 hx2_0 hx2_1 hx2_2 : Ctr Tryz.prog 3 _ W _).calls.mono fun e W' ⟨_, he, I', hv, hE⟩ => ?_
  subst hv; subst he
  have bel := Ext.below hE
  exact ⟨_, rfl, _, _, _, [], _, [], hW', trodAll_mk1 (shut_bool Tryz.underlying4 _), (trodAll_cons_mk (Below.trod qX (by kernel_rfl) (of_decide_eq_true (by kernel_rfl)) k0 bel lt0) (trodAll_cons_mk (Below.trod qX (by kernel_rfl) (of_decide_eq_true (by kernel_rfl)) k1 bel lt1) (trodAll_cons_mk (Below.trod qX (by kernel_rfl) (of_decide_eq_true (by kernel_rfl)) k2 bel lt2) trodAll_mk0))), rfl, bel.frame _, fun h => by cases h⟩
/-- THE STATEMENT. -/
theorem serveMatchesReference_holds : Rows.ServeMatchesReferenceSaid :=
  OpenClaim.holds_of_wide 3 Tryz.f3 rfl rfl rfl rfl rfl rfl rfl ⟨rfl, rfl, rfl, rfl, rfl⟩ rfl rfl rfl rfl rfl (by kernel_rfl) Tryz.func3 (by kernel_rfl)
    (of_decide_eq_true (by kernel_rfl)) (by unfold Func.isWrapper; first | (rw [if_pos (by decide +kernel)]; kernel_rfl) | (rw [if_neg (by decide +kernel)]; exact ⟨rfl, rfl⟩))
    (fun os started H enc _ => serveMatchesReference_lifted os started H enc)
#print axioms serveMatchesReference_holds
end Go.Proofs.YtcajgkfgjpfmaaaGreat
