/- The law ServeWithdraws of chapter 30 answers true whatever its arguments, and they read afterwards as they read before. Conditions: none. -/
import Derived.Test.YtcajgkfgjpfmaaaGreatRows
import Derived.Test.YtcajgkfgjpfmaaaGreatRead6
import Derived.Test.YtcajgkfgjpfmaaaGreatSvWd
import Derived.Test.YtcajgkfgjpfmaaaGreatRead30
import Derived.ProofKit
import Derived.OpenShut
import Derived.ChangeOld
import Derived.Below
import Derived.KernelRfl
namespace Go.Proofs.YtcajgkfgjpfmaaaGreat
open Go Go.Inl Go.ChangeShapes Go.WideShapes Go.ChangeAt Go.RowKit
theorem serveWithdraws_own : ownKnob Tryz.prog.godebug = none := by kernel_rfl
theorem kE : laidOutB Tryz.prog = true := by kernel_rfl
set_option maxRecDepth 100000 in
theorem serveWithdraws_lifted (os : Os) (started : os.Started) (H : Type) (enc : TypeId × Value → H) :
    ReturnsInHanded {} Tryz.checked os 9 .any (Rows.serveWithdrawsSpec.pre6 enc Tryz.prog Tryz.f9 Rows.serveWithdrawsRow.domain false) (Rows.serveWithdrawsSpec.post enc Tryz.prog Tryz.f9 false true false false) := by
  refine returnsInHanded_of_change (C := Tryz.checked) serveWithdraws_own started (by kernel_rfl) Tryz.func9
    (ChangeSpec.witness6 (enc := enc) (C := Tryz.checked) false ⟨#[], #[.agg #[.slice none 0 0, .slice none 0 0, .slice none 0 0, .slice none 0 0], .agg #[.int .u8 0, .int .u8 0], .agg #[.int .u8 0, .slice none 0 0]], []⟩ 8 (by kernel_rfl) (by kernel_rfl) (by kernel_rfl) (by kernel_rfl)) ?_
  intro W base args ds gs before hval0 hW hcnd _
  have hval : ∀ (j : Nat) t v, Tryz.f9.params[j]? = some t → args[j]? = some v → Value.okWide Tryz.prog W .any base t v := hval0
  have hW' := hW
  obtain ⟨p, q, hA0, hV, rfl, hfz, hnd⟩ := hW
  have hA : DataW.TrodAll enc Tryz.prog W 0 (fun _ => true) true Tryz.f9.params.toList args.toList ds p := hA0
  rw [Tryz.params9] at hA hval
  obtain ⟨v0, vs0, d0, ds0, p0, w0, hargs, rfl, rfl, h0, t0⟩ := trodAll_cons hA
  obtain ⟨v1, vs1, d1, ds1, p1, w1, rfl, rfl, rfl, h1, t1⟩ := trodAll_cons t0
  obtain ⟨v2, vs2, d2, ds2, p2, w2, rfl, rfl, rfl, h2, t2⟩ := trodAll_cons t1
  obtain ⟨rfl, rfl, rfl⟩ := trodAll_nil t2
  obtain rfl : args = #[v0, v1, v2] := by cases args; simp_all
  obtain ⟨rfl, rfl⟩ := trodVars_none hV
  have k0 := h0
  have lt0 := qI h0
  have k1 := h1
  have lt1 := qI h1
  have k2 := h2
  have lt2 := qI h2
  obtain ⟨_, rfl, av, cv, al, cl, ap, cp, ag, cg, V, Q, X, Z, rfl, ⟨hV, hVb⟩, ⟨hQ, hQw⟩, ⟨hX, hXw⟩, hZ, hZb⟩ := jf (jT Tryz.underlying28 (.inl ⟨_, rfl⟩) (hval 0 28 v0 rfl rfl)) h0 jQ
  obtain ⟨_, rfl, z1, rfl, hz1, hw1⟩ := jf (jT Tryz.underlying85 (.inr ⟨_, _, rfl⟩) (hval 1 85 v1 rfl rfl)) h1 (jx (k := .u8) (n := 2) Tryz.underlying85 Tryz.underlying5 (by kernel_rfl) (by kernel_rfl))
  obtain ⟨x1_0, x1_1, rfl⟩ := list2 hz1
  have hx1_0 := u8_of (hw1 x1_0 (by simp))
  have hx1_1 := u8_of (hw1 x1_1 (by simp))
  obtain ⟨_, rfl, r2, a2, m2, l2, rfl, hr2, g2, q2⟩ := jf (jT Tryz.underlying63 (.inl ⟨_, rfl⟩) (hval 2 63 v2 rfl rfl)) h2 opens_raw
  clear hA0 hval0
  refine (swd_c av al ap ag cv cl cp cg V Q X Z x1_0 x1_1 r2 a2 m2 l2 W (memI W) (zy W) hV hVb hQ hQw hX hXw hZ hZb hx1_0 g2 q2 : Ctr Tryz.prog 9 _ W _).calls.mono fun e W' ⟨_, he, I', hv, hE⟩ => ?_
  subst hv; subst he
  have bel := Ext.below hE
  exact ⟨_, rfl, _, _, _, [], _, [], hW', trodAll_mk1 (shut_bool Tryz.underlying4 _), (trodAll_cons_mk (Below.trod kE (by kernel_rfl) (of_decide_eq_true (by kernel_rfl)) k0 bel lt0) (trodAll_cons_mk (Below.trod kE (by kernel_rfl) (of_decide_eq_true (by kernel_rfl)) k1 bel lt1) (trodAll_cons_mk (Below.trod kE (by kernel_rfl) (of_decide_eq_true (by kernel_rfl)) k2 bel lt2) trodAll_mk0))), rfl, bel.frame _, fun h => by cases h⟩
/-- THE STATEMENT. -/
theorem serveWithdraws_holds : Rows.ServeWithdrawsSaid :=
  OpenClaim.holds_of_wide 9 Tryz.f9 rfl rfl rfl rfl rfl rfl rfl ⟨rfl, rfl, rfl, rfl, rfl⟩ rfl rfl rfl rfl rfl (by kernel_rfl) Tryz.func9 (by kernel_rfl)
    (of_decide_eq_true (by kernel_rfl)) (by unfold Func.isWrapper; first | (rw [if_pos (by decide +kernel)]; kernel_rfl) | (rw [if_neg (by decide +kernel)]; exact ⟨rfl, rfl⟩))
    (fun os started H enc _ => serveWithdraws_lifted os started H enc)
#print axioms serveWithdraws_holds
end Go.Proofs.YtcajgkfgjpfmaaaGreat
