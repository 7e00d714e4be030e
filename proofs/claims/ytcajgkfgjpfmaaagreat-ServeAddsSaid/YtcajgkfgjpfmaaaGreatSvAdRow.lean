/- The law ServeAdds of chapter 30 answers true whatever its arguments, and they read afterwards as they read before. Conditions: none. -/
import Derived.Test.YtcajgkfgjpfmaaaGreatRows
import Derived.Test.YtcajgkfgjpfmaaaGreatRead6
import Derived.Test.YtcajgkfgjpfmaaaGreatSvAd
import Derived.Test.YtcajgkfgjpfmaaaGreatRead30
import Derived.ProofKit
import Derived.OpenShut
import Derived.ChangeOld
import Derived.Below
import Derived.KernelRfl
namespace Go.Proofs.YtcajgkfgjpfmaaaGreat
open Go Go.Inl Go.ChangeShapes Go.WideShapes Go.ChangeAt Go.RowKit
theorem serveAdds_own : ownKnob Tryz.prog.godebug = none := by kernel_rfl
theorem zY : laidOutB Tryz.prog = true := by kernel_rfl
set_option maxRecDepth 100000 in
theorem serveAdds_lifted (os : Os) (started : os.Started) (H : Type) (enc : TypeId × Value → H) :
    ReturnsInHanded {} Tryz.checked os 4 .any (Rows.serveAddsSpec.pre6 enc Tryz.prog Tryz.f4 Rows.serveAddsRow.domain false) (Rows.serveAddsSpec.post enc Tryz.prog Tryz.f4 false true false false) := by
  refine returnsInHanded_of_change (C := Tryz.checked) serveAdds_own started (by kernel_rfl) Tryz.func4
    (ChangeSpec.witness6 (enc := enc) (C := Tryz.checked) false ⟨#[], #[.agg #[.slice none 0 0, .slice none 0 0, .slice none 0 0, .slice none 0 0], .agg #[.int .i64 0, .int .i64 0, .int .i64 0, .int .i64 0, .int .i64 0, .int .i64 0, .int .i64 0, .int .i64 0], .agg #[.int .u8 0, .slice none 0 0]], []⟩ 8 (by kernel_rfl) (by kernel_rfl) (by kernel_rfl) (by kernel_rfl)) ?_
  intro W base args ds gs before hval0 hW hcnd _
  have hval : ∀ (j : Nat) t v, Tryz.f4.params[j]? = some t → args[j]? = some v → Value.okWide Tryz.prog W .any base t v := hval0
  have hW' := hW
  obtain ⟨p, q, hA0, hV, rfl, hfz, hnd⟩ := hW
  have hA : DataW.TrodAll enc Tryz.prog W 0 (fun _ => true) true Tryz.f4.params.toList args.toList ds p := hA0
  rw [Tryz.params4] at hA hval
  obtain ⟨v0, vs0, d0, ds0, p0, w0, hargs, rfl, rfl, h0, t0⟩ := trodAll_cons hA
  obtain ⟨v1, vs1, d1, ds1, p1, w1, rfl, rfl, rfl, h1, t1⟩ := trodAll_cons t0
  obtain ⟨v2, vs2, d2, ds2, p2, w2, rfl, rfl, rfl, h2, t2⟩ := trodAll_cons t1
  obtain ⟨rfl, rfl, rfl⟩ := trodAll_nil t2
  obtain rfl : args = #[v0, v1, v2] := by cases args; simp_all
  obtain ⟨rfl, rfl⟩ := trodVars_none hV
  have k0 := h0
  have lt0 := qI h0
  have k1 := h1
  have lt1 := qI h1
  have k2 := h2
  have lt2 := qI h2
  obtain ⟨_, rfl, av, cv, al, cl, ap, cp, ag, cg, V, Q, X, Z, rfl, ⟨hV, hVb⟩, ⟨hQ, hQw⟩, ⟨hX, hXw⟩, hZ, hZb⟩ := jf (jT Tryz.underlying28 (.inl ⟨_, rfl⟩) (hval 0 28 v0 rfl rfl)) h0 jQ
  obtain ⟨_, rfl, l, rfl, hlf, hlt, hlc⟩ := jf (jT Tryz.underlying60 (.inl ⟨_, rfl⟩) (hval 1 60 v1 rfl rfl)) h1 opens_link
  obtain ⟨_, rfl, r2, a2, m2, l2, rfl, hr2, g2, q2⟩ := jf (jT Tryz.underlying63 (.inl ⟨_, rfl⟩) (hval 2 63 v2 rfl rfl)) h2 opens_raw
  clear hA0 hval0
  refine (sadd_c av al ap ag cv cl cp cg V Q X Z l r2 a2 m2 l2 W (memI W) (zy W) hV hVb hQ hQw hX hXw hZ hZb hr2 g2 q2 : Ctr Tryz.prog 4 _ W _).calls.mono fun e W' ⟨_, he, I', hv, hE⟩ => ?_
  subst hv; subst he
  have bel := Ext.below hE
  exact ⟨_, rfl, _, _, _, [], _, [], hW', trodAll_mk1 (shut_bool Tryz.underlying4 _), (trodAll_cons_mk (Below.trod zY (by kernel_rfl) (of_decide_eq_true (by kernel_rfl)) k0 bel lt0) (trodAll_cons_mk (Below.trod zY (by kernel_rfl) (of_decide_eq_true (by kernel_rfl)) k1 bel lt1) (trodAll_cons_mk (Below.trod zY (by kernel_rfl) (of_decide_eq_true (by kernel_rfl)) k2 bel lt2) trodAll_mk0))), rfl, bel.frame _, fun h => by cases h⟩
/-- THE STATEMENT. -/
theorem serveAdds_holds : Rows.ServeAddsSaid :=
  OpenClaim.holds_of_wide 4 Tryz.f4 rfl rfl rfl rfl rfl rfl rfl ⟨rfl, rfl, rfl, rfl, rfl⟩ rfl rfl rfl rfl rfl (by kernel_rfl) Tryz.func4 (by kernel_rfl)
    (of_decide_eq_true (by kernel_rfl)) (by unfold Func.isWrapper; first | (rw [if_pos (by decide +kernel)]; kernel_rfl) | (rw [if_neg (by decide +kernel)]; exact ⟨rfl, rfl⟩))
    (fun os started H enc _ => serveAdds_lifted os started H enc)
#print axioms serveAdds_holds
end Go.Proofs.YtcajgkfgjpfmaaaGreat
