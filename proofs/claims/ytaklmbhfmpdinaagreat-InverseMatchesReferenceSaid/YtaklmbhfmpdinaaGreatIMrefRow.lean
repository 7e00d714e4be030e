/- The law InverseMatchesReference of chapter 10 answers true whatever its arguments, and they read afterwards as they read before. Conditions: none. -/
import Derived.Test.YtaklmbhfmpdinaaGreatRows
import Derived.Test.YtaklmbhfmpdinaaGreatRead6
import Derived.Test.YtaklmbhfmpdinaaGreatIMref
import Derived.Test.YtaklmbhfmpdinaaGreatRead2
import Derived.ProofKit
import Derived.OpenShut
import Derived.ChangeOld
import Derived.Below
import Derived.KernelRfl
namespace Go.Proofs.YtaklmbhfmpdinaaGreat
open Go Go.Inl Go.ChangeShapes Go.WideShapes Go.ChangeAt Go.RowKit
theorem inverseMatchesReference_own : ownKnob Tryz.prog.godebug = none := by kernel_rfl
theorem qZ : laidOutB Tryz.prog = true := by kernel_rfl
set_option maxRecDepth 100000 in
theorem inverseMatchesReference_lifted (os : Os) (started : os.Started) (H : Type) (enc : TypeId × Value → H) :
    ReturnsInHanded {} Tryz.checked os 3 .any (Rows.inverseMatchesReferenceSpec.pre6 enc Tryz.prog Tryz.f3 Rows.inverseMatchesReferenceRow.domain false) (Rows.inverseMatchesReferenceSpec.post enc Tryz.prog Tryz.f3 false true false false) := by
  refine returnsInHanded_of_change (C := Tryz.checked) inverseMatchesReference_own started (by kernel_rfl) Tryz.func3
    (ChangeSpec.witness6 (enc := enc) (C := Tryz.checked) false ⟨#[], #[.agg #[.int .u8 0, .slice none 0 0], .slice none 0 0, .agg #[.slice none 0 0, .slice none 0 0]], []⟩ 8 (by kernel_rfl) (by kernel_rfl) (by kernel_rfl) (by kernel_rfl)) ?_
  intro W base args ds gs before hval0 hW hcnd _
  have hval : ∀ (j : Nat) t v, Tryz.f3.params[j]? = some t → args[j]? = some v → Value.okWide Tryz.prog W .any base t v := hval0
  have hW' := hW
  obtain ⟨p, q, hA0, hV, rfl, hfz, hnd⟩ := hW
  have hA : DataW.TrodAll enc Tryz.prog W 0 (fun _ => true) true Tryz.f3.params.toList args.toList ds p := hA0
  rw [Tryz.params3] at hA hval
  obtain ⟨v0, vs0, d0, ds0, p0, w0, hargs, rfl, rfl, h0, t0⟩ := trodAll_cons hA
  obtain ⟨v1, vs1, d1, ds1, p1, w1, rfl, rfl, rfl, h1, t1⟩ := trodAll_cons t0
  obtain ⟨v2, vs2, d2, ds2, p2, w2, rfl, rfl, rfl, h2, t2⟩ := trodAll_cons t1
  obtain ⟨rfl, rfl, rfl⟩ := trodAll_nil t2
  obtain rfl : args = #[v0, v1, v2] := by cases args; simp_all
  obtain ⟨rfl, rfl⟩ := trodVars_none hV
  have k0 := h0
  have lt0 := kj h0
  have k1 := h1
  have lt1 := kj h1
  have k2 := h2
  have lt2 := kj h2
  obtain ⟨_, rfl, r0, a0, m0, l0, rfl, hr0, g0, q0⟩ := read_agg (ok_agg Tryz.underlying24 (.inl ⟨_, rfl⟩) (hval 0 24 v0 rfl rfl)) h0 opens_raw
  obtain ⟨a1, m1, l1, e1, g1, q1⟩ := read_one (base := base) (ok_slice Tryz.underlying25 (hval 1 25 v1 rfl rfl)) h1 (opens_bytes Tryz.underlying25 Tryz.underlying5 (by kernel_rfl))
  obtain rfl := (List.cons.inj e1).1
  obtain ⟨_, rfl, css2, rfl, hn2, hR2⟩ := read_agg (ok_agg Tryz.underlying27 (.inr ⟨_, _, rfl⟩) (hval 2 27 v2 rfl rfl)) h2 (opens_arrR (n := 2) (sz := 1) Tryz.underlying27 (by kernel_rfl) (by kernel_rfl) opens_r2s)
  obtain ⟨c2_0, c2_1, rfl⟩ := list2v hn2
  obtain ⟨a2_0, m2_0, l2_0, rfl, g2_0, q2_0⟩ := hR2 c2_0 (by simp)
  obtain ⟨a2_1, m2_1, l2_1, rfl, g2_1, q2_1⟩ := hR2 c2_1 (by simp)
  clear hA0 hval0
  refine (imref_c a2_0 a2_1 m2_0 m2_1 l2_0 l2_1 r0 a0 a1 m0 m1 l0 l1 W (memI W) (memI_sat W) hr0 g0 q0 g1 q1 g2_0 q2_0 g2_1 q2_1 : Ctr Tryz.prog 3 _ W _).calls.mono fun e W' ⟨_, he, I', hv, hE⟩ => ?_
  subst hv; subst he
  have bel := Ext.below hE
  exact ⟨_, rfl, _, _, _, [], _, [], hW', trodAll_mk1 (shut_bool Tryz.underlying4 _), (trodAll_cons_mk (Below.trod qZ (by kernel_rfl) (of_decide_eq_true (by kernel_rfl)) k0 bel lt0) (trodAll_cons_mk (Below.trod qZ (by kernel_rfl) (of_decide_eq_true (by kernel_rfl)) k1 bel lt1) (trodAll_cons_mk (Below.trod qZ (by kernel_rfl) (of_decide_eq_true (by kernel_rfl)) k2 bel lt2) trodAll_mk0))), rfl, bel.frame _, fun h => by cases h⟩
/-- THE STATEMENT. -/
theorem inverseMatchesReference_holds : Rows.InverseMatchesReferenceSaid :=
  OpenClaim.holds_of_wide 3 Tryz.f3 rfl rfl rfl rfl rfl rfl rfl ⟨rfl, rfl, rfl, rfl, rfl⟩ rfl rfl rfl rfl rfl (by kernel_rfl) Tryz.func3 (by kernel_rfl)
    (of_decide_eq_true (by kernel_rfl)) (by unfold Func.isWrapper; first | (rw [if_pos (by decide +kernel)]; kernel_rfl) | (rw [if_neg (by decide +kernel)]; exact ⟨rfl, rfl⟩))
    (fun os started H enc _ => inverseMatchesReference_lifted os started H enc)
#print axioms inverseMatchesReference_holds
end Go.Proofs.YtaklmbhfmpdinaaGreat
