/- The law ServeCollects of chapter 30 answers true whatever its arguments, and they read afterwards as they read before. Conditions: none. -/
import Derived.Test.YtcajgkfgjpfmaaaGreatRows
import Derived.Test.YtcajgkfgjpfmaaaGreatRead6
import Derived.Test.YtcajgkfgjpfmaaaGreatSvCol
import Derived.Test.YtcajgkfgjpfmaaaGreatRead30
import Derived.ProofKit
import Derived.OpenShut
import Derived.ChangeOld
import Derived.Below
import Derived.KernelRfl
namespace Go.Proofs.YtcajgkfgjpfmaaaGreat
open Go Go.Inl Go.ChangeShapes Go.WideShapes Go.ChangeAt Go.RowKit
theorem serveCollects_own : ownKnob Tryz.prog.godebug = none := by kernel_rfl
theorem kG : laidOutB Tryz.prog = true := by kernel_rfl
set_option maxRecDepth 100000 in
theorem serveCollects_lifted (os : Os) (started : os.Started) (H : Type) (enc : TypeId × Value → H) :
    ReturnsInHanded {} Tryz.checked os 7 .any (Rows.serveCollectsSpec.pre6 enc Tryz.prog Tryz.f7 Rows.serveCollectsRow.domain false) (Rows.serveCollectsSpec.post enc Tryz.prog Tryz.f7 false true false false) := by
  refine returnsInHanded_of_change (C := Tryz.checked) serveCollects_own started (by kernel_rfl) Tryz.func7
    (ChangeSpec.witness6 (enc := enc) (C := Tryz.checked) false ⟨#[], #[.agg #[.slice none 0 0, .slice none 0 0, .slice none 0 0, .slice none 0 0], .slice none 0 0, .agg #[.int .u8 0, .int .u8 0, .int .u8 0]], []⟩ 8 (by kernel_rfl) (by kernel_rfl) (by kernel_rfl) (by kernel_rfl)) ?_
  intro W base args ds gs before hval0 hW hcnd _
  have hval : ∀ (j : Nat) t v, Tryz.f7.params[j]? = some t → args[j]? = some v → Value.okWide Tryz.prog W .any base t v := hval0
  have hW' := hW
  obtain ⟨p, q, hA0, hV, rfl, hfz, hnd⟩ := hW
  have hA : DataW.TrodAll enc Tryz.prog W 0 (fun _ => true) true Tryz.f7.params.toList args.toList ds p := hA0
  rw [Tryz.params7] at hA hval
  obtain ⟨v0, vs0, d0, ds0, p0, w0, hargs, rfl, rfl, h0, t0⟩ := trodAll_cons hA
  obtain ⟨v1, vs1, d1, ds1, p1, w1, rfl, rfl, rfl, h1, t1⟩ := trodAll_cons t0
  obtain ⟨v2, vs2, d2, ds2, p2, w2, rfl, rfl, rfl, h2, t2⟩ := trodAll_cons t1
  obtain ⟨rfl, rfl, rfl⟩ := trodAll_nil t2
  obtain rfl : args = #[v0, v1, v2] := by cases args; simp_all
  obtain ⟨rfl, rfl⟩ := trodVars_none hV
  have k0 := h0
  have lt0 := qI h0
  have k1 := h1
  have lt1 := qI h1
  have k2 := h2
  have lt2 := qI h2
  obtain ⟨_, rfl, av, cv, al, cl, ap, cp, ag, cg, V, Q, X, Z, rfl, ⟨hV, hVb⟩, ⟨hQ, hQw⟩, ⟨hX, hXw⟩, hZ, hZb⟩ := jf (jT Tryz.underlying28 (.inl ⟨_, rfl⟩) (hval 0 28 v0 rfl rfl)) h0 jQ
  obtain ⟨a1, m1, l1, e1, g1, q1⟩ := read_one (base := base) (ok_slice Tryz.underlying22 (hval 1 22 v1 rfl rfl)) h1 (yk Tryz.underlying22 Tryz.underlying5 (by kernel_rfl))
  obtain rfl := (List.cons.inj e1).1
  obtain ⟨_, rfl, z2, rfl, hz2, hw2⟩ := jf (jT Tryz.underlying29 (.inr ⟨_, _, rfl⟩) (hval 2 29 v2 rfl rfl)) h2 (jx (k := .u8) (n := 3) Tryz.underlying29 Tryz.underlying5 (by kernel_rfl) (by kernel_rfl))
  obtain ⟨x2_0, x2_1, x2_2, rfl⟩ := list3 hz2
  have hx2_0 := u8_of (hw2 x2_0 (by simp))
  have hx2_1 := u8_of (hw2 x2_1 (by simp))
  have hx2_2 := u8_of (hw2 x2_2 (by simp))
  clear hA0 hval0
  refine (scol_c av al ap ag cv cl cp cg V Q X Z a1 m1 l1 x2_0 x2_1 x2_2 W (memI W) (zy W) hV hVb hQ hQw hX hXw hZ hZb g1 q1 hx2_0 hx2_1 hx2_2 : Ctr Tryz.prog 7 _ W _).calls.mono fun e W' ⟨_, he, I', hv, hE⟩ => ?_
  subst hv; subst he
  have bel := Ext.below hE
  exact ⟨_, rfl, _, _, _, [], _, [], hW', trodAll_mk1 (shut_bool Tryz.underlying4 _), (trodAll_cons_mk (Below.trod kG (by kernel_rfl) (of_decide_eq_true (by kernel_rfl)) k0 bel lt0) (trodAll_cons_mk (Below.trod kG (by kernel_rfl) (of_decide_eq_true (by kernel_rfl)) k1 bel lt1) (trodAll_cons_mk (Below.trod kG (by kernel_rfl) (of_decide_eq_true (by kernel_rfl)) k2 bel lt2) trodAll_mk0))), rfl, bel.frame _, fun h => by cases h⟩
/-- THE STATEMENT. -/
theorem serveCollects_holds : Rows.ServeCollectsSaid :=
  OpenClaim.holds_of_wide 7 Tryz.f7 rfl rfl rfl rfl rfl rfl rfl ⟨rfl, rfl, rfl, rfl, rfl⟩ rfl rfl rfl rfl rfl (by kernel_rfl) Tryz.func7 (by kernel_rfl)
    (of_decide_eq_true (by kernel_rfl)) (by unfold Func.isWrapper; first | (rw [if_pos (by decide +kernel)]; kernel_rfl) | (rw [if_neg (by decide +kernel)]; exact ⟨rfl, rfl⟩))
    (fun os started H enc _ => serveCollects_lifted os started H enc)
#print axioms serveCollects_holds
end Go.Proofs.YtcajgkfgjpfmaaaGreat
