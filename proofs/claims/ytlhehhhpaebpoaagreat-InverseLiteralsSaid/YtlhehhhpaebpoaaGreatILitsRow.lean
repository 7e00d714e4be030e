/- The law InverseLiterals of chapter 10 answers true whatever its arguments, and they read afterwards as they read before. Conditions: none. -/
import Derived.Test.YtlhehhhpaebpoaaGreatRows
import Derived.Test.YtlhehhhpaebpoaaGreatRead6
import Derived.Test.YtlhehhhpaebpoaaGreatILits
import Derived.ProofKit
import Derived.OpenShut
import Derived.ChangeOld
import Derived.Below
import Derived.KernelRfl
namespace Go.Proofs.YtlhehhhpaebpoaaGreat
open Go Go.Inl Go.ChangeShapes Go.WideShapes Go.ChangeAt Go.RowKit
theorem inverseLiterals_own : ownKnob Tryz.prog.godebug = none := by kernel_rfl
theorem inverseLiterals_laid : laidOutB Tryz.prog = true := by kernel_rfl
set_option maxRecDepth 100000 in
theorem inverseLiterals_lifted (os : Os) (started : os.Started) (H : Type) (enc : TypeId × Value → H) :
    ReturnsInHanded {} Tryz.checked os 6 .any (Rows.inverseLiteralsSpec.pre6 enc Tryz.prog Tryz.f6 Rows.inverseLiteralsRow.domain false) (Rows.inverseLiteralsSpec.post enc Tryz.prog Tryz.f6 false true false false) := by
  refine returnsInHanded_of_change (C := Tryz.checked) inverseLiterals_own started (by kernel_rfl) Tryz.func6
    (ChangeSpec.witness6 (enc := enc) (C := Tryz.checked) false ⟨#[], #[.agg #[.int .u8 0, .slice none 0 0], .slice none 0 0], []⟩ 8 (by kernel_rfl) (by kernel_rfl) (by kernel_rfl) (by kernel_rfl)) ?_
  intro W base args ds gs before hval0 hW hcnd _
  have hval : ∀ (j : Nat) t v, Tryz.f6.params[j]? = some t → args[j]? = some v → Value.okWide Tryz.prog W .any base t v := hval0
  have hW' := hW
  obtain ⟨p, q, hA0, hV, rfl, hfz, hnd⟩ := hW
  have hA : DataW.TrodAll enc Tryz.prog W 0 (fun _ => true) true Tryz.f6.params.toList args.toList ds p := hA0
  rw [Tryz.params6] at hA hval
  obtain ⟨v0, vs0, d0, ds0, p0, w0, hargs, rfl, rfl, h0, t0⟩ := trodAll_cons hA
  obtain ⟨v1, vs1, d1, ds1, p1, w1, rfl, rfl, rfl, h1, t1⟩ := trodAll_cons t0
  obtain ⟨rfl, rfl, rfl⟩ := trodAll_nil t1
  obtain rfl : args = #[v0, v1] := by cases args; simp_all
  obtain ⟨rfl, rfl⟩ := trodVars_none hV
  have k0 := h0
  have lt0 := trod_places_lt h0
  have k1 := h1
  have lt1 := trod_places_lt h1
  obtain ⟨_, rfl, r0, a0, m0, l0, rfl, hr0, g0, q0⟩ := read_agg (ok_agg Tryz.underlying24 (.inl ⟨_, rfl⟩) (hval 0 24 v0 rfl rfl)) h0 opens_raw
  obtain ⟨a1, m1, l1, e1, g1, q1⟩ := read_one (base := base) (ok_slice Tryz.underlying25 (hval 1 25 v1 rfl rfl)) h1 (opens_bytes Tryz.underlying25 Tryz.underlying5 (by kernel_rfl))
  obtain rfl := (List.cons.inj e1).1
  clear hA0 hval0
  refine (ilits_c r0 a0 a1 m0 m1 l0 l1 W (memI W) (memI_sat W) hr0 g0 q0 g1 q1 : Ctr Tryz.prog 6 _ W _).calls.mono fun e W' ⟨_, he, I', hv, hE⟩ => ?_
  subst hv; subst he
  have bel := Ext.below hE
  exact ⟨_, rfl, _, _, _, [], _, [], hW', trodAll_mk1 (shut_bool Tryz.underlying4 _), (trodAll_cons_mk (Below.trod inverseLiterals_laid (by kernel_rfl) (of_decide_eq_true (by kernel_rfl)) k0 bel lt0) (trodAll_cons_mk (Below.trod inverseLiterals_laid (by kernel_rfl) (of_decide_eq_true (by kernel_rfl)) k1 bel lt1) trodAll_mk0)), rfl, bel.frame _, fun h => by cases h⟩
/-- THE STATEMENT. -/
theorem inverseLiterals_holds : Rows.InverseLiteralsSaid :=
  OpenClaim.holds_of_wide 6 Tryz.f6 rfl rfl rfl rfl rfl rfl rfl ⟨rfl, rfl, rfl, rfl, rfl⟩ rfl rfl rfl rfl rfl (by kernel_rfl) Tryz.func6 (by kernel_rfl)
    (of_decide_eq_true (by kernel_rfl)) (by unfold Func.isWrapper; first | (rw [if_pos (by decide +kernel)]; kernel_rfl) | (rw [if_neg (by decide +kernel)]; exact ⟨rfl, rfl⟩))
    (fun os started H enc _ => inverseLiterals_lifted os started H enc)
#print axioms inverseLiterals_holds
end Go.Proofs.YtlhehhhpaebpoaaGreat
