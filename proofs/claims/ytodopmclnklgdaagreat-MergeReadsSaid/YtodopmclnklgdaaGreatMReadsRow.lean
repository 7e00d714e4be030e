/- The law MergeReads of chapter 11 answers true whatever its arguments, and they read afterwards as they read before. Conditions: none. -/
import Derived.Test.YtodopmclnklgdaaGreatRows
import Derived.Test.YtodopmclnklgdaaGreatRead6
import Derived.Test.YtodopmclnklgdaaGreatMReads
import Derived.Test.YtodopmclnklgdaaGreatRead11
import Derived.ProofKit
import Derived.OpenShut
import Derived.ChangeOld
import Derived.Below
import Derived.KernelRfl
namespace Go.Proofs.YtodopmclnklgdaaGreat
open Go Go.Inl Go.ChangeShapes Go.WideShapes Go.ChangeAt Go.RowKit
theorem mergeReads_own : ownKnob Tryz.prog.godebug = none := by kernel_rfl
theorem mergeReads_laid : laidOutB Tryz.prog = true := by kernel_rfl
set_option maxRecDepth 100000 in
theorem mergeReads_lifted (os : Os) (started : os.Started) (H : Type) (enc : TypeId × Value → H) :
    ReturnsInHanded {} Tryz.checked os 5 .any (Rows.mergeReadsSpec.pre6 enc Tryz.prog Tryz.f5 Rows.mergeReadsRow.domain false) (Rows.mergeReadsSpec.post enc Tryz.prog Tryz.f5 false true false false) := by
  refine returnsInHanded_of_change (C := Tryz.checked) mergeReads_own started (by kernel_rfl) Tryz.func5
    (ChangeSpec.witness6 (enc := enc) (C := Tryz.checked) false ⟨#[], #[.agg #[.int .u8 0, .slice none 0 0], .agg #[.slice none 0 0, .slice none 0 0]], []⟩ 8 (by kernel_rfl) (by kernel_rfl) (by kernel_rfl) (by kernel_rfl)) ?_
  intro W base args ds gs before hval0 hW hcnd _
  have hval : ∀ (j : Nat) t v, Tryz.f5.params[j]? = some t → args[j]? = some v → Value.okWide Tryz.prog W .any base t v := hval0
  have hW' := hW
  obtain ⟨p, q, hA0, hV, rfl, hfz, hnd⟩ := hW
  have hA : DataW.TrodAll enc Tryz.prog W 0 (fun _ => true) true Tryz.f5.params.toList args.toList ds p := hA0
  rw [Tryz.params5] at hA hval
  obtain ⟨v0, vs0, d0, ds0, p0, w0, hargs, rfl, rfl, h0, t0⟩ := trodAll_cons hA
  obtain ⟨v1, vs1, d1, ds1, p1, w1, rfl, rfl, rfl, h1, t1⟩ := trodAll_cons t0
  obtain ⟨rfl, rfl, rfl⟩ := trodAll_nil t1
  obtain rfl : args = #[v0, v1] := by cases args; simp_all
  obtain ⟨rfl, rfl⟩ := trodVars_none hV
  have k0 := h0
  have lt0 := trod_places_lt h0
  have k1 := h1
  have lt1 := trod_places_lt h1
  obtain ⟨_, rfl, r0, a0, m0, l0, rfl, hr0, g0, q0⟩ := read_agg (ok_agg Tryz.underlying48 (.inl ⟨_, rfl⟩) (hval 0 48 v0 rfl rfl)) h0 opens_raw11
  obtain ⟨_, rfl, css1, rfl, hn1, hR1⟩ := read_agg (ok_agg Tryz.underlying49 (.inr ⟨_, _, rfl⟩) (hval 1 49 v1 rfl rfl)) h1 (opens_arrR (n := 2) (sz := 1) Tryz.underlying49 (by kernel_rfl) (by kernel_rfl) (opens_bytes Tryz.underlying25 Tryz.underlying5 (by kernel_rfl)))
  obtain ⟨c1_0, c1_1, rfl⟩ := list2v hn1
  obtain ⟨a1_0, m1_0, l1_0, rfl, g1_0, q1_0⟩ := hR1 c1_0 (by simp)
  obtain ⟨a1_1, m1_1, l1_1, rfl, g1_1, q1_1⟩ := hR1 c1_1 (by simp)
  clear hA0 hval0
  refine (mreads_c r0 a0 a1_0 a1_1 m0 m1_0 m1_1 l0 l1_0 l1_1 W (memI W) (memI_sat W) hr0 g0 q0 g1_0 q1_0 g1_1 q1_1 : Ctr Tryz.prog 5 _ W _).calls.mono fun e W' ⟨_, he, I', hv, hE⟩ => ?_
  subst hv; subst he
  have bel := Ext.below hE
  exact ⟨_, rfl, _, _, _, [], _, [], hW', trodAll_mk1 (shut_bool Tryz.underlying4 _), (trodAll_cons_mk (Below.trod mergeReads_laid (by kernel_rfl) (of_decide_eq_true (by kernel_rfl)) k0 bel lt0) (trodAll_cons_mk (Below.trod mergeReads_laid (by kernel_rfl) (of_decide_eq_true (by kernel_rfl)) k1 bel lt1) trodAll_mk0)), rfl, bel.frame _, fun h => by cases h⟩
/-- THE STATEMENT. -/
theorem mergeReads_holds : Rows.MergeReadsSaid :=
  OpenClaim.holds_of_wide 5 Tryz.f5 rfl rfl rfl rfl rfl rfl rfl ⟨rfl, rfl, rfl, rfl, rfl⟩ rfl rfl rfl rfl rfl (by kernel_rfl) Tryz.func5 (by kernel_rfl)
    (of_decide_eq_true (by kernel_rfl)) (by unfold Func.isWrapper; first | (rw [if_pos (by decide +kernel)]; kernel_rfl) | (rw [if_neg (by decide +kernel)]; exact ⟨rfl, rfl⟩))
    (fun os started H enc _ => mergeReads_lifted os started H enc)
#print axioms mergeReads_holds
end Go.Proofs.YtodopmclnklgdaaGreat
