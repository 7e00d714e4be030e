/- The law MergeMatchesReference of chapter 11 answers true whatever its arguments, and they read afterwards as they read before. Conditions: none. -/
import Derived.Test.YtalemnjjljnnpaaRows
import Derived.Test.YtalemnjjljnnpaaRead6
import Derived.Test.YtalemnjjljnnpaaMMref
import Derived.Test.YtalemnjjljnnpaaRead11
import Derived.ProofKit
import Derived.OpenShut
import Derived.ChangeOld
import Derived.Below
import Derived.KernelRfl
namespace Go.Proofs.Ytalemnjjljnnpaa
open Go Go.Inl Go.ChangeShapes Go.WideShapes Go.ChangeAt Go.RowKit
theorem mergeMatchesReference_own : ownKnob Try.prog.godebug = none := by kernel_rfl
theorem mergeMatchesReference_laid : laidOutB Try.prog = true := by kernel_rfl
set_option maxRecDepth 100000 in
theorem mergeMatchesReference_lifted (os : Os) (started : os.Started) (H : Type) (enc : TypeId × Value → H) :
    ReturnsInHanded {} Try.checked os 3 .any (Rows.mergeMatchesReferenceSpec.pre6 enc Try.prog Try.f3 Rows.mergeMatchesReferenceRow.domain false) (Rows.mergeMatchesReferenceSpec.post enc Try.prog Try.f3 false true false false) := by
  refine returnsInHanded_of_change (C := Try.checked) mergeMatchesReference_own started (by kernel_rfl) Try.func3
    (ChangeSpec.witness6 (enc := enc) (C := Try.checked) false ⟨#[], #[.agg #[.int .u8 0, .slice none 0 0, .int .u8 0, .slice none 0 0], .agg #[.int .u8 0, .slice none 0 0], .int .u8 0], []⟩ 8 (by kernel_rfl) (by kernel_rfl) (by kernel_rfl) (by kernel_rfl)) ?_
  intro W base args ds gs before hval0 hW hcnd _
  have hval : ∀ (j : Nat) t v, Try.f3.params[j]? = some t → args[j]? = some v → Value.okWide Try.prog W .any base t v := hval0
  have hW' := hW
  obtain ⟨p, q, hA0, hV, rfl, hfz, hnd⟩ := hW
  have hA : DataW.TrodAll enc Try.prog W 0 (fun _ => true) true Try.f3.params.toList args.toList ds p := hA0
  rw [Try.params3] at hA hval
  obtain ⟨v0, vs0, d0, ds0, p0, w0, hargs, rfl, rfl, h0, t0⟩ := trodAll_cons hA
  obtain ⟨v1, vs1, d1, ds1, p1, w1, rfl, rfl, rfl, h1, t1⟩ := trodAll_cons t0
  obtain ⟨v2, vs2, d2, ds2, p2, w2, rfl, rfl, rfl, h2, t2⟩ := trodAll_cons t1
  obtain ⟨rfl, rfl, rfl⟩ := trodAll_nil t2
  obtain rfl : args = #[v0, v1, v2] := by cases args; simp_all
  obtain ⟨rfl, rfl⟩ := trodVars_none hV
  have k0 := h0
  have lt0 := trod_places_lt h0
  have k1 := h1
  have lt1 := trod_places_lt h1
  have k2 := h2
  have lt2 := trod_places_lt h2
  obtain ⟨_, rfl, css0, rfl, hn0, hR0⟩ := read_agg (ok_agg Try.underlying25 (.inr ⟨_, _, rfl⟩) (hval 0 25 v0 rfl rfl)) h0 (opens_arrR (n := 2) (sz := 2) Try.underlying25 (by kernel_rfl) (by kernel_rfl) opens_raw11)
  obtain ⟨c0_0, c0_1, rfl⟩ := list2v hn0
  obtain ⟨r0_0, a0_0, m0_0, l0_0, rfl, hr0_0, g0_0, q0_0⟩ := hR0 c0_0 (by simp)
  obtain ⟨r0_1, a0_1, m0_1, l0_1, rfl, hr0_1, g0_1, q0_1⟩ := hR0 c0_1 (by simp)
  obtain ⟨_, rfl, r1, a1, m1, l1, rfl, hr1, g1, q1⟩ := read_agg (ok_agg Try.underlying27 (.inl ⟨_, rfl⟩) (hval 1 27 v1 rfl rfl)) h1 opens_raw
  obtain ⟨x2, e2, hx2⟩ := read_one (base := base) (ok_int Try.underlying5 (hval 2 5 v2 rfl rfl)) h2 (opens_int (k := .u8) Try.underlying5)
  obtain rfl := (List.cons.inj e2).1
  replace hx2 := u8_of hx2
  clear hA0 hval0
  refine (mmref_c r0_0 r0_1 r1 x2 a0_0 a0_1 a1 m0_0 m0_1 m1 l0_0 l0_1 l1 W (memI W) (memI_sat W) hr0_0 hr1 hx2 g0_0 q0_0 g0_1 q0_1 g1 q1 : Ctr Try.prog 3 _ W _).calls.mono fun e W' ⟨_, he, I', hv, hE⟩ => ?_
  subst hv; subst he
  have bel := Ext.below hE
  exact ⟨_, rfl, _, _, _, [], _, [], hW', trodAll_mk1 (shut_bool Try.underlying4 _), (trodAll_cons_mk (Below.trod mergeMatchesReference_laid (by kernel_rfl) (of_decide_eq_true (by kernel_rfl)) k0 bel lt0) (trodAll_cons_mk (Below.trod mergeMatchesReference_laid (by kernel_rfl) (of_decide_eq_true (by kernel_rfl)) k1 bel lt1) (trodAll_cons_mk (Below.trod mergeMatchesReference_laid (by kernel_rfl) (of_decide_eq_true (by kernel_rfl)) k2 bel lt2) trodAll_mk0))), rfl, bel.frame _, fun h => by cases h⟩
/-- THE STATEMENT. -/
theorem mergeMatchesReference_holds : Rows.MergeMatchesReferenceSaid :=
  OpenClaim.holds_of_wide 3 Try.f3 rfl rfl rfl rfl rfl rfl rfl ⟨rfl, rfl, rfl, rfl, rfl⟩ rfl rfl rfl rfl rfl (by kernel_rfl) Try.func3 (by kernel_rfl)
    (of_decide_eq_true (by kernel_rfl)) (by unfold Func.isWrapper; first | (rw [if_pos (by decide +kernel)]; kernel_rfl) | (rw [if_neg (by decide +kernel)]; exact ⟨rfl, rfl⟩))
    (fun os started H enc _ => mergeMatchesReference_lifted os started H enc)
#print axioms mergeMatchesReference_holds
end Go.Proofs.Ytalemnjjljnnpaa
