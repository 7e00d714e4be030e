/- The law MergeOrder of chapter 11 answers true whatever its arguments, and they read afterwards as they read before. Conditions: none. -/
import Derived.Test.YtalemnjjljnnpaaRows
import Derived.Test.YtalemnjjljnnpaaRead6
import Derived.Test.YtalemnjjljnnpaaMOrder
import Derived.Test.YtalemnjjljnnpaaRead11
import Derived.ProofKit
import Derived.OpenShut
import Derived.ChangeOld
import Derived.Below
import Derived.KernelRfl
namespace Go.Proofs.Ytalemnjjljnnpaa
open Go Go.Inl Go.ChangeShapes Go.WideShapes Go.ChangeAt Go.RowKit
theorem mergeOrder_own : ownKnob Try.prog.godebug = none := by kernel_rfl
theorem mergeOrder_laid : laidOutB Try.prog = true := by kernel_rfl
set_option maxRecDepth 100000 in
theorem mergeOrder_lifted (os : Os) (started : os.Started) (H : Type) (enc : TypeId × Value → H) :
    ReturnsInHanded {} Try.checked os 5 .any (Rows.mergeOrderSpec.pre6 enc Try.prog Try.f5 Rows.mergeOrderRow.domain false) (Rows.mergeOrderSpec.post enc Try.prog Try.f5 false true false false) := by
  refine returnsInHanded_of_change (C := Try.checked) mergeOrder_own started (by kernel_rfl) Try.func5
    (ChangeSpec.witness6 (enc := enc) (C := Try.checked) false ⟨#[], #[.agg #[.int .u8 0, .slice none 0 0, .int .u8 0, .slice none 0 0, .int .u8 0, .slice none 0 0]], []⟩ 8 (by kernel_rfl) (by kernel_rfl) (by kernel_rfl) (by kernel_rfl)) ?_
  intro W base args ds gs before hval0 hW hcnd _
  have hval : ∀ (j : Nat) t v, Try.f5.params[j]? = some t → args[j]? = some v → Value.okWide Try.prog W .any base t v := hval0
  have hW' := hW
  obtain ⟨p, q, hA0, hV, rfl, hfz, hnd⟩ := hW
  have hA : DataW.TrodAll enc Try.prog W 0 (fun _ => true) true Try.f5.params.toList args.toList ds p := hA0
  rw [Try.params5] at hA hval
  obtain ⟨v0, vs0, d0, ds0, p0, w0, hargs, rfl, rfl, h0, t0⟩ := trodAll_cons hA
  obtain ⟨rfl, rfl, rfl⟩ := trodAll_nil t0
  obtain rfl : args = #[v0] := by cases args; simp_all
  obtain ⟨rfl, rfl⟩ := trodVars_none hV
  have k0 := h0
  have lt0 := trod_places_lt h0
  obtain ⟨_, rfl, css0, rfl, hn0, hR0⟩ := read_agg (ok_agg Try.underlying59 (.inr ⟨_, _, rfl⟩) (hval 0 59 v0 rfl rfl)) h0 (opens_arrR (n := 3) (sz := 2) Try.underlying59 (by kernel_rfl) (by kernel_rfl) opens_raw11)
  obtain ⟨c0_0, c0_1, c0_2, rfl⟩ := list3v hn0
  obtain ⟨r0_0, a0_0, m0_0, l0_0, rfl, hr0_0, g0_0, q0_0⟩ := hR0 c0_0 (by simp)
  obtain ⟨r0_1, a0_1, m0_1, l0_1, rfl, hr0_1, g0_1, q0_1⟩ := hR0 c0_1 (by simp)
  obtain ⟨r0_2, a0_2, m0_2, l0_2, rfl, hr0_2, g0_2, q0_2⟩ := hR0 c0_2 (by simp)
  clear hA0 hval0
  refine (morder_c r0_0 r0_1 r0_2 a0_0 a0_1 a0_2 m0_0 m0_1 m0_2 l0_0 l0_1 l0_2 W (memI W) (memI_sat W) hr0_0 g0_0 q0_0 g0_1 q0_1 g0_2 q0_2 : Ctr Try.prog 5 _ W _).calls.mono fun e W' ⟨_, he, I', hv, hE⟩ => ?_
  subst hv; subst he
  have bel := Ext.below hE
  exact ⟨_, rfl, _, _, _, [], _, [], hW', trodAll_mk1 (shut_bool Try.underlying4 _), (trodAll_cons_mk (Below.trod mergeOrder_laid (by kernel_rfl) (of_decide_eq_true (by kernel_rfl)) k0 bel lt0) trodAll_mk0), rfl, bel.frame _, fun h => by cases h⟩
/-- THE STATEMENT. -/
theorem mergeOrder_holds : Rows.MergeOrderSaid :=
  OpenClaim.holds_of_wide 5 Try.f5 rfl rfl rfl rfl rfl rfl rfl ⟨rfl, rfl, rfl, rfl, rfl⟩ rfl rfl rfl rfl rfl (by kernel_rfl) Try.func5 (by kernel_rfl)
    (of_decide_eq_true (by kernel_rfl)) (by unfold Func.isWrapper; first | (rw [if_pos (by decide +kernel)]; kernel_rfl) | (rw [if_neg (by decide +kernel)]; exact ⟨rfl, rfl⟩))
    (fun os started H enc _ => mergeOrder_lifted os started H enc)
#print axioms mergeOrder_holds
end Go.Proofs.Ytalemnjjljnnpaa
