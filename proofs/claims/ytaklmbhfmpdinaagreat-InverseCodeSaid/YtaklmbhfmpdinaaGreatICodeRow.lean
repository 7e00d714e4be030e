/- The law InverseCode of chapter 10 answers true whatever its arguments, and they read afterwards as they read before. Conditions: none. -/
import Derived.Test.YtaklmbhfmpdinaaGreatRows
import Derived.Test.YtaklmbhfmpdinaaGreatRead6
import Derived.Test.YtaklmbhfmpdinaaGreatICode
import Derived.Test.YtaklmbhfmpdinaaGreatRead2
import Derived.ProofKit
import Derived.OpenShut
import Derived.ChangeOld
import Derived.Below
import Derived.KernelRfl
namespace Go.Proofs.YtaklmbhfmpdinaaGreat
open Go Go.Inl Go.ChangeShapes Go.WideShapes Go.ChangeAt Go.RowKit
theorem inverseCode_own : ownKnob Tryz.prog.godebug = none := by kernel_rfl
theorem inverseCode_laid : laidOutB Tryz.prog = true := by kernel_rfl
set_option maxRecDepth 100000 in
theorem inverseCode_lifted (os : Os) (started : os.Started) (H : Type) (enc : TypeId × Value → H) :
    ReturnsInHanded {} Tryz.checked os 4 .any (Rows.inverseCodeSpec.pre6 enc Tryz.prog Tryz.f4 Rows.inverseCodeRow.domain false) (Rows.inverseCodeSpec.post enc Tryz.prog Tryz.f4 false true false false) := by
  refine returnsInHanded_of_change (C := Tryz.checked) inverseCode_own started (by kernel_rfl) Tryz.func4
    (ChangeSpec.witness6 (enc := enc) (C := Tryz.checked) false ⟨#[], #[.agg #[.slice none 0 0, .slice none 0 0]], []⟩ 8 (by kernel_rfl) (by kernel_rfl) (by kernel_rfl) (by kernel_rfl)) ?_
  intro W base args ds gs before hval0 hW hcnd _
  have hval : ∀ (j : Nat) t v, Tryz.f4.params[j]? = some t → args[j]? = some v → Value.okWide Tryz.prog W .any base t v := hval0
  have hW' := hW
  obtain ⟨p, q, hA0, hV, rfl, hfz, hnd⟩ := hW
  have hA : DataW.TrodAll enc Tryz.prog W 0 (fun _ => true) true Tryz.f4.params.toList args.toList ds p := hA0
  rw [Tryz.params4] at hA hval
  obtain ⟨v0, vs0, d0, ds0, p0, w0, hargs, rfl, rfl, h0, t0⟩ := trodAll_cons hA
  obtain ⟨rfl, rfl, rfl⟩ := trodAll_nil t0
  obtain rfl : args = #[v0] := by cases args; simp_all
  obtain ⟨rfl, rfl⟩ := trodVars_none hV
  have k0 := h0
  have lt0 := trod_places_lt h0
  obtain ⟨_, rfl, css0, rfl, hn0, hR0⟩ := read_agg (ok_agg Tryz.underlying27 (.inr ⟨_, _, rfl⟩) (hval 0 27 v0 rfl rfl)) h0 (opens_arrR (n := 2) (sz := 1) Tryz.underlying27 (by kernel_rfl) (by kernel_rfl) opens_r2s)
  obtain ⟨c0_0, c0_1, rfl⟩ := list2v hn0
  obtain ⟨a0_0, m0_0, l0_0, rfl, g0_0, q0_0⟩ := hR0 c0_0 (by simp)
  obtain ⟨a0_1, m0_1, l0_1, rfl, g0_1, q0_1⟩ := hR0 c0_1 (by simp)
  clear hA0 hval0
  refine (icode_c a0_0 a0_1 m0_0 m0_1 l0_0 l0_1 W (memI W) (memI_sat W) g0_0 q0_0 g0_1 q0_1 : Ctr Tryz.prog 4 _ W _).calls.mono fun e W' ⟨_, he, I', hv, hE⟩ => ?_
  subst hv; subst he
  have bel := Ext.below hE
  exact ⟨_, rfl, _, _, _, [], _, [], hW', trodAll_mk1 (shut_bool Tryz.underlying4 _), (trodAll_cons_mk (Below.trod inverseCode_laid (by kernel_rfl) (of_decide_eq_true (by kernel_rfl)) k0 bel lt0) trodAll_mk0), rfl, bel.frame _, fun h => by cases h⟩
/-- THE STATEMENT. -/
theorem inverseCode_holds : Rows.InverseCodeSaid :=
  OpenClaim.holds_of_wide 4 Tryz.f4 rfl rfl rfl rfl rfl rfl rfl ⟨rfl, rfl, rfl, rfl, rfl⟩ rfl rfl rfl rfl rfl (by kernel_rfl) Tryz.func4 (by kernel_rfl)
    (of_decide_eq_true (by kernel_rfl)) (by unfold Func.isWrapper; first | (rw [if_pos (by decide +kernel)]; kernel_rfl) | (rw [if_neg (by decide +kernel)]; exact ⟨rfl, rfl⟩))
    (fun os started H enc _ => inverseCode_lifted os started H enc)
#print axioms inverseCode_holds
end Go.Proofs.YtaklmbhfmpdinaaGreat
