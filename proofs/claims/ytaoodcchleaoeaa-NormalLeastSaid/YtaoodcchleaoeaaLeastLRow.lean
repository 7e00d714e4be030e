/- The law NormalLeast of chapter 08 answers true whatever its arguments, and they read afterwards as they read before. Conditions: none. -/
import Derived.Test.YtaoodcchleaoeaaRows
import Derived.Test.YtaoodcchleaoeaaRead6
import Derived.Test.YtaoodcchleaoeaaLeastL
import Derived.ProofKit
import Derived.OpenShut
import Derived.ChangeOld
import Derived.Below
import Derived.KernelRfl
namespace Go.Proofs.Ytaoodcchleaoeaa
open Go Go.Inl Go.ChangeShapes Go.WideShapes Go.ChangeAt Go.RowKit
theorem normalLeast_own : ownKnob Try.prog.godebug = none := by kernel_rfl
theorem normalLeast_laid : laidOutB Try.prog = true := by kernel_rfl
set_option maxRecDepth 100000 in
theorem normalLeast_lifted (os : Os) (started : os.Started) (H : Type) (enc : TypeId × Value → H) :
    ReturnsInHanded {} Try.checked os 9 .any (Rows.normalLeastSpec.pre6 enc Try.prog Try.f9 Rows.normalLeastRow.domain false) (Rows.normalLeastSpec.post enc Try.prog Try.f9 false true false false) := by
  refine returnsInHanded_of_change (C := Try.checked) normalLeast_own started (by kernel_rfl) Try.func9
    (ChangeSpec.witness6 (enc := enc) (C := Try.checked) false ⟨#[], #[.slice none 0 0, .int .u8 0], []⟩ 8 (by kernel_rfl) (by kernel_rfl) (by kernel_rfl) (by kernel_rfl)) ?_
  intro W base args ds gs before hval0 hW hcnd _
  have hval : ∀ (j : Nat) t v, Try.f9.params[j]? = some t → args[j]? = some v → Value.okWide Try.prog W .any base t v := hval0
  have hW' := hW
  obtain ⟨p, q, hA0, hV, rfl, hfz, hnd⟩ := hW
  have hA : DataW.TrodAll enc Try.prog W 0 (fun _ => true) true Try.f9.params.toList args.toList ds p := hA0
  rw [Try.params9] at hA hval
  obtain ⟨v0, vs0, d0, ds0, p0, w0, hargs, rfl, rfl, h0, t0⟩ := trodAll_cons hA
  obtain ⟨v1, vs1, d1, ds1, p1, w1, rfl, rfl, rfl, h1, t1⟩ := trodAll_cons t0
  obtain ⟨rfl, rfl, rfl⟩ := trodAll_nil t1
  obtain rfl : args = #[v0, v1] := by cases args; simp_all
  obtain ⟨rfl, rfl⟩ := trodVars_none hV
  have k0 := h0
  have lt0 := trod_places_lt h0
  have k1 := h1
  have lt1 := trod_places_lt h1
  obtain ⟨a0, m0, l0, e0, g0, q0⟩ := read_one (base := base) (ok_slice Try.underlying25 (hval 0 25 v0 rfl rfl)) h0 opens_q2s
  obtain rfl := (List.cons.inj e0).1
  obtain ⟨x1, e1, hx1⟩ := read_one (base := base) (ok_int Try.underlying5 (hval 1 5 v1 rfl rfl)) h1 (opens_int (k := .u8) Try.underlying5)
  obtain rfl := (List.cons.inj e1).1
  replace hx1 := u8_of hx1
  clear hA0 hval0
  refine (leastl_c a0 m0 l0 x1 W (memI W) (memI_sat W) g0 q0 hx1 : Ctr Try.prog 9 _ W _).calls.mono fun e W' ⟨_, he, I', hv, hE⟩ => ?_
  subst hv; subst he
  have bel := Ext.below hE
  exact ⟨_, rfl, _, _, _, [], _, [], hW', trodAll_mk1 (shut_bool Try.underlying4 _), (trodAll_cons_mk (Below.trod normalLeast_laid (by kernel_rfl) (of_decide_eq_true (by kernel_rfl)) k0 bel lt0) (trodAll_cons_mk (Below.trod normalLeast_laid (by kernel_rfl) (of_decide_eq_true (by kernel_rfl)) k1 bel lt1) trodAll_mk0)), rfl, bel.frame _, fun h => by cases h⟩
/-- THE STATEMENT. -/
theorem normalLeast_holds : Rows.NormalLeastSaid :=
  OpenClaim.holds_of_wide 9 Try.f9 rfl rfl rfl rfl rfl rfl rfl ⟨rfl, rfl, rfl, rfl, rfl⟩ rfl rfl rfl rfl rfl (by kernel_rfl) Try.func9 (by kernel_rfl)
    (of_decide_eq_true (by kernel_rfl)) (by unfold Func.isWrapper; first | (rw [if_pos (by decide +kernel)]; kernel_rfl) | (rw [if_neg (by decide +kernel)]; exact ⟨rfl, rfl⟩))
    (fun os started H enc _ => normalLeast_lifted os started H enc)
#print axioms normalLeast_holds
end Go.Proofs.Ytaoodcchleaoeaa
