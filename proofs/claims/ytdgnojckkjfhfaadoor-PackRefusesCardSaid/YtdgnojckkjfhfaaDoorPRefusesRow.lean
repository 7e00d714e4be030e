/- The law PackRefuses of chapter 14 answers true whatever its arguments, and they read afterwards as they read before. Conditions: none. -/
import Derived.Test.YtdgnojckkjfhfaaDoorRows
import Derived.Test.YtdgnojckkjfhfaaDoorRead6
import Derived.Test.YtdgnojckkjfhfaaDoorPRefuses
import Derived.ProofKit
import Derived.OpenShut
import Derived.ChangeOld
import Derived.Below
import Derived.KernelRfl
import Derived.Deep.DeepHandedRow
import Derived.LaidLaws
import Derived.SevenTiedAt
import Derived.Test.YtdgnojckkjfhfaaDoorCards
import Derived.Test.YtdgnojckkjfhfaaDoorTie
namespace Go.Proofs.YtdgnojckkjfhfaaDoor
open Go Go.Inl Go.ChangeShapes Go.WideShapes Go.ChangeAt Go.RowKit
theorem packRefuses_own : ownKnob Tryd.prog.godebug = none := by kernel_rfl
theorem packRefuses_laid : laidOutB Tryd.prog = true := by kernel_rfl
set_option maxRecDepth 100000 in
theorem packRefuses_contract (H : Type) (enc : TypeId × Value → H) (W : World) (base : Nat) (args : Array Value) (ds gs : List (DataW H)) (before : List MemPlace)
    (hval0 : ∀ (j : Nat) t v, Tryd.f7.params[j]? = some t → args[j]? = some v → Value.okWide Tryd.prog W .any base t v)
    (hW : DataW.Whole enc Tryd.prog Tryd.f7.params.toList Rows.packRefusesSpec.vars false W args.toList ds gs before) :
    Calls Tryd.prog 7 args W fun e W' => ∃ v, e = .returned v ∧ Rows.packRefusesSpec.post enc Tryd.prog Tryd.f7 false true false false W args v W' := by
  have hval : ∀ (j : Nat) t v, Tryd.f7.params[j]? = some t → args[j]? = some v → Value.okWide Tryd.prog W .any base t v := hval0
  have hW' := hW
  obtain ⟨p, q, hA0, hV, rfl, hfz, hnd⟩ := hW
  have hA : DataW.TrodAll enc Tryd.prog W 0 (fun _ => true) true Tryd.f7.params.toList args.toList ds p := hA0
  rw [Tryd.params7] at hA hval
  obtain ⟨v0, vs0, d0, ds0, p0, w0, hargs, rfl, rfl, h0, t0⟩ := trodAll_cons hA
  obtain ⟨v1, vs1, d1, ds1, p1, w1, rfl, rfl, rfl, h1, t1⟩ := trodAll_cons t0
  obtain ⟨rfl, rfl, rfl⟩ := trodAll_nil t1
  obtain rfl : args = #[v0, v1] := by cases args; simp_all
  obtain ⟨rfl, rfl⟩ := trodVars_none hV
  have k0 := h0
  have lt0 := trod_places_lt h0
  have k1 := h1
  have lt1 := trod_places_lt h1
  obtain ⟨_, rfl, r0, a0, m0, l0, rfl, hr0, g0, q0⟩ := read_agg (ok_agg Tryd.underlying24 (.inl ⟨_, rfl⟩) (hval 0 24 v0 rfl rfl)) h0 opens_raw
  obtain ⟨_, rfl, z1, rfl, hz1, hw1⟩ := read_agg (ok_agg Tryd.underlying49 (.inr ⟨_, _, rfl⟩) (hval 1 49 v1 rfl rfl)) h1 (opens_array (k := .i32) (n := 2) Tryd.underlying49 Tryd.underlying21 (by kernel_rfl) (by kernel_rfl))
  obtain ⟨x1_0, x1_1, rfl⟩ := list2 hz1
  have hx1_0 := i32_of (hw1 x1_0 (by simp))
  have hx1_1 := i32_of (hw1 x1_1 (by simp))
  clear hA0 hval0
  refine (prefuses_c r0 a0 m0 l0 x1_0 x1_1 W (memI W) (memI_sat W) hr0 g0 q0 : Ctr Tryd.prog 7 _ W _).calls.mono fun e W' ⟨_, he, I', hv, hE⟩ => ?_
  subst hv; subst he
  have bel := Ext.below hE
  exact ⟨_, rfl, _, _, _, [], _, [], hW', trodAll_mk1 (shut_bool Tryd.underlying4 _), (trodAll_cons_mk (Below.trod packRefuses_laid (by kernel_rfl) (of_decide_eq_true (by kernel_rfl)) k0 bel lt0) (trodAll_cons_mk (Below.trod packRefuses_laid (by kernel_rfl) (of_decide_eq_true (by kernel_rfl)) k1 bel lt1) trodAll_mk0)), rfl, bel.frame _, fun h => by cases h⟩
noncomputable def packRefuses_world (os : Os) : World := { World.holding Tryd.prog os ⟨#[], #[], []⟩ with heap := (((World.holding Tryd.prog os ⟨#[], #[], []⟩).heap).modify 1 fun | .cells _ t frozen => .cells #[.int .u8 128, .int .u8 191, .int .u8 160, .int .u8 191, .int .u8 128, .int .u8 159, .int .u8 144, .int .u8 191, .int .u8 128, .int .u8 143, .int .u8 0, .int .u8 0, .int .u8 0, .int .u8 0, .int .u8 0, .int .u8 0, .int .u8 0, .int .u8 0, .int .u8 0, .int .u8 0, .int .u8 0, .int .u8 0, .int .u8 0, .int .u8 0, .int .u8 0, .int .u8 0, .int .u8 0, .int .u8 0, .int .u8 0, .int .u8 0, .int .u8 0, .int .u8 0] t frozen | o => o).modify 0 fun | .cells _ t frozen => .cells (Go.Pinned.utf8FirstZ.map fun (n : Nat) => Value.int .u8 (n : Int)).toArray t frozen | o => o }
theorem packRefuses_met (os : Os) : laidMet Tryd.prog Rows.packRefusesRow.laid ((packRefuses_world os).forCall (fun _ _ => 0) ⟨#[], #[.agg #[.int .u8 0, .slice none 0 0], .agg #[.int .i32 0, .int .i32 0]], []⟩).memory := laidMet_of_run' 8 (by kernel_rfl) (by kernel_rfl)
theorem packRefuses_reads (os : Os) {H : Type} (enc : TypeId × Value → H) : ∃ places, DataW.whole enc Tryd.prog ((packRefuses_world os).forCall (fun _ _ => 0) ⟨#[], #[.agg #[.int .u8 0, .slice none 0 0], .agg #[.int .i32 0, .int .i32 0]], []⟩).memory Tryd.f7.params.toList Rows.packRefusesSpec.vars false (#[.agg #[.int .u8 0, .slice none 0 0], .agg #[.int .i32 0, .int .i32 0]] : Array Value).toList 8 = some ([.agg [.lit (.int .u8 0), .nil], .agg [.lit (.int .i32 0), .lit (.int .i32 0)]], [], places) := ⟨[], by kernel_rfl⟩
set_option maxRecDepth 100000 in
theorem packRefuses_lifted (os : Os) (started : os.Started) (H : Type) (enc : TypeId × Value → H) (F : Stop.Interp) :
    ReturnsInHanded {} Tryd.checked os 7 .any ((OpenSpec.ofChange Rows.packRefusesSpec).preRow enc Tryd.prog Tryd.f7 Rows.packRefusesRow.domain false Rows.packRefusesRow.laid) (((OpenSpec.ofChange Rows.packRefusesSpec).at F).post enc Tryd.prog Tryd.f7 false true false false) := by
  obtain ⟨places, hx⟩ := packRefuses_reads os enc
  refine returnsInHanded_of_row (C := Tryd.checked) (s := OpenSpec.ofChange Rows.packRefusesSpec) packRefuses_own started (by kernel_rfl) Tryd.func7
    (witness_row_at (enc := enc) (C := Tryd.checked) false (packRefuses_world os) #[.agg #[.int .u8 0, .slice none 0 0], .agg #[.int .i32 0, .int .i32 0]] rfl (by kernel_rfl) (by kernel_rfl) (by kernel_rfl)
      (OpenSpec.preRow_of_cond 8 hx (by kernel_rfl) (fun k hk => by cases hk) (by kernel_rfl) (packRefuses_met os))) ?_
  intro W base args ds gs before hval hW _ _ _ hL _ _
  exact packRefuses_contract H enc W base args ds gs before hval hW
/-- THE STATEMENT. -/
theorem packRefuses_holds : Rows.PackRefusesSaid :=
  OpenClaim.holds_of_cond 7 Tryd.f7 rfl rfl rfl rfl rfl rfl rfl ⟨rfl, rfl, rfl, rfl, rfl⟩ rfl rfl rfl rfl rfl (by kernel_rfl) Tryd.func7 (by kernel_rfl)
    (of_decide_eq_true (by kernel_rfl)) (by unfold Func.isWrapper; first | (rw [if_pos (by decide +kernel)]; kernel_rfl) | (rw [if_neg (by decide +kernel)]; exact ⟨rfl, rfl⟩))
    (fun os started H enc _ F => by rw [OpenClaim.pre_eq_preRow]; exact packRefuses_lifted os started H enc F)
/-- THE CARD. -/
theorem packRefuses_card : Rows.PackRefusesCardSaid :=
  Claim7.holds_tied_plain_at .later [] _ _ _ _ packRefuses_holds (fun _ h => by cases h) (by kernel_rfl) (fun _ h => by cases h) packRefuses_row_tie rfl ⟨rfl, rfl⟩ (by kernel_rfl) rfl
    (fun f fn hf hfn => by
      obtain rfl : f = 7 := Option.some.inj ((show Tryd.prog.funcNamed "inlay/inlaylaw14.PackRefuses" = some 7 by kernel_rfl).symm.trans hf) |>.symm
      obtain rfl : fn = Tryd.f7 := (Option.some.inj (Tryd.func7.symm.trans hfn)).symm
      exact ⟨by kernel_rfl, fun j t ht => by
        rw [Tryd.params7] at ht
        have hm : t ∈ [24, 49] := by simpa using Array.mem_of_getElem? ht
        have hall : ([24, 49].all fun u => !Tryd.prog.wantsStandIn u) = true := by kernel_rfl
        exact (show Tryd.prog.wantsStandIn t = false by simpa using List.all_eq_true.1 hall t hm)⟩)
    (by kernel_rfl)
#print axioms packRefuses_card
end Go.Proofs.YtdgnojckkjfhfaaDoor
