/- The law TopMovedCode of chapter  answers true whatever its arguments, and they read afterwards as they read before. Conditions: none. -/
import Derived.Test.YtgkgihnpjgbmhaaGreatDoorRows
import Derived.Test.YtgkgihnpjgbmhaaGreatDoorKRd
import Derived.Test.YtgkgihnpjgbmhaaGreatDoorKM5
import Derived.ProofKit
import Derived.OpenShut
import Derived.ChangeOld
import Derived.Below
import Derived.KernelRfl
import Derived.Deep.DeepHandedRow
import Derived.LaidLaws
import Derived.SevenTiedAt
import Derived.Test.YtgkgihnpjgbmhaaGreatDoorCards
import Derived.Test.YtgkgihnpjgbmhaaGreatDoorTie
namespace Go.Proofs.YtgkgihnpjgbmhaaGreatDoor
open Go Go.Inl Go.ChangeShapes Go.WideShapes Go.ChangeAt Go.RowKit
theorem topMovedCode_own : ownKnob Tryz.prog.godebug = none := by kernel_rfl
theorem topMovedCode_laid : laidOutB Tryz.prog = true := by kernel_rfl
set_option maxRecDepth 100000 in
theorem topMovedCode_contract (H : Type) (enc : TypeId × Value → H) (W : World) (base : Nat) (args : Array Value) (ds gs : List (DataW H)) (before : List MemPlace)
    (hval0 : ∀ (j : Nat) t v, Tryz.f4.params[j]? = some t → args[j]? = some v → Value.okWide Tryz.prog W .any base t v)
    (hW : DataW.Whole enc Tryz.prog Tryz.f4.params.toList Rows.topMovedCodeSpec.vars false W args.toList ds gs before) :
    Calls Tryz.prog 4 args W fun e W' => ∃ v, e = .returned v ∧ Rows.topMovedCodeSpec.post enc Tryz.prog Tryz.f4 false true false false W args v W' := by
  have hval : ∀ (j : Nat) t v, Tryz.f4.params[j]? = some t → args[j]? = some v → Value.okWide Tryz.prog W .any base t v := hval0
  have hW' := hW
  obtain ⟨p, q, hA0, hV, rfl, hfz, hnd⟩ := hW
  have hA : DataW.TrodAll enc Tryz.prog W 0 (fun _ => true) true Tryz.f4.params.toList args.toList ds p := hA0
  rw [Tryz.params4] at hA hval
  obtain ⟨v0, vs0, d0, ds0, p0, w0, hargs, rfl, rfl, h0, t0⟩ := trodAll_cons hA
  obtain ⟨v1, vs1, d1, ds1, p1, w1, rfl, rfl, rfl, h1, t1⟩ := trodAll_cons t0
  obtain ⟨rfl, rfl, rfl⟩ := trodAll_nil t1
  obtain rfl : args = #[v0, v1] := by cases args; simp_all
  obtain ⟨rfl, rfl⟩ := trodVars_none hV
  have k0 := h0
  have lt0 := trod_places_lt h0
  have k1 := h1
  have lt1 := trod_places_lt h1
  obtain ⟨a0, m0, l0, e0, g0, q0⟩ := read_one (base := base) (ok_slice Tryz.underlying38 (hval 0 38 v0 rfl rfl)) h0 opens_r2s
  obtain rfl := (List.cons.inj e0).1
  obtain ⟨_, rfl, z1, rfl, hz1, hw1⟩ := read_agg (ok_agg Tryz.underlying39 (.inr ⟨_, _, rfl⟩) (hval 1 39 v1 rfl rfl)) h1 (opens_array (k := .u8) (n := 4) Tryz.underlying39 Tryz.underlying5 (by kernel_rfl) (by kernel_rfl))
  obtain ⟨x1_0, x1_1, x1_2, x1_3, rfl⟩ := list4 hz1
  have hx1_0 := u8_of (hw1 x1_0 (by simp))
  have hx1_1 := u8_of (hw1 x1_1 (by simp))
  have hx1_2 := u8_of (hw1 x1_2 (by simp))
  have hx1_3 := u8_of (hw1 x1_3 (by simp))
  clear hA0 hval0
  refine (tmoved_c a0 m0 l0 x1_0 x1_1 x1_2 x1_3 W (memI W) (memI_sat W) g0 q0 hx1_0 hx1_1 hx1_2 hx1_3 : Ctr Tryz.prog 4 _ W _).calls.mono fun e W' ⟨_, he, I', hv, hE⟩ => ?_
  subst hv; subst he
  have bel := Ext.below hE
  exact ⟨_, rfl, _, _, _, [], _, [], hW', trodAll_mk1 (shut_bool Tryz.underlying4 _), (trodAll_cons_mk (Below.trod topMovedCode_laid (by kernel_rfl) (of_decide_eq_true (by kernel_rfl)) k0 bel lt0) (trodAll_cons_mk (Below.trod topMovedCode_laid (by kernel_rfl) (of_decide_eq_true (by kernel_rfl)) k1 bel lt1) trodAll_mk0)), rfl, bel.frame _, fun h => by cases h⟩
noncomputable def topMovedCode_world (os : Os) : World := { World.holding Tryz.prog os ⟨#[], #[], []⟩ with heap := (((World.holding Tryz.prog os ⟨#[], #[], []⟩).heap).modify 1 fun | .cells _ t frozen => .cells #[.int .u8 128, .int .u8 191, .int .u8 160, .int .u8 191, .int .u8 128, .int .u8 159, .int .u8 144, .int .u8 191, .int .u8 128, .int .u8 143, .int .u8 0, .int .u8 0, .int .u8 0, .int .u8 0, .int .u8 0, .int .u8 0, .int .u8 0, .int .u8 0, .int .u8 0, .int .u8 0, .int .u8 0, .int .u8 0, .int .u8 0, .int .u8 0, .int .u8 0, .int .u8 0, .int .u8 0, .int .u8 0, .int .u8 0, .int .u8 0, .int .u8 0, .int .u8 0] t frozen | o => o).modify 0 fun | .cells _ t frozen => .cells (Go.Pinned.utf8FirstZ.map fun (n : Nat) => Value.int .u8 (n : Int)).toArray t frozen | o => o }
theorem topMovedCode_met (os : Os) : laidMet Tryz.prog Rows.topMovedCodeRow.laid ((topMovedCode_world os).forCall (fun _ _ => 0) ⟨#[], #[.slice none 0 0, .agg #[.int .u8 0, .int .u8 0, .int .u8 0, .int .u8 0]], []⟩).memory := laidMet_of_run' 8 (by kernel_rfl) (by kernel_rfl)
theorem topMovedCode_reads (os : Os) {H : Type} (enc : TypeId × Value → H) : ∃ places, DataW.whole enc Tryz.prog ((topMovedCode_world os).forCall (fun _ _ => 0) ⟨#[], #[.slice none 0 0, .agg #[.int .u8 0, .int .u8 0, .int .u8 0, .int .u8 0]], []⟩).memory Tryz.f4.params.toList Rows.topMovedCodeSpec.vars false (#[.slice none 0 0, .agg #[.int .u8 0, .int .u8 0, .int .u8 0, .int .u8 0]] : Array Value).toList 8 = some ([.nil, .agg [.lit (.int .u8 0), .lit (.int .u8 0), .lit (.int .u8 0), .lit (.int .u8 0)]], [], places) := ⟨[], by kernel_rfl⟩
set_option maxRecDepth 100000 in
theorem topMovedCode_lifted (os : Os) (started : os.Started) (H : Type) (enc : TypeId × Value → H) (F : Stop.Interp) :
    ReturnsInHanded {} Tryz.checked os 4 .any ((OpenSpec.ofChange Rows.topMovedCodeSpec).preRow enc Tryz.prog Tryz.f4 Rows.topMovedCodeRow.domain false Rows.topMovedCodeRow.laid) (((OpenSpec.ofChange Rows.topMovedCodeSpec).at F).post enc Tryz.prog Tryz.f4 false true false false) := by
  obtain ⟨places, hx⟩ := topMovedCode_reads os enc
  refine returnsInHanded_of_row (C := Tryz.checked) (s := OpenSpec.ofChange Rows.topMovedCodeSpec) topMovedCode_own started (by kernel_rfl) Tryz.func4
    (witness_row_at (enc := enc) (C := Tryz.checked) false (topMovedCode_world os) #[.slice none 0 0, .agg #[.int .u8 0, .int .u8 0, .int .u8 0, .int .u8 0]] rfl (by kernel_rfl) (by kernel_rfl) (by kernel_rfl)
      (OpenSpec.preRow_of_cond 8 hx (by kernel_rfl) (fun k hk => by cases hk) (by kernel_rfl) (topMovedCode_met os))) ?_
  intro W base args ds gs before hval hW _ _ _ hL _ _
  exact topMovedCode_contract H enc W base args ds gs before hval hW
/-- THE STATEMENT. -/
theorem topMovedCode_holds : Rows.TopMovedCodeSaid :=
  OpenClaim.holds_of_cond 4 Tryz.f4 rfl rfl rfl rfl rfl rfl rfl ⟨rfl, rfl, rfl, rfl, rfl⟩ rfl rfl rfl rfl rfl (by kernel_rfl) Tryz.func4 (by kernel_rfl)
    (of_decide_eq_true (by kernel_rfl)) (by unfold Func.isWrapper; first | (rw [if_pos (by decide +kernel)]; kernel_rfl) | (rw [if_neg (by decide +kernel)]; exact ⟨rfl, rfl⟩))
    (fun os started H enc _ F => by rw [OpenClaim.pre_eq_preRow]; exact topMovedCode_lifted os started H enc F)
/-- THE CARD. -/
theorem topMovedCode_card : Rows.TopMovedCodeCardSaid :=
  Claim7.holds_tied_plain_at .later [] _ _ _ _ topMovedCode_holds (fun _ h => by cases h) (by kernel_rfl) (fun _ h => by cases h) topMovedCode_row_tie rfl ⟨rfl, rfl⟩ (by kernel_rfl) rfl
    (fun f fn hf hfn => by
      obtain rfl : f = 4 := Option.some.inj ((show Tryz.prog.funcNamed "inlay/inlaytop.TopMovedCode" = some 4 by kernel_rfl).symm.trans hf) |>.symm
      obtain rfl : fn = Tryz.f4 := (Option.some.inj (Tryz.func4.symm.trans hfn)).symm
      exact ⟨by kernel_rfl, fun j t ht => by
        rw [Tryz.params4] at ht
        have hm : t ∈ [38, 39] := by simpa using Array.mem_of_getElem? ht
        have hall : ([38, 39].all fun u => !Tryz.prog.wantsStandIn u) = true := by kernel_rfl
        exact (show Tryz.prog.wantsStandIn t = false by simpa using List.all_eq_true.1 hall t hm)⟩)
    (by kernel_rfl)
#print axioms topMovedCode_card
end Go.Proofs.YtgkgihnpjgbmhaaGreatDoor
