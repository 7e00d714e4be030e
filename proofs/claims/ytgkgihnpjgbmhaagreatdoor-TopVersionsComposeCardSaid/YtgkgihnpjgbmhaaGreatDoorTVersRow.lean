/- The law TopVersionsCompose of chapter  answers true whatever its arguments, and they read afterwards as they read before. Conditions: none. -/
import Derived.Test.YtgkgihnpjgbmhaaGreatDoorRows
import Derived.Test.YtgkgihnpjgbmhaaGreatDoorArgs
import Derived.Test.YtgkgihnpjgbmhaaGreatDoorKRef6
import Derived.KernelRfl
import Derived.Test.YtgkgihnpjgbmhaaGreatDoorTVers
import Derived.ProofKit
import Derived.OpenShut
import Derived.ChangeOld
import Derived.Below
import Derived.Deep.DeepHandedRow
import Derived.LaidLaws
import Derived.SevenTiedAt
import Derived.Test.YtgkgihnpjgbmhaaGreatDoorCards
import Derived.Test.YtgkgihnpjgbmhaaGreatDoorTie
namespace Go.Proofs.YtgkgihnpjgbmhaaGreatDoor
open Go Go.Inl Go.ChangeShapes Go.WideShapes Go.ChangeAt Go.RowKit
theorem topVersionsCompose_own : ownKnob Tryz.prog.godebug = none := by kernel_rfl
theorem jh : laidOutB Tryz.prog = true := by kernel_rfl
set_option maxRecDepth 100000 in
theorem topVersionsCompose_contract (H : Type) (enc : TypeId × Value → H) (W : World) (base : Nat) (args : Array Value) (ds gs : List (DataW H)) (before : List MemPlace)
    (hval0 : ∀ (j : Nat) t v, Tryz.f3.params[j]? = some t → args[j]? = some v → Value.okWide Tryz.prog W .any base t v)
    (hW : DataW.Whole enc Tryz.prog Tryz.f3.params.toList Rows.topVersionsComposeSpec.vars false W args.toList ds gs before) :
    Calls Tryz.prog 3 args W fun e W' => ∃ v, e = .returned v ∧ Rows.topVersionsComposeSpec.post enc Tryz.prog Tryz.f3 false true false false W args v W' := by
  have hval : ∀ (j : Nat) t v, Tryz.f3.params[j]? = some t → args[j]? = some v → Value.okWide Tryz.prog W .any base t v := hval0
  have hW' := hW
  obtain ⟨p, q, hA0, hV, rfl, hfz, hnd⟩ := hW
  have hA : DataW.TrodAll enc Tryz.prog W 0 (fun _ => true) true Tryz.f3.params.toList args.toList ds p := hA0
  rw [Tryz.params3] at hA hval
  obtain ⟨v0, vs0, d0, ds0, p0, w0, hargs, rfl, rfl, h0, t0⟩ := trodAll_cons hA
  obtain ⟨v1, vs1, d1, ds1, p1, w1, rfl, rfl, rfl, h1, t1⟩ := trodAll_cons t0
  obtain ⟨v2, vs2, d2, ds2, p2, w2, rfl, rfl, rfl, h2, t2⟩ := trodAll_cons t1
  obtain ⟨rfl, rfl, rfl⟩ := trodAll_nil t2
  obtain rfl : args = #[v0, v1, v2] := by cases args; simp_all
  obtain ⟨rfl, rfl⟩ := trodVars_none hV
  have k0 := h0
  have lt0 := jW h0
  have k1 := h1
  have lt1 := jW h1
  have k2 := h2
  have lt2 := jW h2
  obtain ⟨a0, m0, l0, e0, g0, q0⟩ := yG (base := base) (yI Tryz.underlying22 (hval 0 22 v0 rfl rfl)) h0 (kP Tryz.underlying22 Tryz.underlying5 (by kernel_rfl))
  obtain rfl := (List.cons.inj e0).1
  obtain ⟨a1, m1, l1, e1, g1, q1⟩ := yG (base := base) (yI Tryz.underlying22 (hval 1 22 v1 rfl rfl)) h1 (kP Tryz.underlying22 Tryz.underlying5 (by kernel_rfl))
  obtain rfl := (List.cons.inj e1).1
  obtain ⟨a2, m2, l2, e2, g2, q2⟩ := yG (base := base) (yI Tryz.underlying22 (hval 2 22 v2 rfl rfl)) h2 (kP Tryz.underlying22 Tryz.underlying5 (by kernel_rfl))
  obtain rfl := (List.cons.inj e2).1
  clear hA0 hval0
  refine (tversions_c a0 a1 a2 m0 m1 m2 l0 l1 l2 W (memI W) (memI_sat W) g0 q0 g1 q1 g2 q2 : Ctr Tryz.prog 3 _ W _).calls.mono fun e W' ⟨_, he, I', hv, hE⟩ => ?_
  subst hv; subst he
  have bel := Ext.below hE
  exact ⟨_, rfl, _, _, _, [], _, [], hW', trodAll_mk1 (shut_bool Tryz.underlying4 _), (trodAll_cons_mk (Below.trod jh (by kernel_rfl) (of_decide_eq_true (by kernel_rfl)) k0 bel lt0) (trodAll_cons_mk (Below.trod jh (by kernel_rfl) (of_decide_eq_true (by kernel_rfl)) k1 bel lt1) (trodAll_cons_mk (Below.trod jh (by kernel_rfl) (of_decide_eq_true (by kernel_rfl)) k2 bel lt2) trodAll_mk0))), rfl, bel.frame _, fun h => by cases h⟩
noncomputable def topVersionsCompose_world (os : Os) : World := { World.holding Tryz.prog os ⟨#[], #[], []⟩ with heap := (((World.holding Tryz.prog os ⟨#[], #[], []⟩).heap).modify 1 fun | .cells _ t frozen => .cells #[.int .u8 128, .int .u8 191, .int .u8 160, .int .u8 191, .int .u8 128, .int .u8 159, .int .u8 144, .int .u8 191, .int .u8 128, .int .u8 143, .int .u8 0, .int .u8 0, .int .u8 0, .int .u8 0, .int .u8 0, .int .u8 0, .int .u8 0, .int .u8 0, .int .u8 0, .int .u8 0, .int .u8 0, .int .u8 0, .int .u8 0, .int .u8 0, .int .u8 0, .int .u8 0, .int .u8 0, .int .u8 0, .int .u8 0, .int .u8 0, .int .u8 0, .int .u8 0] t frozen | o => o).modify 0 fun | .cells _ t frozen => .cells (Go.Pinned.utf8FirstZ.map fun (n : Nat) => Value.int .u8 (n : Int)).toArray t frozen | o => o }
theorem topVersionsCompose_met (os : Os) : laidMet Tryz.prog Rows.topVersionsComposeRow.laid ((topVersionsCompose_world os).forCall (fun _ _ => 0) ⟨#[], #[.slice none 0 0, .slice none 0 0, .slice none 0 0], []⟩).memory := laidMet_of_run' 8 (by kernel_rfl) (by kernel_rfl)
theorem topVersionsCompose_reads (os : Os) {H : Type} (enc : TypeId × Value → H) : ∃ places, DataW.whole enc Tryz.prog ((topVersionsCompose_world os).forCall (fun _ _ => 0) ⟨#[], #[.slice none 0 0, .slice none 0 0, .slice none 0 0], []⟩).memory Tryz.f3.params.toList Rows.topVersionsComposeSpec.vars false (#[.slice none 0 0, .slice none 0 0, .slice none 0 0] : Array Value).toList 8 = some ([.nil, .nil, .nil], [], places) := ⟨[], by kernel_rfl⟩
set_option maxRecDepth 100000 in
theorem topVersionsCompose_lifted (os : Os) (started : os.Started) (H : Type) (enc : TypeId × Value → H) (F : Stop.Interp) :
    ReturnsInHanded {} Tryz.checked os 3 .any ((OpenSpec.ofChange Rows.topVersionsComposeSpec).preRow enc Tryz.prog Tryz.f3 Rows.topVersionsComposeRow.domain false Rows.topVersionsComposeRow.laid) (((OpenSpec.ofChange Rows.topVersionsComposeSpec).at F).post enc Tryz.prog Tryz.f3 false true false false) := by
  obtain ⟨places, hx⟩ := topVersionsCompose_reads os enc
  refine returnsInHanded_of_row (C := Tryz.checked) (s := OpenSpec.ofChange Rows.topVersionsComposeSpec) topVersionsCompose_own started (by kernel_rfl) Tryz.func3
    (witness_row_at (enc := enc) (C := Tryz.checked) false (topVersionsCompose_world os) #[.slice none 0 0, .slice none 0 0, .slice none 0 0] rfl (by kernel_rfl) (by kernel_rfl) (by kernel_rfl)
      (OpenSpec.preRow_of_cond 8 hx (by kernel_rfl) (fun k hk => by cases hk) (by kernel_rfl) (topVersionsCompose_met os))) ?_
  intro W base args ds gs before hval hW _ _ _ hL _ _
  exact topVersionsCompose_contract H enc W base args ds gs before hval hW
/-- THE STATEMENT. -/
theorem topVersionsCompose_holds : Rows.TopVersionsComposeSaid :=
  OpenClaim.holds_of_cond 3 Tryz.f3 rfl rfl rfl rfl rfl rfl rfl ⟨rfl, rfl, rfl, rfl, rfl⟩ rfl rfl rfl rfl rfl (by kernel_rfl) Tryz.func3 (by kernel_rfl)
    (of_decide_eq_true (by kernel_rfl)) (by unfold Func.isWrapper; first | (rw [if_pos (by decide +kernel)]; kernel_rfl) | (rw [if_neg (by decide +kernel)]; exact ⟨rfl, rfl⟩))
    (fun os started H enc _ F => by rw [OpenClaim.pre_eq_preRow]; exact topVersionsCompose_lifted os started H enc F)
/-- THE CARD. -/
theorem topVersionsCompose_card : Rows.TopVersionsComposeCardSaid :=
  Claim7.holds_tied_plain_at .later [] _ _ _ _ topVersionsCompose_holds (fun _ h => by cases h) (by kernel_rfl) (fun _ h => by cases h) topVersionsCompose_row_tie rfl ⟨rfl, rfl⟩ (by kernel_rfl) rfl
    (fun f fn hf hfn => by
      obtain rfl : f = 3 := Option.some.inj ((show Tryz.prog.funcNamed "inlay/inlaytop.TopVersionsCompose" = some 3 by kernel_rfl).symm.trans hf) |>.symm
      obtain rfl : fn = Tryz.f3 := (Option.some.inj (Tryz.func3.symm.trans hfn)).symm
      exact ⟨by kernel_rfl, fun j t ht => by
        rw [Tryz.params3] at ht
        have hm : t ∈ [22, 22, 22] := by simpa using Array.mem_of_getElem? ht
        have hall : ([22, 22, 22].all fun u => !Tryz.prog.wantsStandIn u) = true := by kernel_rfl
        exact (show Tryz.prog.wantsStandIn t = false by simpa using List.all_eq_true.1 hall t hm)⟩)
    (by kernel_rfl)
#print axioms topVersionsCompose_card
end Go.Proofs.YtgkgihnpjgbmhaaGreatDoor
