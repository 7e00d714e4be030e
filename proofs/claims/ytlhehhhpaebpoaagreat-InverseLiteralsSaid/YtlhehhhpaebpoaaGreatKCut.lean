/- inlayref08.Op and Cut, patch.Cost: what they compute. Conditions: numbers within bounds. inlaylaw08.NormalCuts: its function answers true; what Cut makes is right and has the same symbols. Conditions: arguments are bytes. inlaylaw08.NormalCuts: its function answers true. Conditions: arguments are bytes. -/
import Derived.Test.YtlhehhhpaebpoaaGreatLaw2
namespace Go.Proofs.YtlhehhhpaebpoaaGreat
open Go Go.RowKit Go.Inl
set_option linter.unusedSimpArgs false
set_option linter.unusedVariables false
structure CutS where
  k : Nat
  done : List OpL
  css : List (List Value)
  a : Option Addr
  c : Nat
/-- patch.Cost. -/
def sumP : List OpL → Int
  | [] => 0
  | x :: l => costP x + sumP l
theorem sumP_eq {n : Int} : ∀ (l : List OpL), OpsOk n l → sumP l = sumC l
  | [], _ => rfl
  | x :: l, h => by
    unfold sumP sumC
    rw [sumP_eq l fun y hy => h y (by simp [hy]), opc_costP (h x (by simp)).2]
/-- inlayref08.Cut. -/
def cutN (x : OpL) (w : List Int) (i : Nat) : Int := if i < w.length then w.getD i 0 % 64 % x.len else 0
def cutK1 (x : OpL) (w : List Int) (i : Nat) : Int := if 128 ≤ w.getD i 0 ∧ x.kind = 1 then 2 else x.kind
def cutK (x : OpL) (w : List Int) (i : Nat) : Int := if i < w.length then (if 128 ≤ w.getD i 0 ∧ cutK1 x w i = 3 then 4 else cutK1 x w i) else x.kind
def cutA (x : OpL) (w : List Int) (i : Nat) : List OpL := if 0 < cutN x w i then [opS (cutK x w i) ((symsOp x).take (cutN x w i).toNat)] else []
def cutB (x : OpL) (w : List Int) (i : Nat) : OpL := opS x.kind ((symsOp x).drop (cutN x w i).toNat)
def cutL : List OpL → List Int → Nat → List OpL
  | [], _, _ => []
  | x :: r, w, i => (cutA x w i ++ [cutB x w i]) ++ cutL r w (i + 1)
def cutP (p : PatL) (w : List Int) : PatL := ⟨p.lifted, p.in_, p.out, cutL p.ops w 0⟩
theorem cutL_append : ∀ (a b : List OpL) (w : List Int) (i : Nat), cutL (a ++ b) w i = cutL a w i ++ cutL b w (i + a.length)
  | [], b, w, i => by simp [cutL]
  | x :: a, b, w, i => by
    rw [List.cons_append, cutL, cutL, cutL_append a b w (i + 1), List.append_assoc, List.length_cons, show i + 1 + a.length = i + (a.length + 1) by omega, List.append_assoc, List.append_assoc]
theorem cutL_snoc {l : List OpL} {k : Nat} {x : OpL} {w : List Int} (h : l[k]? = some x) : cutL (l.take (k + 1)) w 0 = (cutL (l.take k) w 0 ++ cutA x w k) ++ [cutB x w k] := by
  have hk := (List.getElem?_eq_some_iff.1 h).1
  rw [take_snoc h, cutL_append, List.length_take, Nat.min_eq_left (by omega), Nat.zero_add, List.append_assoc]
  simp [cutL]
theorem cutN_bd {x : OpL} {w : List Int} {i : Nat} (hx : 1 ≤ x.len) : 0 ≤ cutN x w i ∧ cutN x w i < x.len := by
  unfold cutN
  split
  · exact ⟨Int.emod_nonneg _ (by omega), Int.emod_lt_of_pos _ (by omega)⟩
  · omega
theorem cutK_bd {x : OpL} {w : List Int} {i : Nat} (hx : 1 ≤ x.kind ∧ x.kind ≤ 4) : 1 ≤ cutK x w i ∧ cutK x w i ≤ 4 := by
  unfold cutK cutK1
  repeat' split
  all_goals omega
theorem seg_at {l : List OpL} {k : Nat} {x : OpL} (h : l[k]? = some x) (n m : Nat) (hm : m ≤ x.len.toNat) (hn : n ≤ m) : ((symsOf l).take ((symsOf (l.take k)).length + m)).drop ((symsOf (l.take k)).length + n) = ((symsOp x).take m).drop n := by
  have h1 : symsOf l = symsOf (l.take k) ++ (symsOp x ++ symsOf (l.drop (k + 1))) := by
    conv => lhs; rw [← List.take_append_drop k l]
    rw [symsOf_append, drop_cons h, symsOf_cons]
  have hl := symsOp_length x
  rw [h1, List.take_length_add_append, List.drop_length_add_append, List.take_append_of_le_length (by omega)]
theorem symbolsR_t (p : PatL) (ad : Option Addr) (m cap : Nat) (w0 : World) (I0 : Imm) (hI : Sat I0 w0) (hops : ROps I0 (.slice ad m cap) p.ops) (hp : p.wf) (hok : (checkP p).2 = 0) :
    Ctr Tryz.prog 22 [.agg #[.bool p.lifted, .int .i64 p.in_, .int .i64 p.out, .slice ad m cap]] w0 (fun v w' => ∃ I' a c, v = .tuple #[.slice a (symsOf p.ops).length c, .int .i64 0] ∧ Ext w0 I0 w' I' ∧ RSyms I' (.slice a (symsOf p.ops).length c) (symsOf p.ops)) := by
  have h := symbolsR_c p ad m cap w0 I0 hI hops hp
  have e : symbolsR p = (symsOf p.ops, 0) := by unfold symbolsR; rw [if_pos (checkR_of hok)]
  rw [e] at h
  exact h

set_option maxHeartbeats 1000000 in
theorem refOp_c (kind : Int) (vl : Value) (l : List Sym) (w0 : World) (I0 : Imm) (hI : Sat I0 w0) (hl : RSyms I0 vl l) (hk : Mid kind) (hne : 0 < l.length) (hn : l.length ≤ 65536) :
    Ctr Tryz.prog 109 [.int .i64 kind, vl] w0 (fun v w' => ∃ I' ad m cap, v = opV (opS kind l) ad m cap ∧ Ext w0 I0 w' I' ∧ RBytes I' (.slice ad m cap) (opS kind l).data) := by
  obtain ⟨s0, hs0⟩ : ∃ s, l[0]? = some s := ⟨_, List.getElem?_eq_getElem hne⟩
  have hs0A := hl.at hs0
  have hhd : l.headD ⟨false, 0, 0⟩ = s0 := by rw [List.headD_eq_head?_getD, List.head?_eq_getElem?, hs0]; rfl
  refine fn (n := 54) Tryz.func109 rfl rfl rfl ?_
  have hS := St.start hI
  refine wpIn_seq ?_
  refine reg ?_
  refine qe (d_alloc (cs := [.int .i64 _, .int .i64 _, .int .i64 _, .int .u8 _, .slice _ _ _]) hS Tryz.zeroValue62 rfl) ?_
  clear hS
  rintro _ w_1 ⟨b4, rfl, hS⟩
  refine ol_nil (thenN ?_)
  refine wpIn_seq ?_
  refine reg ?_
  refine qq hS (g_movev (v := .int .i64 _) rfl) ?_
  refine qq hS (g_move _) ?_
  refine qq hS (g_lenI rfl Tryz.underlying54 hl rfl) ?_
  refine qq hS (g_buildv (pl := [(0, 1), (1, 1), (2, 1), (3, 1), (4, 1)]) (cs := [.int .i64 _, .int .i64 _, .int .i64 _, .int .u8 _, .slice _ _ _]) Tryz.zeroValue62 Tryz.underlying62 (fun w => by simp [Tryz.sizeOf25, Tryz.sizeOf3, Tryz.sizeOf5]) (mp (v := .int .i64 _) rfl (mp (v := .int .i64 _) rfl mp0)) rfl) ?_
  refine qe (d_alloc (cs := [.int .i64 _, .int .i64 _, .int .i64 _, .int .u8 _, .slice _ _ _]) hS Tryz.zeroValue62 rfl) ?_
  clear hS
  rintro _ w_2 ⟨b5, rfl, hS⟩
  refine qe (d_store 0 hS Tryz.sizeOf62 rfl rfl rfl (vs := [.int .i64 _, .int .i64 _, .int .i64 _, .int .u8 _, .slice _ _ _]) rfl rfl rfl (Nat.le_of_ble_eq_true rfl) (cs' := [_, _, _, _, _]) rfl) ?_
  clear hS
  rintro _ w_3 ⟨rfl, hS⟩
  refine ol_nil (thenN ?_)
  refine meet (fun σ w => okS σ [(0, .int .i64 kind), (1, vl), (4, .pointer (some ⟨b4, 0, none⟩)), (5, .pointer (some ⟨b5, 0, none⟩))] ∧ St [] w0 I0 I0 w [.cel b5 62 [.int .i64 kind, .int .i64 (if kind = 1 ∨ kind = 2 then (l.headD ⟨false, 0, 0⟩).at_ else 0), .int .i64 l.length, .int .u8 0, .slice none 0 0], .cel b4 62 [.int .i64 0, .int .i64 0, .int .i64 0, .int .u8 0, .slice none 0 0]]) ?_ ?_
  ·
    refine wpIn_seq ?_
    refine reg ?_
    refine qq hS (g_movev (v := .int .i64 _) rfl) ?_
    refine qq hS (g_eql rfl rfl) ?_
    refine qq hS (g_movev (v := .bool _) rfl) ?_
    refine qu rfl rfl hS (fun hg => (g_movev (v := .int .i64 _) rfl)) ?_
    intro u14 hu14 hn14
    refine qu rfl rfl hS (fun hg => (g_eql (hu14 hg) rfl)) ?_
    intro u15 hu15 hn15
    refine qq hS (g_or rfl rfl (fun hq => hu15 hq)) ?_
    refine ol_nil (thenN ?_)
    refine cond_s rfl ?_ ?_
    ·
      intro hc16
      clear hu14 hn14 hu15 hn15
      try simp only [Bool.and_eq_true, Bool.or_eq_true, Bool.not_eq_true', Bool.and_eq_false_imp, Bool.or_eq_false_iff, Bool.not_eq_false', decide_eq_true_eq, decide_eq_false_iff_not] at hc16
      have hfr : (if kind = 1 ∨ kind = 2 then (l.headD ⟨false, 0, 0⟩).at_ else 0) = s0.at_ := by rw [if_pos hc16, hhd]
      refine reg ?_
      refine qq hS (g_move _) ?_
      refine qq hS (g_ixI Tryz.underlying54 Tryz.sizeOf60 hl rfl rfl (by omega) (by omega)) ?_
      refine qq hS (g_fieldE (c' := 1) Tryz.underlying60 rfl Tryz.sizeOf3 rfl rfl rfl) ?_
      refine qq hS (g_ldE1 Tryz.isAgg3 hs0A rfl rfl) ?_
      refine qq hS (g_fieldAddr (o' := 1) Tryz.underlying62 rfl Tryz.sizeOf3 rfl rfl rfl) ?_
      refine qe (d_store 0 hS Tryz.sizeOf3 rfl rfl rfl (vs := [.int .i64 _]) rfl rfl rfl (Nat.le_of_ble_eq_true rfl) (cs' := [_, _, _, _, _]) rfl) ?_
      clear hS
      rintro _ w_4 ⟨rfl, hS⟩
      refine ol_nil (thenN ?_)
      refine ⟨_, rfl, ⟨rfl, rfl, rfl, rfl, trivial⟩, ?_⟩
      rw [hfr]
      exact hS.sel [true, true]
    ·
      intro hc16
      clear hu14 hn14 hu15 hn15
      try simp only [Bool.and_eq_true, Bool.or_eq_true, Bool.not_eq_true', Bool.and_eq_false_imp, Bool.or_eq_false_iff, Bool.not_eq_false', decide_eq_true_eq, decide_eq_false_iff_not] at hc16
      have hfr : (if kind = 1 ∨ kind = 2 then (l.headD ⟨false, 0, 0⟩).at_ else 0) = 0 := if_neg (by omega)
      refine wpIn_skip ?_
      refine thenN ?_
      refine ⟨_, rfl, ⟨rfl, rfl, rfl, rfl, trivial⟩, ?_⟩
      rw [hfr]
      exact hS.sel [true, true]
  ·
    rintro σ w ⟨hs, hS⟩
    rw [← upds_self hs]
    refine meet (fun σ w => okS σ [(0, .int .i64 kind), (1, vl), (4, .pointer (some ⟨b4, 0, none⟩)), (5, .pointer (some ⟨b5, 0, none⟩))] ∧ St [] w0 I0 I0 w [.cel b5 62 [.int .i64 kind, .int .i64 (if kind = 1 ∨ kind = 2 then (l.headD ⟨false, 0, 0⟩).at_ else 0), .int .i64 l.length, .int .u8 (if kind = 3 then (l.headD ⟨false, 0, 0⟩).b else 0), .slice none 0 0], .cel b4 62 [.int .i64 0, .int .i64 0, .int .i64 0, .int .u8 0, .slice none 0 0]]) ?_ ?_
    ·
      refine wpIn_seq ?_
      refine reg ?_
      refine qq hS (g_movev (v := .int .i64 _) rfl) ?_
      refine qq hS (g_eql rfl rfl) ?_
      refine ol_nil (thenN ?_)
      refine cond_s rfl ?_ ?_
      ·
        intro hc23
        try simp only [Bool.and_eq_true, Bool.or_eq_true, Bool.not_eq_true', Bool.and_eq_false_imp, Bool.or_eq_false_iff, Bool.not_eq_false', decide_eq_true_eq, decide_eq_false_iff_not] at hc23
        have hbb : (if kind = 3 then (l.headD ⟨false, 0, 0⟩).b else 0) = s0.b := by rw [if_pos hc23, hhd]
        refine reg ?_
        refine qq hS (g_move _) ?_
        refine qq hS (g_ixI Tryz.underlying54 Tryz.sizeOf60 hl rfl rfl (by omega) (by omega)) ?_
        refine qq hS (g_fieldE (c' := 2) Tryz.underlying60 rfl Tryz.sizeOf5 rfl rfl rfl) ?_
        refine qq hS (g_ldE1 Tryz.isAgg5 hs0A rfl rfl) ?_
        refine qq hS (g_fieldAddr (o' := 3) Tryz.underlying62 rfl Tryz.sizeOf5 rfl rfl rfl) ?_
        refine qe (d_store 0 hS Tryz.sizeOf5 rfl rfl rfl (vs := [.int .u8 _]) rfl rfl rfl (Nat.le_of_ble_eq_true rfl) (cs' := [_, _, _, _, _]) rfl) ?_
        clear hS
        rintro _ w_5 ⟨rfl, hS⟩
        refine ol_nil (thenN ?_)
        refine ⟨_, rfl, ⟨rfl, rfl, rfl, rfl, trivial⟩, ?_⟩
        rw [hbb]
        exact hS.sel [true, true]
      ·
        intro hc23
        try simp only [Bool.and_eq_true, Bool.or_eq_true, Bool.not_eq_true', Bool.and_eq_false_imp, Bool.or_eq_false_iff, Bool.not_eq_false', decide_eq_true_eq, decide_eq_false_iff_not] at hc23
        have hbb : (if kind = 3 then (l.headD ⟨false, 0, 0⟩).b else 0) = 0 := if_neg hc23
        refine wpIn_skip ?_
        refine thenN ?_
        refine ⟨_, rfl, ⟨rfl, rfl, rfl, rfl, trivial⟩, ?_⟩
        rw [hbb]
        exact hS.sel [true, true]
    ·
      rintro σ w ⟨hs, hS⟩
      rw [← upds_self hs]
      refine wpIn_seq ?_
      refine wpIn_seq ?_
      refine reg ?_
      refine qq hS (g_assignv (v := .int .i64 _) rfl) ?_
      refine ol_nil (thenN ?_)
      refine wpIn_block ?_
      refine loop (fun (x : Nat × Option Addr × Nat) σ w => okS σ [(0, .int .i64 kind), (1, vl), (4, .pointer (some ⟨b4, 0, none⟩)), (5, .pointer (some ⟨b5, 0, none⟩)), (6, .int .i64 x.1)] ∧ St [] w0 I0 I0 w [.row (.slice x.2.1 x.1 x.2.2) 5 1 x.1 (flat byteC ((l.take x.1).map (·.b))), .cel b5 62 [.int .i64 kind, .int .i64 (if kind = 1 ∨ kind = 2 then (l.headD ⟨false, 0, 0⟩).at_ else 0), .int .i64 l.length, .int .u8 (if kind = 3 then (l.headD ⟨false, 0, 0⟩).b else 0), .slice x.2.1 x.1 x.2.2], .cel b4 62 [.int .i64 0, .int .i64 0, .int .i64 0, .int .u8 0, .slice none 0 0]] ∧ x.1 ≤ l.length ∧ (x.1 = 0 ∨ (kind = 2 ∨ kind = 4))) (fun x => l.length - x.1) ((0, none, 0)) ?_ ?_
      ·
        exact ⟨⟨rfl, rfl, rfl, rfl, rfl, trivial⟩, (hS.sel [true, true]).nilRow _ _, by simp, by simp⟩
      ·
        rintro ⟨k, a, c⟩ σ w_l ⟨hs, hS, hk0, hk1⟩
        dsimp only at hs hS hk0 hk1 ⊢
        rw [← upds_self hs]; clear hs
        refine wpIn_seq ?_
        refine wpIn_seq ?_
        refine reg ?_
        refine qq hS (g_movev (v := .int .i64 _) rfl) ?_
        refine qq hS (g_move _) ?_
        refine qq hS (g_lenI rfl Tryz.underlying54 hl rfl) ?_
        refine qq hS (g_lss rfl rfl) ?_
        refine qq hS (g_movev (v := .bool _) rfl) ?_
        refine qu rfl rfl hS (fun hg => (g_movev (v := .int .i64 _) rfl)) ?_
        intro u34 hu34 hn34
        refine qu rfl rfl hS (fun hg => (g_eql (hu34 hg) rfl)) ?_
        intro u35 hu35 hn35
        refine qu rfl rfl hS (fun hg => (g_movev (hu35 hg))) ?_
        intro u36 hu36 hn36
        refine qn rfl hu36 hn36 hS (fun hg => (g_movev (v := .int .i64 _) rfl)) ?_
        intro u37 hu37 hn37
        refine qn rfl hu36 hn36 hS (fun hg => (g_eql (hu37 hg) rfl)) ?_
        intro u38 hu38 hn38
        refine qu rfl rfl hS (fun hg => (g_or (hu36 hg) rfl (fun hq => hu38 ⟨hg, hq⟩))) ?_
        intro u39 hu39 hn39
        refine qq hS (g_and rfl rfl (fun hq => hu39 hq)) ?_
        refine ol_nil (thenN ?_)
        refine cond_s rfl ?_ ?_
        ·
          intro hc40
          clear hu34 hn34 hu35 hn35 hu36 hn36 hu37 hn37 hu38 hn38 hu39 hn39
          simp only [Bool.and_eq_true, Bool.or_eq_true, decide_eq_true_eq] at hc40
          obtain ⟨s, hsi⟩ : ∃ s, l[k]? = some s := ⟨_, List.getElem?_eq_getElem (by omega)⟩
          have hsA := hl.at hsi
          refine wpIn_skip ?_
          refine thenN ?_
          refine wpIn_seq ?_
          refine wpIn_block ?_
          refine draw (.cons 0 .pure (.cons 1 .held (.cons 2 .pure (.cons 3 .pure (.cons 4 .pure (.cons 5 .pure (.cons 6 .held (.cons 7 .eff (.cons 8 .bar (.cons 9 .pure (.cons 10 .bar .nil))))))))))) mixed (by kernel_rfl) hS ?_
          intro w_6 hS
          refine sp rfl (g_fieldAddr (o' := 4) Tryz.underlying62 rfl Tryz.sizeOf25 rfl rfl rfl) ?_
          refine sh rfl (g_ldO1 1 Tryz.isAgg25 rfl rfl rfl) ?_
          refine sp rfl (g_move _) ?_
          refine sp rfl (g_movev (v := .int .i64 _) rfl) ?_
          refine sp rfl (g_ixI Tryz.underlying54 Tryz.sizeOf60 hl rfl rfl (by omega) (by omega)) ?_
          refine sp rfl (g_fieldE (c' := 2) Tryz.underlying60 rfl Tryz.sizeOf5 rfl rfl rfl) ?_
          refine sh rfl (g_ldE1 Tryz.isAgg5 hsA rfl rfl) ?_
          have hS0 := hS
          refine se rfl (d_lit (vs := [.int .u8 _]) (cs := [.int .u8 _]) hS Tryz.underlying25 Tryz.sizeOf5 Tryz.zeroValue5 rfl rfl rfl rfl (fun v hv => by simp only [List.mem_cons, List.not_mem_nil, or_false] at hv; subst hv; rfl) rfl) ?_
          rintro _ w_7 ⟨b_7, rfl, hS⟩
          refine ⟨_, _, hS0.le (Sub.refl _) (List.sublist_cons_self _ _), hS, ?_⟩
          refine sb rfl (i_appendO 1 0 hS rfl Tryz.underlying25 info5 rfl rfl rfl rfl rfl rfl rfl rfl (by omega) (by omega)) ?_
          rintro _ w_8 ⟨a51, p51, rfl, hS⟩
          refine ⟨_, _, hS, ?_⟩
          refine sp rfl (g_fieldAddr (o' := 4) Tryz.underlying62 rfl Tryz.sizeOf25 rfl rfl rfl) ?_
          refine sb rfl (d_store 2 hS Tryz.sizeOf25 rfl rfl rfl (vs := [.slice _ _ _]) rfl rfl rfl (Nat.le_of_ble_eq_true rfl) (cs' := [_, _, _, _, _]) rfl) ?_
          rintro _ w_9 ⟨rfl, hS⟩
          refine ⟨_, _, hS, ?_⟩
          refine sn (blkN (thenN ?_))
          refine reg ?_
          refine qq hS (g_movev (v := .int .i64 _) rfl) ?_
          refine qq hS (g_add rfl rfl (by omega) (by omega)) ?_
          refine qq hS (g_assignv (v := .int .i64 _) rfl) ?_
          refine ol_nil (thenN ?_)
          refine ⟨(k + 1, a51, p51), _, rfl, ⟨⟨rfl, rfl, rfl, rfl, rfl, trivial⟩, ?_, by dsimp only; omega, .inr hc40.2⟩, by dsimp only; omega⟩
          dsimp only
          rw [take_snoc hsi, List.map_append, flat_append, List.map_cons, List.map_nil, flat_one]
          exact hS.sel [false, true, true, true]
        ·
          intro hc40
          clear hu34 hn34 hu35 hn35 hu36 hn36 hu37 hn37 hu38 hn38 hu39 hn39
          have hdat : (opS kind l).data = (l.take k).map (·.b) := by
            simp only [Bool.and_eq_false_iff, Bool.or_eq_false_iff, decide_eq_false_iff_not] at hc40
            show (if kind = 2 ∨ kind = 4 then _ else _) = _
            by_cases h : kind = 2 ∨ kind = 4
            · rw [if_pos h, List.take_of_length_le (by omega)]
            · rw [if_neg h, show k = 0 by omega]; rfl
          refine wpIn_exit ?_
          refine thenE (thenE (blkE ?_))
          refine thenN ?_
          refine wpIn_seq ?_
          refine reg ?_
          refine qq hS (g_ldO 1 (vs := [.int .i64 _, .int .i64 _, .int .i64 _, .int .u8 _, .slice _ _ _]) Tryz.sizeOf62 Tryz.isAgg62 rfl rfl rfl rfl) ?_
          refine qe (d_store 2 hS Tryz.sizeOf62 rfl rfl rfl (vs := [.int .i64 _, .int .i64 _, .int .i64 _, .int .u8 _, .slice _ _ _]) rfl rfl rfl (Nat.le_of_ble_eq_true rfl) (cs' := [_, _, _, _, _]) rfl) ?_
          clear hS
          rintro _ w_10 ⟨rfl, hS⟩
          refine ol_nil (thenN ?_)
          refine wpIn_ret ?_
          refine ret1 Tryz.results109 (rv_cel 2 hS Tryz.sizeOf62 Tryz.isAgg62 rfl rfl rfl) ?_
          have hS1 := hS.sel [true, false, false]
          obtain ⟨I1, hE1, hI1, hd1⟩ := row_freeze1 byteC_len (xs := (l.take k).map (·.b)) hS1 (by simp; omega)
          exact ⟨I1, a, k, c, rfl, hE1, by rw [hdat]; exact hd1⟩



end Go.Proofs.YtlhehhhpaebpoaaGreat


namespace Go.Proofs.YtlhehhhpaebpoaaGreat
open Go Go.RowKit Go.Inl
set_option linter.unusedSimpArgs false
set_option linter.unusedVariables false
theorem fits_drop {k : Int} : ∀ (m : Nat) (l : List Sym) (n : Nat), n ≤ fitsN k l → n - m ≤ fitsN k (l.drop m)
  | 0, l, n, h => by simpa using h
  | m + 1, [], n, h => by simp [fitsN] at h ⊢; omega
  | m + 1, s :: l, n, h => by
    cases n with
    | zero => omega
    | succ n =>
      have := fits_drop m l n (fitsN_tail h)
      rw [List.drop_succ_cons]; omega
theorem fits_weak12 {l : List Sym} {n : Nat} (h : n ≤ fitsN 1 l) : n ≤ fitsN 2 l := by
  cases l with
  | nil => simp [fitsN] at h; omega
  | cons s l =>
    rw [fits_iff] at h ⊢
    intro j hj
    obtain ⟨t, h1, h2⟩ := h j hj
    refine ⟨t, h1, ?_⟩
    simp [relK] at h2 ⊢
    exact ⟨h2.1, h2.2.1, h2.2.2.1⟩
theorem fits_weak34 {l : List Sym} {n : Nat} (h : n ≤ fitsN 3 l) : n ≤ fitsN 4 l := by
  cases l with
  | nil => simp [fitsN] at h; omega
  | cons s l =>
    rw [fits_iff] at h ⊢
    intro j hj
    obtain ⟨t, h1, h2⟩ := h j hj
    refine ⟨t, h1, ?_⟩
    simp [relK] at h2 ⊢
    exact h2.2.1
theorem cut_one {x : OpL} {n : Int} (w : List Int) (i : Nat) (h1 : 1 ≤ x.len) (h2 : rightP x n = true) : OpsOk n (cutA x w i ++ [cutB x w i]) ∧ symsOf (cutA x w i ++ [cutB x w i]) = symsOp x := by
  obtain ⟨ok, hlen, hfit⟩ := op_ok h1 h2
  have hk := right_kind h2
  have hf : x.len.toNat ≤ fitsN x.kind (symsOp x) := by have := hfit []; rwa [List.append_nil] at this
  have hsl := symsOp_length x
  have hn := cutN_bd (w := w) (i := i) h1
  have hkc := cutK_bd (w := w) (i := i) hk
  have hfc : x.len.toNat ≤ fitsN (cutK x w i) (symsOp x) := by
    unfold cutK cutK1
    split
    · by_cases a : 128 ≤ w.getD i 0 ∧ x.kind = 1
      · rw [if_pos a, if_neg (by omega)]
        rw [a.2] at hf; exact fits_weak12 hf
      · rw [if_neg a]
        split
        · rename_i b; rw [b.2] at hf; exact fits_weak34 hf
        · exact hf
    · exact hf
  have hfd := fits_drop (cutN x w i).toNat _ _ hf
  have hdl : ((symsOp x).drop (cutN x w i).toNat).length = x.len.toNat - (cutN x w i).toNat := by rw [List.length_drop, hsl]
  obtain ⟨b1, b2, b3⟩ := opS_right (n := n) hk.1 hk.2 (m := x.len.toNat - (cutN x w i).toNat) (by omega) hfd (ok.drop _)
  rw [List.take_of_length_le (by omega)] at b1 b2 b3
  have hB : 1 ≤ (cutB x w i).len ∧ rightP (cutB x w i) n = true := ⟨by show 1 ≤ (opS x.kind _).len; omega, b2⟩
  by_cases hz : 0 < cutN x w i
  · obtain ⟨a1, a2, a3⟩ := opS_right (n := n) hkc.1 hkc.2 (m := (cutN x w i).toNat) (by omega) (by omega) ok
    have hA : cutA x w i = [opS (cutK x w i) ((symsOp x).take (cutN x w i).toNat)] := by unfold cutA; rw [if_pos hz]
    rw [hA]
    refine ⟨fun y hy => ?_, ?_⟩
    · simp only [List.cons_append, List.nil_append, List.mem_cons, List.not_mem_nil, or_false] at hy
      rcases hy with rfl | rfl
      · exact ⟨by omega, a2⟩
      · exact hB
    · rw [symsOf_append, symsOf_one, symsOf_one, a3]
      show _ ++ symsOp (opS x.kind _) = _
      rw [b3, List.take_append_drop]
  · have hA : cutA x w i = [] := by unfold cutA; rw [if_neg hz]
    rw [hA]
    refine ⟨fun y hy => ?_, ?_⟩
    · simp only [List.nil_append, List.mem_cons, List.not_mem_nil, or_false] at hy
      subst hy; exact hB
    · rw [List.nil_append, symsOf_one]
      show symsOp (opS x.kind _) = _
      rw [b3, show (cutN x w i).toNat = 0 by omega, List.drop_zero]
theorem cutL_spec {n : Int} : ∀ (ops : List OpL) (w : List Int) (i : Nat), OpsOk n ops → OpsOk n (cutL ops w i) ∧ symsOf (cutL ops w i) = symsOf ops ∧ (cutL ops w i).length ≤ 2 * ops.length
  | [], w, i, _ => ⟨fun x hx => by simp [cutL] at hx, rfl, by simp [cutL]⟩
  | x :: l, w, i, h => by
    obtain ⟨h1, h2, h3⟩ := cutL_spec l w (i + 1) fun y hy => h y (by simp [hy])
    obtain ⟨h4, h5⟩ := cut_one w i (h x (by simp)).1 (h x (by simp)).2
    have hA : (cutA x w i).length ≤ 1 := by unfold cutA; split <;> simp
    rw [cutL]
    refine ⟨fun y hy => (List.mem_append.1 hy).elim (h4 y) (h1 y), ?_, ?_⟩
    · rw [symsOf_append, h5, h2, symsOf_cons]
    · rw [List.length_append, List.length_append, List.length_singleton, List.length_cons]; omega
theorem cutP_ok {p : PatL} (w : List Int) (h : (checkP p).2 = 0) (hl : p.ops.length ≤ 2048) : (checkP (cutP p w)).2 = 0 ∧ symsOf (cutP p w).ops = symsOf p.ops := by
  obtain ⟨h1, h2, h3, h4, h5, h6, h7⟩ := checkP_ok h
  obtain ⟨k1, k2, k3⟩ := cutL_spec p.ops w 0 h1
  refine ⟨checkP_right (p := cutP p w) ⟨h3, h4⟩ k1 ?_ h6 ?_, k2⟩
  · show ((symsOf (cutL p.ops w 0)).length : Int) = p.out
    rw [k2, h2]
  · show (cutL p.ops w 0).length ≤ 4096
    omega
theorem opS_wf' {k : Int} {l : List Sym} (hw : ∀ s ∈ l, s.wf) (hk : Mid k) (hl : l.length ≤ 65536) : (opS k l).wf := by
  have hh : (l.headD ⟨false, 0, 0⟩).wf := by
    cases l with
    | nil => exact ⟨by decide, by decide, by decide, by decide⟩
    | cons s l => exact hw s (by simp)
  obtain ⟨a1, a2, a3, a4⟩ := hh
  refine ⟨hk, ?_, ⟨by show _ ≤ (l.length : Int); omega, by show (l.length : Int) ≤ _; omega⟩, ?_, ?_⟩
  · show Mid (if k = 1 ∨ k = 2 then _ else _)
    split
    · exact ⟨a1, a2⟩
    · exact ⟨by decide, by decide⟩
  · show 0 ≤ (if k = 3 then _ else _) ∧ (if k = 3 then _ else _) ≤ 255
    split
    · exact ⟨a3, a4⟩
    · exact ⟨by decide, by decide⟩
  · intro y hy
    change y ∈ (if k = 2 ∨ k = 4 then _ else _) at hy
    split at hy
    · obtain ⟨s, hs, rfl⟩ := List.mem_map.1 hy
      exact ⟨(hw s hs).2.2.1, (hw s hs).2.2.2⟩
    · simp at hy
theorem symsOf_wf1 {p : PatL} (hp : p.wf) (h : (checkP p).2 = 0) : ∀ s ∈ symsOf p.ops, s.wf := by
  have := symsOf_wf hp
  rwa [symbolsP_ok h] at this
theorem cutP_wf {p : PatL} (w : List Int) (hp : p.wf) (h : (checkP p).2 = 0) : (cutP p w).wf := by
  obtain ⟨h1, h2, h3, h4, h5, h6, h7⟩ := checkP_ok h
  have hw := symsOf_wf1 hp h
  obtain ⟨k1, k2, k3⟩ := cutL_spec p.ops w 0 h1
  refine ⟨hp.in_, hp.out, ?_, by show ((cutL p.ops w 0).length : Int) ≤ _; omega⟩
  have key : ∀ (l : List OpL) (i : Nat), (∀ x ∈ l, x ∈ p.ops) → ∀ y ∈ cutL l w i, y.wf := by
    intro l
    induction l with
    | nil => intro i _ y hy; simp [cutL] at hy
    | cons x l ih =>
      intro i hl y hy
      have hx := hl x (by simp)
      have hxs : ∀ s ∈ symsOp x, s.wf := fun s hs => hw s (List.mem_flatMap.2 ⟨x, hx, hs⟩)
      have hb := ops_len_bd _ h1 x hx
      have hsl := symsOp_length x
      have hk := right_kind (h1 x hx).2
      have hkc := cutK_bd (w := w) (i := i) hk
      rw [cutL] at hy
      rcases List.mem_append.1 hy with hy | hy
      · rcases List.mem_append.1 hy with hy | hy
        · unfold cutA at hy
          split at hy
          · simp only [List.mem_singleton] at hy; subst hy
            exact opS_wf' (fun s hs => hxs s (List.mem_of_mem_take hs)) ⟨by omega, by omega⟩ (by rw [List.length_take]; omega)
          · simp at hy
        · simp only [List.mem_singleton] at hy; subst hy
          exact opS_wf' (fun s hs => hxs s (List.mem_of_mem_drop hs)) ⟨by omega, by omega⟩ (by rw [List.length_drop]; omega)
      · exact ih (i + 1) (fun z hz => hl z (by simp [hz])) y hy
  exact key p.ops 0 fun x hx => hx
theorem opRaw_right {q : Q4} {size : Int} (hq : q.wf) (hs : 0 ≤ size) : 1 ≤ (opRaw q size).len ∧ rightP (opRaw q size) size = true := by
  have hl := lenRaw_bd hq hs
  obtain ⟨⟨a0, a1⟩, ⟨b0, b1⟩, ⟨c0, c1⟩, ⟨d0, d1⟩⟩ := hq
  refine ⟨hl.1, ?_⟩
  unfold rightP insideP
  show (if kindRaw q size = 1 then (decide (0 ≤ fromRaw q size) && decide (fromRaw q size ≤ size - lenRaw q size)) && decide (bRaw q size = 0) && decide (((if kindRaw q size = 2 ∨ kindRaw q size = 4 then (List.range (lenRaw q size).toNat).map (datRaw q) else []).length : Int) = 0)
    else if kindRaw q size = 2 then (decide (0 ≤ fromRaw q size) && decide (fromRaw q size ≤ size - lenRaw q size)) && decide (bRaw q size = 0) && decide (((if kindRaw q size = 2 ∨ kindRaw q size = 4 then (List.range (lenRaw q size).toNat).map (datRaw q) else []).length : Int) = lenRaw q size)
    else if kindRaw q size = 3 then decide (fromRaw q size = 0) && decide (((if kindRaw q size = 2 ∨ kindRaw q size = 4 then (List.range (lenRaw q size).toNat).map (datRaw q) else []).length : Int) = 0)
    else if kindRaw q size = 4 then decide (fromRaw q size = 0) && decide (bRaw q size = 0) && decide (((if kindRaw q size = 2 ∨ kindRaw q size = 4 then (List.range (lenRaw q size).toNat).map (datRaw q) else []).length : Int) = lenRaw q size)
    else false) = true
  have hin : 1 + q.a % 4 ≤ 2 ∧ size ≠ 0 → 0 ≤ fromRaw q size ∧ fromRaw q size ≤ size - lenRaw q size := by
    intro h
    unfold fromRaw lenRaw
    rw [if_pos h, if_pos h]
    have e1 := Int.emod_nonneg q.b h.2
    have e2 := Int.emod_lt_of_pos q.b (show 0 < size by omega)
    generalize q.b % size = f at *
    have e3 := Int.emod_nonneg q.c (show size - f ≠ 0 by omega)
    have e4 := Int.emod_lt_of_pos q.c (show 0 < size - f by omega)
    omega
  have hout : ¬ (1 + q.a % 4 ≤ 2 ∧ size ≠ 0) → fromRaw q size = 0 := fun h => by unfold fromRaw; rw [if_neg h]
  have hkr : kindRaw q size = if 1 + q.a % 4 ≤ 2 ∧ size = 0 then 4 else 1 + q.a % 4 := rfl
  have hb : kindRaw q size ≠ 3 → bRaw q size = 0 := fun h => by unfold bRaw; rw [if_neg h]
  have hcase : kindRaw q size = 1 ∧ (1 + q.a % 4 ≤ 2 ∧ size ≠ 0) ∨ kindRaw q size = 2 ∧ (1 + q.a % 4 ≤ 2 ∧ size ≠ 0) ∨ kindRaw q size = 3 ∧ ¬ (1 + q.a % 4 ≤ 2 ∧ size ≠ 0) ∨ kindRaw q size = 4 ∧ ¬ (1 + q.a % 4 ≤ 2 ∧ size ≠ 0) := by
    rw [hkr]; split <;> omega
  rcases hcase with ⟨h, hc⟩ | ⟨h, hc⟩ | ⟨h, hc⟩ | ⟨h, hc⟩
  · have h1 := hin hc; have h2 := hb (by omega)
    simp [h, h1, h2]
  · have h1 := hin hc; have h2 := hb (by omega)
    simp [h, h1, h2]; omega
  · have h1 := hout hc
    simp [h, h1]
  · have h1 := hout hc; have h2 := hb (by omega)
    simp [h, h1, h2]; omega
theorem madeP_ok {l : List Q4} {size : Int} (hq : ∀ q ∈ l, q.wf) (hs : 0 ≤ size ∧ size ≤ 65536) : (checkP (madeP l size)).2 = 0 ∧ (madeP l size).out ≤ 30 ∧ (madeP l size).ops.length ≤ 6 := by
  have ho := madeP_out hq hs.1
  have hr : OpsOk size (opsRaw l size) := fun x hx => by
    obtain ⟨q, hq', rfl⟩ := opsRaw_mem hx
    exact opRaw_right (hq q hq') hs.1
  have hl : (opsRaw l size).length ≤ 6 := by unfold opsRaw; rw [List.length_map, List.length_take]; omega
  refine ⟨checkP_right (p := madeP l size) hs hr ?_ (by omega) (by show (opsRaw l size).length ≤ _; omega), ho.2, hl⟩
  exact symsOf_sum _ fun x hx => by have := (hr x hx).1; omega
theorem sameOps_refl {a : List OpL} {k : Nat} : sameOps a a k = true := by
  unfold sameOps
  rw [List.all_eq_true]
  intro p hp
  obtain ⟨i, hi⟩ := List.mem_iff_getElem?.1 (List.mem_of_mem_drop hp)
  rw [List.getElem?_zip_eq_some] at hi
  have := hi.1.symm.trans hi.2
  exact sameOpS_iff.2 (Option.some.inj this)
theorem samePR_refl (a : PatL) : samePR a a = true := by
  unfold samePR; simp [sameOps_refl]

theorem right_ok (p : PatL) (ad : Option Addr) (m cap : Nat) (w0 : World) (I0 : Imm) (hI : Sat I0 w0) (hops : ROps I0 (.slice ad m cap) p.ops) (hp : p.wf) (hok : (checkP p).2 = 0) :
    Ctr Tryz.prog 20 [.agg #[.bool p.lifted, .int .i64 p.in_, .int .i64 p.out, .slice ad m cap]] w0 (fun v w' => v = .bool true ∧ Ext w0 I0 w' I0) := by
  have h := rightP_c p ad m cap w0 I0 hI hops hp
  rw [checkR_of hok] at h
  exact h

end Go.Proofs.YtlhehhhpaebpoaaGreat


namespace Go.Proofs.YtlhehhhpaebpoaaGreat
open Go Go.RowKit Go.Inl
set_option linter.unusedSimpArgs false
set_option linter.unusedVariables false
theorem g_leqE {P : Program} {n : Nat} {σ : Nat → Value} {S : World → Prop} {ty t t' : TypeId} {x y : Operand} {k : IntKind} {a b : Int} {c : Bool} (hx : ev n σ x = .int k a) (hy : ev n σ y = .int k b) (hc : decide (a ≤ b) = c) : Gives P (ev n σ) S (.binOp .leq t x y t') ty (.bool c) := by
  subst hc; exact g_leq hx hy

theorem made_t (r : Int) (ad : Option Addr) (cap : Nat) (l : List Q4) (p : PatL) (w0 : World) (I0 : Imm) (hI : Sat I0 w0) (hl : RFl I0 4 q4C (.slice ad l.length cap) l) (hq : ∀ q ∈ l, q.wf) (hr : 0 ≤ r ∧ r ≤ 255) (hp : madeP l (r % 13) = p) :
    Ctr Tryz.prog 24 [.agg #[.int .u8 r, .slice ad l.length cap]] w0 (fun v w' => ∃ I' a m c, v = .agg #[.bool p.lifted, .int .i64 p.in_, .int .i64 p.out, .slice a m c] ∧ Ext w0 I0 w' I' ∧ ROps I' (.slice a m c) p.ops) := by
  subst hp; exact made_c r ad cap l w0 I0 hI hl hq hr.1 hr.2
theorem sameF (b : Bool) (n : Int) (l : List Sym) (a d : Option Addr) (m c e f : Nat) (w0 : World) (I0 : Imm) (hI : Sat I0 w0) (h1 : ROps I0 (.slice a m c) (optL l)) (h2 : ROps I0 (.slice d e f) (optL l)) (hw : (formOf b n l).wf) :
    Ctr Tryz.prog 17 [.agg #[.bool b, .int .i64 n, .int .i64 l.length, .slice a m c], .agg #[.bool b, .int .i64 n, .int .i64 l.length, .slice d e f]] w0 (fun v w' => v = .bool true ∧ Ext w0 I0 w' I0) :=
  sameR_e (formOf b n l) (formOf b n l) a d m c e f true w0 I0 hI h1 hw h2 hw (samePR_refl _)

end Go.Proofs.YtlhehhhpaebpoaaGreat

