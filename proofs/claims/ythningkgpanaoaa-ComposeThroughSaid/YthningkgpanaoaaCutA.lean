/- inlayref08.Op and Cut, patch.Cost: what they compute. Conditions: numbers within bounds. -/
import Derived.Test.YthningkgpanaoaaLaw2
namespace Go.Proofs.Ythningkgpanaoaa
open Go Go.RowKit Go.Inl
set_option linter.unusedSimpArgs false
set_option linter.unusedVariables false
structure CutS where
  k : Nat
  done : List OpL
  css : List (List Value)
  a : Option Addr
  c : Nat
/-- patch.Cost. -/
def sumP : List OpL → Int
  | [] => 0
  | x :: l => costP x + sumP l
theorem sumP_eq {n : Int} : ∀ (l : List OpL), OpsOk n l → sumP l = sumC l
  | [], _ => rfl
  | x :: l, h => by
    unfold sumP sumC
    rw [sumP_eq l fun y hy => h y (by simp [hy]), opc_costP (h x (by simp)).2]
/-- inlayref08.Cut. -/
def cutN (x : OpL) (w : List Int) (i : Nat) : Int := if i < w.length then w.getD i 0 % 64 % x.len else 0
def cutK1 (x : OpL) (w : List Int) (i : Nat) : Int := if 128 ≤ w.getD i 0 ∧ x.kind = 1 then 2 else x.kind
def cutK (x : OpL) (w : List Int) (i : Nat) : Int := if i < w.length then (if 128 ≤ w.getD i 0 ∧ cutK1 x w i = 3 then 4 else cutK1 x w i) else x.kind
def cutA (x : OpL) (w : List Int) (i : Nat) : List OpL := if 0 < cutN x w i then [opS (cutK x w i) ((symsOp x).take (cutN x w i).toNat)] else []
def cutB (x : OpL) (w : List Int) (i : Nat) : OpL := opS x.kind ((symsOp x).drop (cutN x w i).toNat)
def cutL : List OpL → List Int → Nat → List OpL
  | [], _, _ => []
  | x :: r, w, i => (cutA x w i ++ [cutB x w i]) ++ cutL r w (i + 1)
def cutP (p : PatL) (w : List Int) : PatL := ⟨p.lifted, p.in_, p.out, cutL p.ops w 0⟩
theorem cutL_append : ∀ (a b : List OpL) (w : List Int) (i : Nat), cutL (a ++ b) w i = cutL a w i ++ cutL b w (i + a.length)
  | [], b, w, i => by simp [cutL]
  | x :: a, b, w, i => by
    rw [List.cons_append, cutL, cutL, cutL_append a b w (i + 1), List.append_assoc, List.length_cons, show i + 1 + a.length = i + (a.length + 1) by omega, List.append_assoc, List.append_assoc]
theorem cutL_snoc {l : List OpL} {k : Nat} {x : OpL} {w : List Int} (h : l[k]? = some x) : cutL (l.take (k + 1)) w 0 = (cutL (l.take k) w 0 ++ cutA x w k) ++ [cutB x w k] := by
  have hk := (List.getElem?_eq_some_iff.1 h).1
  rw [take_snoc h, cutL_append, List.length_take, Nat.min_eq_left (by omega), Nat.zero_add, List.append_assoc]
  simp [cutL]
theorem cutN_bd {x : OpL} {w : List Int} {i : Nat} (hx : 1 ≤ x.len) : 0 ≤ cutN x w i ∧ cutN x w i < x.len := by
  unfold cutN
  split
  · exact ⟨Int.emod_nonneg _ (by omega), Int.emod_lt_of_pos _ (by omega)⟩
  · omega
theorem cutK_bd {x : OpL} {w : List Int} {i : Nat} (hx : 1 ≤ x.kind ∧ x.kind ≤ 4) : 1 ≤ cutK x w i ∧ cutK x w i ≤ 4 := by
  unfold cutK cutK1
  repeat' split
  all_goals omega
theorem seg_at {l : List OpL} {k : Nat} {x : OpL} (h : l[k]? = some x) (n m : Nat) (hm : m ≤ x.len.toNat) (hn : n ≤ m) : ((symsOf l).take ((symsOf (l.take k)).length + m)).drop ((symsOf (l.take k)).length + n) = ((symsOp x).take m).drop n := by
  have h1 : symsOf l = symsOf (l.take k) ++ (symsOp x ++ symsOf (l.drop (k + 1))) := by
    conv => lhs; rw [← List.take_append_drop k l]
    rw [symsOf_append, drop_cons h, symsOf_cons]
  have hl := symsOp_length x
  rw [h1, List.take_length_add_append, List.drop_length_add_append, List.take_append_of_le_length (by omega)]
theorem symbolsR_t (p : PatL) (ad : Option Addr) (m cap : Nat) (w0 : World) (I0 : Imm) (hI : Sat I0 w0) (hops : ROps I0 (.slice ad m cap) p.ops) (hp : p.wf) (hok : (checkP p).2 = 0) :
    Ctr Try.prog 28 [.agg #[.bool p.lifted, .int .i64 p.in_, .int .i64 p.out, .slice ad m cap]] w0 (fun v w' => ∃ I' a c, v = .tuple #[.slice a (symsOf p.ops).length c, .int .i64 0] ∧ Ext w0 I0 w' I' ∧ RSyms I' (.slice a (symsOf p.ops).length c) (symsOf p.ops)) := by
  have h := symbolsR_c p ad m cap w0 I0 hI hops hp
  have e : symbolsR p = (symsOf p.ops, 0) := by unfold symbolsR; rw [if_pos (checkR_of hok)]
  rw [e] at h
  exact h

set_option maxHeartbeats 1000000 in
theorem refOp_c (kind : Int) (vl : Value) (l : List Sym) (w0 : World) (I0 : Imm) (hI : Sat I0 w0) (hl : RSyms I0 vl l) (hk : Mid kind) (hne : 0 < l.length) (hn : l.length ≤ 65536) :
    Ctr Try.prog 92 [.int .i64 kind, vl] w0 (fun v w' => ∃ I' ad m cap, v = opV (opS kind l) ad m cap ∧ Ext w0 I0 w' I' ∧ RBytes I' (.slice ad m cap) (opS kind l).data) := by
  obtain ⟨s0, hs0⟩ : ∃ s, l[0]? = some s := ⟨_, List.getElem?_eq_getElem hne⟩
  have hs0A := hl.at hs0
  have hhd : l.headD ⟨false, 0, 0⟩ = s0 := by rw [List.headD_eq_head?_getD, List.head?_eq_getElem?, hs0]; rfl
  refine fn (n := 54) Try.func92 rfl rfl rfl ?_
  have hS := St.start hI
  refine wp_seq ?_
  refine reg ?_
  refine qe (d_alloc (cs := [.int .i64 _, .int .i64 _, .int .i64 _, .int .u8 _, .slice _ _ _]) hS Try.zeroValue81 rfl) ?_
  clear hS
  rintro _ w_1 ⟨b4, rfl, hS⟩
  refine ol_nil (thenN ?_)
  refine wp_seq ?_
  refine reg ?_
  refine qq hS (g_movev (v := .int .i64 _) rfl) ?_
  refine qq hS (g_move _) ?_
  refine qq hS (g_lenI rfl Try.underlying37 hl rfl) ?_
  refine qq hS (g_buildv (pl := [(0, 1), (1, 1), (2, 1), (3, 1), (4, 1)]) (cs := [.int .i64 _, .int .i64 _, .int .i64 _, .int .u8 _, .slice _ _ _]) Try.zeroValue81 Try.underlying81 (fun w => by simp [Try.sizeOf3, Try.sizeOf5, Try.sizeOf62]) (mp (v := .int .i64 _) rfl (mp (v := .int .i64 _) rfl mp0)) rfl) ?_
  refine qe (d_alloc (cs := [.int .i64 _, .int .i64 _, .int .i64 _, .int .u8 _, .slice _ _ _]) hS Try.zeroValue81 rfl) ?_
  clear hS
  rintro _ w_2 ⟨b5, rfl, hS⟩
  refine qe (d_store 0 hS Try.sizeOf81 rfl rfl rfl (vs := [.int .i64 _, .int .i64 _, .int .i64 _, .int .u8 _, .slice _ _ _]) rfl rfl rfl (Nat.le_of_ble_eq_true rfl) (cs' := [_, _, _, _, _]) rfl) ?_
  clear hS
  rintro _ w_3 ⟨rfl, hS⟩
  refine ol_nil (thenN ?_)
  refine meet (fun σ w => okS σ [(0, .int .i64 kind), (1, vl), (4, .pointer (some ⟨b4, 0, none⟩)), (5, .pointer (some ⟨b5, 0, none⟩))] ∧ St [] w0 I0 I0 w [.cel b5 81 [.int .i64 kind, .int .i64 (if kind = 1 ∨ kind = 2 then (l.headD ⟨false, 0, 0⟩).at_ else 0), .int .i64 l.length, .int .u8 0, .slice none 0 0], .cel b4 81 [.int .i64 0, .int .i64 0, .int .i64 0, .int .u8 0, .slice none 0 0]]) ?_ ?_
  ·
    refine wp_seq ?_
    refine reg ?_
    refine qq hS (g_movev (v := .int .i64 _) rfl) ?_
    refine qq hS (g_eql rfl rfl) ?_
    refine qq hS (g_movev (v := .bool _) rfl) ?_
    refine qu rfl rfl hS (fun hg => (g_movev (v := .int .i64 _) rfl)) ?_
    intro u14 hu14 hn14
    refine qu rfl rfl hS (fun hg => (g_eql (hu14 hg) rfl)) ?_
    intro u15 hu15 hn15
    refine qq hS (g_or rfl rfl (fun hq => hu15 hq)) ?_
    refine ol_nil (thenN ?_)
    refine cond_s rfl ?_ ?_
    ·
      intro hc16
      clear hu14 hn14 hu15 hn15
      try simp only [Bool.and_eq_true, Bool.or_eq_true, Bool.not_eq_true', Bool.and_eq_false_imp, Bool.or_eq_false_iff, Bool.not_eq_false', decide_eq_true_eq, decide_eq_false_iff_not] at hc16
      have hfr : (if kind = 1 ∨ kind = 2 then (l.headD ⟨false, 0, 0⟩).at_ else 0) = s0.at_ := by rw [if_pos hc16, hhd]
      refine reg ?_
      refine qq hS (g_move _) ?_
      refine qq hS (g_ixI Try.underlying37 Try.sizeOf54 hl rfl rfl (by omega) (by omega)) ?_
      refine qq hS (g_fieldE (c' := 1) Try.underlying54 rfl Try.sizeOf3 rfl rfl rfl) ?_
      refine qq hS (g_ldE1 Try.isAgg3 hs0A rfl rfl) ?_
      refine qq hS (g_fieldAddr (o' := 1) Try.underlying81 rfl Try.sizeOf3 rfl rfl rfl) ?_
      refine qe (d_store 0 hS Try.sizeOf3 rfl rfl rfl (vs := [.int .i64 _]) rfl rfl rfl (Nat.le_of_ble_eq_true rfl) (cs' := [_, _, _, _, _]) rfl) ?_
      clear hS
      rintro _ w_4 ⟨rfl, hS⟩
      refine ol_nil (thenN ?_)
      refine ⟨_, rfl, ⟨rfl, rfl, rfl, rfl, trivial⟩, ?_⟩
      rw [hfr]
      exact hS.sel [true, true]
    ·
      intro hc16
      clear hu14 hn14 hu15 hn15
      try simp only [Bool.and_eq_true, Bool.or_eq_true, Bool.not_eq_true', Bool.and_eq_false_imp, Bool.or_eq_false_iff, Bool.not_eq_false', decide_eq_true_eq, decide_eq_false_iff_not] at hc16
      have hfr : (if kind = 1 ∨ kind = 2 then (l.headD ⟨false, 0, 0⟩).at_ else 0) = 0 := if_neg (by omega)
      refine wp_skip ?_
      refine thenN ?_
      refine ⟨_, rfl, ⟨rfl, rfl, rfl, rfl, trivial⟩, ?_⟩
      rw [hfr]
      exact hS.sel [true, true]
  ·
    rintro σ w ⟨hs, hS⟩
    rw [← upds_self hs]
    refine meet (fun σ w => okS σ [(0, .int .i64 kind), (1, vl), (4, .pointer (some ⟨b4, 0, none⟩)), (5, .pointer (some ⟨b5, 0, none⟩))] ∧ St [] w0 I0 I0 w [.cel b5 81 [.int .i64 kind, .int .i64 (if kind = 1 ∨ kind = 2 then (l.headD ⟨false, 0, 0⟩).at_ else 0), .int .i64 l.length, .int .u8 (if kind = 3 then (l.headD ⟨false, 0, 0⟩).b else 0), .slice none 0 0], .cel b4 81 [.int .i64 0, .int .i64 0, .int .i64 0, .int .u8 0, .slice none 0 0]]) ?_ ?_
    ·
      refine wp_seq ?_
      refine reg ?_
      refine qq hS (g_movev (v := .int .i64 _) rfl) ?_
      refine qq hS (g_eql rfl rfl) ?_
      refine ol_nil (thenN ?_)
      refine cond_s rfl ?_ ?_
      ·
        intro hc23
        try simp only [Bool.and_eq_true, Bool.or_eq_true, Bool.not_eq_true', Bool.and_eq_false_imp, Bool.or_eq_false_iff, Bool.not_eq_false', decide_eq_true_eq, decide_eq_false_iff_not] at hc23
        have hbb : (if kind = 3 then (l.headD ⟨false, 0, 0⟩).b else 0) = s0.b := by rw [if_pos hc23, hhd]
        refine reg ?_
        refine qq hS (g_move _) ?_
        refine qq hS (g_ixI Try.underlying37 Try.sizeOf54 hl rfl rfl (by omega) (by omega)) ?_
        refine qq hS (g_fieldE (c' := 2) Try.underlying54 rfl Try.sizeOf5 rfl rfl rfl) ?_
        refine qq hS (g_ldE1 Try.isAgg5 hs0A rfl rfl) ?_
        refine qq hS (g_fieldAddr (o' := 3) Try.underlying81 rfl Try.sizeOf5 rfl rfl rfl) ?_
        refine qe (d_store 0 hS Try.sizeOf5 rfl rfl rfl (vs := [.int .u8 _]) rfl rfl rfl (Nat.le_of_ble_eq_true rfl) (cs' := [_, _, _, _, _]) rfl) ?_
        clear hS
        rintro _ w_5 ⟨rfl, hS⟩
        refine ol_nil (thenN ?_)
        refine ⟨_, rfl, ⟨rfl, rfl, rfl, rfl, trivial⟩, ?_⟩
        rw [hbb]
        exact hS.sel [true, true]
      ·
        intro hc23
        try simp only [Bool.and_eq_true, Bool.or_eq_true, Bool.not_eq_true', Bool.and_eq_false_imp, Bool.or_eq_false_iff, Bool.not_eq_false', decide_eq_true_eq, decide_eq_false_iff_not] at hc23
        have hbb : (if kind = 3 then (l.headD ⟨false, 0, 0⟩).b else 0) = 0 := if_neg hc23
        refine wp_skip ?_
        refine thenN ?_
        refine ⟨_, rfl, ⟨rfl, rfl, rfl, rfl, trivial⟩, ?_⟩
        rw [hbb]
        exact hS.sel [true, true]
    ·
      rintro σ w ⟨hs, hS⟩
      rw [← upds_self hs]
      refine wp_seq ?_
      refine wp_seq ?_
      refine reg ?_
      refine qq hS (g_assignv (v := .int .i64 _) rfl) ?_
      refine ol_nil (thenN ?_)
      refine wp_block ?_
      refine loop (fun (x : Nat × Option Addr × Nat) σ w => okS σ [(0, .int .i64 kind), (1, vl), (4, .pointer (some ⟨b4, 0, none⟩)), (5, .pointer (some ⟨b5, 0, none⟩)), (6, .int .i64 x.1)] ∧ St [] w0 I0 I0 w [.row (.slice x.2.1 x.1 x.2.2) 5 1 x.1 (flat byteC ((l.take x.1).map (·.b))), .cel b5 81 [.int .i64 kind, .int .i64 (if kind = 1 ∨ kind = 2 then (l.headD ⟨false, 0, 0⟩).at_ else 0), .int .i64 l.length, .int .u8 (if kind = 3 then (l.headD ⟨false, 0, 0⟩).b else 0), .slice x.2.1 x.1 x.2.2], .cel b4 81 [.int .i64 0, .int .i64 0, .int .i64 0, .int .u8 0, .slice none 0 0]] ∧ x.1 ≤ l.length ∧ (x.1 = 0 ∨ (kind = 2 ∨ kind = 4))) (fun x => l.length - x.1) ((0, none, 0)) ?_ ?_
      ·
        exact ⟨⟨rfl, rfl, rfl, rfl, rfl, trivial⟩, (hS.sel [true, true]).nilRow _ _, by simp, by simp⟩
      ·
        rintro ⟨k, a, c⟩ σ w_l ⟨hs, hS, hk0, hk1⟩
        dsimp only at hs hS hk0 hk1 ⊢
        rw [← upds_self hs]; clear hs
        refine wp_seq ?_
        refine wp_seq ?_
        refine reg ?_
        refine qq hS (g_movev (v := .int .i64 _) rfl) ?_
        refine qq hS (g_move _) ?_
        refine qq hS (g_lenI rfl Try.underlying37 hl rfl) ?_
        refine qq hS (g_lss rfl rfl) ?_
        refine qq hS (g_movev (v := .bool _) rfl) ?_
        refine qu rfl rfl hS (fun hg => (g_movev (v := .int .i64 _) rfl)) ?_
        intro u34 hu34 hn34
        refine qu rfl rfl hS (fun hg => (g_eql (hu34 hg) rfl)) ?_
        intro u35 hu35 hn35
        refine qu rfl rfl hS (fun hg => (g_movev (hu35 hg))) ?_
        intro u36 hu36 hn36
        refine qn rfl hu36 hn36 hS (fun hg => (g_movev (v := .int .i64 _) rfl)) ?_
        intro u37 hu37 hn37
        refine qn rfl hu36 hn36 hS (fun hg => (g_eql (hu37 hg) rfl)) ?_
        intro u38 hu38 hn38
        refine qu rfl rfl hS (fun hg => (g_or (hu36 hg) rfl (fun hq => hu38 ⟨hg, hq⟩))) ?_
        intro u39 hu39 hn39
        refine qq hS (g_and rfl rfl (fun hq => hu39 hq)) ?_
        refine ol_nil (thenN ?_)
        refine cond_s rfl ?_ ?_
        ·
          intro hc40
          clear hu34 hn34 hu35 hn35 hu36 hn36 hu37 hn37 hu38 hn38 hu39 hn39
          simp only [Bool.and_eq_true, Bool.or_eq_true, decide_eq_true_eq] at hc40
          obtain ⟨s, hsi⟩ : ∃ s, l[k]? = some s := ⟨_, List.getElem?_eq_getElem (by omega)⟩
          have hsA := hl.at hsi
          refine wp_skip ?_
          refine thenN ?_
          refine wp_seq ?_
          refine wp_block ?_
          refine draw (.cons 0 .pure (.cons 1 .held (.cons 2 .pure (.cons 3 .pure (.cons 4 .pure (.cons 5 .pure (.cons 6 .held (.cons 7 .eff (.cons 8 .bar (.cons 9 .pure (.cons 10 .bar .nil))))))))))) mixed (by kernel_rfl) hS ?_
          intro w_6 hS
          refine sp rfl (g_fieldAddr (o' := 4) Try.underlying81 rfl Try.sizeOf62 rfl rfl rfl) ?_
          refine sh rfl (g_ldO1 1 Try.isAgg62 rfl rfl rfl) ?_
          refine sp rfl (g_move _) ?_
          refine sp rfl (g_movev (v := .int .i64 _) rfl) ?_
          refine sp rfl (g_ixI Try.underlying37 Try.sizeOf54 hl rfl rfl (by omega) (by omega)) ?_
          refine sp rfl (g_fieldE (c' := 2) Try.underlying54 rfl Try.sizeOf5 rfl rfl rfl) ?_
          refine sh rfl (g_ldE1 Try.isAgg5 hsA rfl rfl) ?_
          have hS0 := hS
          refine se rfl (d_lit (vs := [.int .u8 _]) (cs := [.int .u8 _]) hS Try.underlying62 Try.sizeOf5 Try.zeroValue5 rfl rfl rfl rfl (fun v hv => by simp only [List.mem_cons, List.not_mem_nil, or_false] at hv; subst hv; rfl) rfl) ?_
          rintro _ w_7 ⟨b_7, rfl, hS⟩
          refine ⟨_, _, hS0.le (Sub.refl _) (List.sublist_cons_self _ _), hS, ?_⟩
          refine sb rfl (i_appendO 1 0 hS rfl Try.underlying62 info5 rfl rfl rfl rfl rfl rfl rfl rfl (by omega) (by omega)) ?_
          rintro _ w_8 ⟨a51, p51, rfl, hS⟩
          refine ⟨_, _, hS, ?_⟩
          refine sp rfl (g_fieldAddr (o' := 4) Try.underlying81 rfl Try.sizeOf62 rfl rfl rfl) ?_
          refine sb rfl (d_store 2 hS Try.sizeOf62 rfl rfl rfl (vs := [.slice _ _ _]) rfl rfl rfl (Nat.le_of_ble_eq_true rfl) (cs' := [_, _, _, _, _]) rfl) ?_
          rintro _ w_9 ⟨rfl, hS⟩
          refine ⟨_, _, hS, ?_⟩
          refine sn (blkN (thenN ?_))
          refine reg ?_
          refine qq hS (g_movev (v := .int .i64 _) rfl) ?_
          refine qq hS (g_add rfl rfl (by omega) (by omega)) ?_
          refine qq hS (g_assignv (v := .int .i64 _) rfl) ?_
          refine ol_nil (thenN ?_)
          refine ⟨(k + 1, a51, p51), _, rfl, ⟨⟨rfl, rfl, rfl, rfl, rfl, trivial⟩, ?_, by dsimp only; omega, .inr hc40.2⟩, by dsimp only; omega⟩
          dsimp only
          rw [take_snoc hsi, List.map_append, flat_append, List.map_cons, List.map_nil, flat_one]
          exact hS.sel [false, true, true, true]
        ·
          intro hc40
          clear hu34 hn34 hu35 hn35 hu36 hn36 hu37 hn37 hu38 hn38 hu39 hn39
          have hdat : (opS kind l).data = (l.take k).map (·.b) := by
            simp only [Bool.and_eq_false_iff, Bool.or_eq_false_iff, decide_eq_false_iff_not] at hc40
            show (if kind = 2 ∨ kind = 4 then _ else _) = _
            by_cases h : kind = 2 ∨ kind = 4
            · rw [if_pos h, List.take_of_length_le (by omega)]
            · rw [if_neg h, show k = 0 by omega]; rfl
          refine wp_exit ?_
          refine thenE (thenE (blkE ?_))
          refine thenN ?_
          refine wp_seq ?_
          refine reg ?_
          refine qq hS (g_ldO 1 (vs := [.int .i64 _, .int .i64 _, .int .i64 _, .int .u8 _, .slice _ _ _]) Try.sizeOf81 Try.isAgg81 rfl rfl rfl rfl) ?_
          refine qe (d_store 2 hS Try.sizeOf81 rfl rfl rfl (vs := [.int .i64 _, .int .i64 _, .int .i64 _, .int .u8 _, .slice _ _ _]) rfl rfl rfl (Nat.le_of_ble_eq_true rfl) (cs' := [_, _, _, _, _]) rfl) ?_
          clear hS
          rintro _ w_10 ⟨rfl, hS⟩
          refine ol_nil (thenN ?_)
          refine wp_ret ?_
          refine ret1 Try.results92 (rv_cel 2 hS Try.sizeOf81 Try.isAgg81 rfl rfl rfl) ?_
          have hS1 := hS.sel [true, false, false]
          obtain ⟨I1, hE1, hI1, hd1⟩ := row_freeze1 byteC_len (xs := (l.take k).map (·.b)) hS1 (by simp; omega)
          exact ⟨I1, a, k, c, rfl, hE1, by rw [hdat]; exact hd1⟩

theorem m_copying_cost (v : Value) (w : World) : (method (Try.prog.types.size + Made.depth) 130 v "inlay/patch.cost").run Try.prog w = .ok (113, v) w := by kernel_rfl
theorem m_differing_cost (v : Value) (w : World) : (method (Try.prog.types.size + Made.depth) 131 v "inlay/patch.cost").run Try.prog w = .ok (117, v) w := by kernel_rfl
theorem m_running_cost (v : Value) (w : World) : (method (Try.prog.types.size + Made.depth) 132 v "inlay/patch.cost").run Try.prog w = .ok (120, v) w := by kernel_rfl
theorem m_literal_cost (v : Value) (w : World) : (method (Try.prog.types.size + Made.depth) 133 v "inlay/patch.cost").run Try.prog w = .ok (123, v) w := by kernel_rfl
theorem m_unknownOne_cost (v : Value) (w : World) : (method (Try.prog.types.size + Made.depth) 135 v "inlay/patch.cost").run Try.prog w = .ok (126, v) w := by kernel_rfl
theorem does_cost {n : Nat} {σ : Nat → Value} {ty : TypeId} {aT : Array TypeId} {r : Operand} {w : World} {I : Imm} (x : OpL) (ad : Option Addr) (m cap : Nat) (hI : Sat I w) (hd : RBytes I (.slice ad m cap) x.data) (hx : x.wf) (hr : ev n σ r = ofV x (opV x ad m cap)) :
    Does Try.prog (ev n σ) (.call { callee := .invoke r "inlay/patch.cost", args := #[], argTypes := aT }) ty w (fun v w' => v = .int .i64 (costP x) ∧ Ext w I w' I) := by
  unfold ofV at hr
  unfold costP
  by_cases h1 : x.kind = 1
  · rw [if_pos h1] at hr ⊢
    exact d_invoke (l := []) hr (m_copying_cost _) Try.call113 rfl (copying_cost x ad m cap w I hI hd hx)
  rw [if_neg h1] at hr ⊢
  by_cases h2 : x.kind = 2
  · rw [if_pos h2] at hr ⊢
    exact d_invoke (l := []) hr (m_differing_cost _) Try.call117 rfl (differing_cost x ad m cap w I hI hd hx)
  rw [if_neg h2] at hr ⊢
  by_cases h3 : x.kind = 3
  · rw [if_pos h3] at hr ⊢
    exact d_invoke (l := []) hr (m_running_cost _) Try.call120 rfl (running_cost x ad m cap w I hI hd hx)
  rw [if_neg h3] at hr ⊢
  by_cases h4 : x.kind = 4
  · rw [if_pos h4] at hr ⊢
    exact d_invoke (l := []) hr (m_literal_cost _) Try.call123 rfl (literal_cost x ad m cap w I hI hd hx)
  rw [if_neg h4] at hr ⊢
  exact d_invoke (l := []) hr (m_unknownOne_cost _) Try.call126 rfl (unknown_cost w I hI)

theorem patchCost_c (p : PatL) (ad : Option Addr) (m cap : Nat) (w0 : World) (I0 : Imm) (hI : Sat I0 w0) (hops : ROps I0 (.slice ad m cap) p.ops) (hp : p.wf) (hb : ∀ x ∈ p.ops, 0 ≤ x.len ∧ x.len ≤ 65536) :
    Ctr Try.prog 29 [.agg #[.bool p.lifted, .int .i64 p.in_, .int .i64 p.out, .slice ad m cap]] w0 (fun v w' => v = .int .i64 (sumP p.ops) ∧ Ext w0 I0 w' I0) := by
  have hlm := hp.len
  refine fn (n := 20) Try.func29 rfl rfl rfl ?_
  have hS := St.start hI
  refine wp_seq ?_
  refine reg ?_
  refine qe (d_box (cs := [.bool _, .int .i64 _, .int .i64 _, .slice _ _ _]) hS rfl) ?_
  clear hS
  rintro _ w_1 ⟨b1, rfl, hS⟩
  refine qq hS (g_assignv (v := .int .i64 _) rfl) ?_
  refine ol_nil (thenN ?_)
  refine wp_seq ?_
  refine reg ?_
  refine qq hS (g_assignv (v := .int .i64 _) rfl) ?_
  refine ol_nil (thenN ?_)
  refine wp_seq ?_
  refine wp_seq ?_
  refine reg ?_
  refine qq hS (g_fieldAddr (o' := 3) Try.underlying31 rfl Try.sizeOf29 rfl rfl rfl) ?_
  refine qq hS (g_ldO1 0 Try.isAgg29 rfl rfl rfl) ?_
  refine qq hS (g_lenI rfl Try.underlying29 hops rfl) ?_
  refine qq hS (g_movev (v := .int .i64 _) rfl) ?_
  refine ol_nil (thenN ?_)
  refine wp_block ?_
  refine loop (fun (x : Nat × Int) σ w => okS σ [(3, .int .i64 x.2), (7, .slice ad m cap), (8, .int .i64 p.ops.length), (9, .int .i64 x.1)] ∧ St [] w0 I0 I0 w [] ∧ x.1 ≤ p.ops.length ∧ 0 ≤ x.2 ∧ x.2 ≤ 70000 * (x.1 : Int) ∧ x.2 + sumP (p.ops.drop x.1) = sumP p.ops) (fun x => p.ops.length - x.1) ((0, 0)) ?_ ?_
  ·
    exact ⟨⟨rfl, rfl, rfl, rfl, trivial⟩, hS.sel [false], by simp, by decide, by decide, by simp⟩
  ·
    rintro ⟨k, s⟩ σ w_l ⟨hs, hS, hk0, hl0, hl1, hgo⟩
    dsimp only at hs hS hk0 hl0 hl1 hgo ⊢
    rw [← upds_self hs]; clear hs
    refine wp_seq ?_
    refine reg ?_
    refine qq hS (g_lss rfl rfl) ?_
    refine ol_nil (thenN ?_)
    refine wp_seq ?_
    refine cond_s rfl ?_ ?_
    ·
      intro hc10
      try simp only [Bool.and_eq_true, Bool.or_eq_true, Bool.not_eq_true', Bool.and_eq_false_imp, Bool.or_eq_false_iff, Bool.not_eq_false', decide_eq_true_eq, decide_eq_false_iff_not] at hc10
      obtain ⟨x, hx⟩ : ∃ x, p.ops[k]? = some x := ⟨_, List.getElem?_eq_getElem (by omega)⟩
      have hxm := List.mem_of_getElem? hx
      obtain ⟨cs, hcl, hoA, hro⟩ := RSl.at hops hx
      obtain ⟨adx, mx, capx, rfl, hd⟩ := hro
      have hxl := hb x hxm
      have hxc : 0 ≤ costP x ∧ costP x ≤ 70000 := by unfold costP; repeat' split
                                                     all_goals omega
      rw [drop_cons hx, sumP] at hgo
      refine wp_skip ?_
      refine thenN ?_
      refine wp_seq ?_
      refine wp_block ?_
      refine wp_seq ?_
      refine reg ?_
      refine qq hS (g_ixI Try.underlying29 Try.sizeOf81 hops rfl rfl (by omega) (by omega)) ?_
      refine qq hS (g_ldE (us := [.int .i64 _, .int .i64 _, .int .i64 _, .int .u8 _, .slice _ _ _]) Try.sizeOf81 Try.isAgg81 hoA rfl rfl rfl) ?_
      refine qe (d_alloc (cs := [.int .i64 _, .int .i64 _, .int .i64 _, .int .u8 _, .slice _ _ _]) hS Try.zeroValue81 rfl) ?_
      clear hS
      rintro _ w_2 ⟨b5, rfl, hS⟩
      refine qe (d_store 0 hS Try.sizeOf81 rfl rfl rfl (vs := [.int .i64 _, .int .i64 _, .int .i64 _, .int .u8 _, .slice _ _ _]) rfl rfl rfl (Nat.le_of_ble_eq_true rfl) (cs' := [_, _, _, _, _]) rfl) ?_
      clear hS
      rintro _ w_3 ⟨rfl, hS⟩
      refine ol_nil (thenN ?_)
      refine reg ?_
      refine qq hS (g_movev (v := .int .i64 _) rfl) ?_
      refine qq hS (g_ldO 0 (vs := [.int .i64 _, .int .i64 _, .int .i64 _, .int .u8 _, .slice _ _ _]) Try.sizeOf81 Try.isAgg81 rfl rfl rfl rfl) ?_
      refine qe (d_call Try.call53 rfl (of_c x adx mx capx _ I0 hS.imm hd (hp.ops x hxm))) ?_
      rintro _ w_4 ⟨rfl, hE⟩
      replace hS := hS.callE hE
      refine qe (does_cost x adx mx capx hS.imm hd (hp.ops x hxm) rfl) ?_
      rintro _ w_5 ⟨rfl, hE⟩
      replace hS := hS.callE hE
      refine qq hS (g_add rfl rfl (by omega) (by omega)) ?_
      refine qq hS (g_assignv (v := .int .i64 _) rfl) ?_
      refine ol_nil (blkN (thenN ?_))
      refine reg ?_
      refine qq hS (g_add rfl rfl (by omega) (by omega)) ?_
      refine qq hS (g_movev (v := .int .i64 _) rfl) ?_
      refine ol_nil (thenN ?_)
      exact ⟨(k + 1, s + costP x), _, rfl, ⟨⟨rfl, rfl, rfl, rfl, trivial⟩, hS.sel [false], by dsimp only; omega, by dsimp only; omega, by dsimp only; omega, by dsimp only; omega⟩, by dsimp only; omega⟩
    ·
      intro hc10
      try simp only [Bool.and_eq_true, Bool.or_eq_true, Bool.not_eq_true', Bool.and_eq_false_imp, Bool.or_eq_false_iff, Bool.not_eq_false', decide_eq_true_eq, decide_eq_false_iff_not] at hc10
      have hk : k = p.ops.length := by omega
      subst hk
      rw [List.drop_length, sumP, Int.add_zero] at hgo
      refine wp_exit ?_
      refine thenE (thenE (blkE ?_))
      refine thenN ?_
      refine wp_seq ?_
      refine reg ?_
      refine qq hS (g_movev (v := .int .i64 _) rfl) ?_
      refine qq hS (g_assignv (v := .int .i64 _) rfl) ?_
      refine ol_nil (thenN ?_)
      refine wp_ret ?_
      refine ret1 Try.results29 (rv_tmp (v := .int .i64 _) rfl) ?_
      rw [← hgo]; exact ⟨rfl, hS.nil⟩

end Go.Proofs.Ythningkgpanaoaa

