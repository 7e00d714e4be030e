/- normal.Cheapest and normal.Form: what they compute. Conditions: numbers within bounds. -/
import Derived.Test.YtlhehhhpaebpoaaGreatCheck
import Derived.Test.YtlhehhhpaebpoaaGreatTable
namespace Go.Proofs.YtlhehhhpaebpoaaGreat
open Go Go.RowKit Go.Inl
set_option linter.unusedSimpArgs false
set_option linter.unusedVariables false
structure LS where
  i : Nat
  f : Nat
  done : List OpL
  css : List (List Value)
  a : Option Addr
  c : Nat

theorem strange_c (s : Sym) (size : Int) (b : Nat) (w0 : World) (I0 : Imm) (hI : Sat I0 w0) (hb : atI I0 ⟨b, 0, none⟩ [.int .i64 size]) :
    Ctr Tryz.prog 72 [symV s, .pointer (some ⟨b, 0, none⟩)] w0 (fun v w' => v = .bool (strange size s) ∧ Ext w0 I0 w' I0) := by
  refine fn (n := 27) Tryz.func72 rfl rfl rfl ?_
  have hS := St.start hI
  refine wpIn_seq ?_
  refine reg ?_
  refine qe (d_box (cs := [.bool _, .int .i64 _, .int .u8 _]) hS rfl) ?_
  clear hS
  rintro _ w_1 ⟨b_1, rfl, hS⟩
  refine qq hS (g_assignv (v := .bool _) rfl) ?_
  refine ol_nil (thenN ?_)
  refine wpIn_seq ?_
  refine reg ?_
  refine qq hS (g_fieldAddr (o' := 0) Tryz.underlying60 rfl Tryz.sizeOf4 rfl rfl rfl) ?_
  refine qq hS (g_ldO1 0 Tryz.isAgg4 rfl rfl rfl) ?_
  refine qq hS (g_movev (v := .bool _) rfl) ?_
  refine qu rfl rfl hS (fun hg => (g_fieldAddr (o' := 1) Tryz.underlying60 rfl Tryz.sizeOf3 rfl rfl rfl)) ?_
  intro u7 hu7 hn7
  refine qu rfl rfl hS (fun hg => (g_ldO1 0 Tryz.isAgg3 rfl (hu7 hg) rfl)) ?_
  intro u8 hu8 hn8
  refine qu rfl rfl hS (fun hg => (g_lss (hu8 hg) rfl)) ?_
  intro u9 hu9 hn9
  refine qu rfl rfl hS (fun hg => (g_movev (hu9 hg))) ?_
  intro u10 hu10 hn10
  refine qn rfl hu10 hn10 hS (fun hg => (g_fieldAddr (o' := 1) Tryz.underlying60 rfl Tryz.sizeOf3 rfl rfl rfl)) ?_
  intro u11 hu11 hn11
  refine qn rfl hu10 hn10 hS (fun hg => (g_ldO1 0 Tryz.isAgg3 rfl (hu11 hg) rfl)) ?_
  intro u12 hu12 hn12
  refine qn rfl hu10 hn10 hS (fun hg => (g_ldB1 (c := 0) Tryz.isAgg3 hb rfl rfl)) ?_
  intro u13 hu13 hn13
  refine qn rfl hu10 hn10 hS (fun hg => (g_geq (hu12 hg) (hu13 hg))) ?_
  intro u14 hu14 hn14
  refine qu rfl rfl hS (fun hg => (g_or (hu10 hg) rfl (fun hq => hu14 ⟨hg, hq⟩))) ?_
  intro u15 hu15 hn15
  refine qq hS (g_and rfl rfl (fun hq => hu15 hq)) ?_
  refine qq hS (g_movev (v := .bool _) rfl) ?_
  refine qu rfl rfl hS (fun hg => (g_fieldAddr (o' := 0) Tryz.underlying60 rfl Tryz.sizeOf4 rfl rfl rfl)) ?_
  intro u18 hu18 hn18
  refine qu rfl rfl hS (fun hg => (g_ldO1 0 Tryz.isAgg4 rfl (hu18 hg) rfl)) ?_
  intro u19 hu19 hn19
  refine qu rfl rfl hS (fun hg => (g_not (hu19 hg))) ?_
  intro u20 hu20 hn20
  refine qu rfl rfl hS (fun hg => (g_movev (hu20 hg))) ?_
  intro u21 hu21 hn21
  refine qn rfl hu21 hn21 hS (fun hg => (g_fieldAddr (o' := 1) Tryz.underlying60 rfl Tryz.sizeOf3 rfl rfl rfl)) ?_
  intro u22 hu22 hn22
  refine qn rfl hu21 hn21 hS (fun hg => (g_ldO1 0 Tryz.isAgg3 rfl (hu22 hg) rfl)) ?_
  intro u23 hu23 hn23
  refine qn rfl hu21 hn21 hS (fun hg => (g_neq (hu23 hg) rfl)) ?_
  intro u24 hu24 hn24
  refine qu rfl rfl hS (fun hg => (g_and (hu21 hg) rfl (fun hq => hu24 ⟨hg, hq⟩))) ?_
  intro u25 hu25 hn25
  refine qq hS (g_or rfl rfl (fun hq => hu25 hq)) ?_
  refine qq hS (g_assignv (v := .bool _) rfl) ?_
  refine ol_nil (thenN ?_)
  refine wpIn_ret ?_
  refine ret1 Tryz.results72 (rv_tmp (v := .bool _) rfl) ?_
  exact ⟨rfl, hS.nil⟩

set_option maxHeartbeats 1000000 in
theorem indexFunc_c (vl : Value) (l : List Sym) (g : FuncId) (caps : List Value) (q : Sym → Bool) (w0 : World) (I0 : Imm) (hI : Sat I0 w0) (hl : RSyms I0 vl l) (hcg : ∀ args w, (callFunc g args).run Tryz.prog w = .ok (.enter g args) w)
    (hq : ∀ s w, Sat I0 w → Ctr Tryz.prog g (symV s :: caps) w (fun v w' => v = .bool (q s) ∧ Ext w I0 w' I0)) :
    Ctr Tryz.prog 101 [vl, .func (.func g) #[] caps.toArray] w0 (fun v w' => ∃ r : Int, v = .int .i64 r ∧ (0 ≤ r ↔ l.any q = true) ∧ Ext w0 I0 w' I0) := by
  have hle := RSl.le hl
  simp only [maxLen] at hle
  refine fn (n := 19) Tryz.func101 rfl rfl rfl ?_
  have hS := St.start hI
  refine wpIn_seq ?_
  refine reg ?_
  refine qq hS (g_assignv (v := .int .i64 _) rfl) ?_
  refine ol_nil (thenN ?_)
  refine wpIn_seq ?_
  refine wpIn_seq ?_
  refine reg ?_
  refine qq hS (g_move _) ?_
  refine qq hS (g_lenI rfl Tryz.underlying54 hl rfl) ?_
  refine qq hS (g_movev (v := .int .i64 _) rfl) ?_
  refine ol_nil (thenN ?_)
  refine wpIn_block ?_
  refine loop (fun (k : Nat) σ w => okS σ [(0, vl), (1, .func (.func g) #[] caps.toArray), (7, .int .i64 l.length), (8, .int .i64 k)] ∧ St [] w0 I0 I0 w [] ∧ k ≤ l.length ∧ ∀ y ∈ l.take k, q y = false) (fun k => l.length - k) (0) ?_ ?_
  ·
    exact ⟨⟨rfl, rfl, rfl, rfl, trivial⟩, hS.sel [], by simp, by simp⟩
  ·
    rintro k σ w_l ⟨hs, hS, hk0, hall⟩
    rw [← upds_self hs]; clear hs
    refine wpIn_seq ?_
    refine reg ?_
    refine qq hS (g_lss rfl rfl) ?_
    refine ol_nil (thenN ?_)
    refine wpIn_seq ?_
    refine cond_s rfl ?_ ?_
    ·
      intro hc9
      try simp only [Bool.and_eq_true, Bool.or_eq_true, Bool.not_eq_true', Bool.and_eq_false_imp, Bool.or_eq_false_iff, Bool.not_eq_false', decide_eq_true_eq, decide_eq_false_iff_not] at hc9
      obtain ⟨s, hsi⟩ : ∃ s, l[k]? = some s := ⟨_, List.getElem?_eq_getElem (by omega)⟩
      have hsA := hl.at hsi
      refine wpIn_skip ?_
      refine thenN ?_
      refine wpIn_seq ?_
      refine wpIn_block ?_
      refine wpIn_seq ?_
      refine reg ?_
      refine qq hS (g_movev (v := .int .i64 _) rfl) ?_
      refine qq hS (g_assignv (v := .int .i64 _) rfl) ?_
      refine ol_nil (thenN ?_)
      refine wpIn_seq ?_
      refine reg ?_
      refine qq hS (g_move _) ?_
      refine qq hS (g_move _) ?_
      refine qq hS (g_movev (v := .int .i64 _) rfl) ?_
      refine qq hS (g_ixI Tryz.underlying54 Tryz.sizeOf60 hl rfl rfl (by omega) (by omega)) ?_
      refine qq hS (g_ldE (us := [.bool _, .int .i64 _, .int .u8 _]) Tryz.sizeOf60 Tryz.isAgg60 hsA rfl rfl rfl) ?_
      refine qe (d_callv hcg rfl rfl (hq s _ hS.imm)) ?_
      rintro _ w_1 ⟨rfl, hE⟩
      replace hS := hS.callE hE
      refine ol_nil (thenN ?_)
      refine cond_s rfl ?_ ?_
      ·
        intro hc16
        have hany : l.any q = true := List.any_eq_true.2 ⟨s, List.mem_of_getElem? hsi, hc16⟩
        refine wpIn_seq ?_
        refine reg ?_
        refine qq hS (g_movev (v := .int .i64 _) rfl) ?_
        refine qq hS (g_assignv (v := .int .i64 _) rfl) ?_
        refine ol_nil (thenN ?_)
        refine wpIn_ret ?_
        refine blkR (thenR (thenR (blkR (thenR ?_))))
        refine ret1 Tryz.results101 (rv_tmp (v := .int .i64 _) rfl) ?_
        first | exact ⟨_, rfl, by rw [hany]; simp, hS.nil⟩ | exact ⟨_, rfl, by rw [hany]; simp; omega, hS.nil⟩
      ·
        intro hc16
        refine wpIn_skip ?_
        refine blkN (thenN ?_)
        refine reg ?_
        refine qq hS (g_add rfl rfl (by omega) (by omega)) ?_
        refine qq hS (g_movev (v := .int .i64 _) rfl) ?_
        refine ol_nil (thenN ?_)
        exact ⟨k + 1, _, rfl, ⟨⟨rfl, rfl, rfl, rfl, trivial⟩, hS.sel [], by omega, any_take hsi hall hc16⟩, by omega⟩
    ·
      intro hc9
      try simp only [Bool.and_eq_true, Bool.or_eq_true, Bool.not_eq_true', Bool.and_eq_false_imp, Bool.or_eq_false_iff, Bool.not_eq_false', decide_eq_true_eq, decide_eq_false_iff_not] at hc9
      have hk : k = l.length := by omega
      subst hk
      rw [List.take_length] at hall
      have hany : l.any q = false := by simpa using hall
      refine wpIn_exit ?_
      refine thenE (thenE (blkE ?_))
      refine thenN ?_
      refine wpIn_seq ?_
      refine reg ?_
      refine qq hS (g_assignv (v := .int .i64 _) rfl) ?_
      refine ol_nil (thenN ?_)
      refine wpIn_ret ?_
      refine ret1 Tryz.results101 (rv_tmp (v := .int .i64 _) rfl) ?_
      first | exact ⟨_, rfl, by rw [hany]; simp, hS.nil⟩ | exact ⟨_, rfl, by rw [hany]; simp; omega, hS.nil⟩

theorem containsFunc_c (vl : Value) (l : List Sym) (g : FuncId) (caps : List Value) (q : Sym → Bool) (w0 : World) (I0 : Imm) (hI : Sat I0 w0) (hl : RSyms I0 vl l) (hcg : ∀ args w, (callFunc g args).run Tryz.prog w = .ok (.enter g args) w)
    (hq : ∀ s w, Sat I0 w → Ctr Tryz.prog g (symV s :: caps) w (fun v w' => v = .bool (q s) ∧ Ext w I0 w' I0)) :
    Ctr Tryz.prog 73 [vl, .func (.func g) #[] caps.toArray] w0 (fun v w' => v = .bool (l.any q) ∧ Ext w0 I0 w' I0) := by
  refine fn (n := 9) Tryz.func73 rfl rfl rfl ?_
  have hS := St.start hI
  refine wpIn_seq ?_
  refine reg ?_
  refine qq hS (g_assignv (v := .bool _) rfl) ?_
  refine ol_nil (thenN ?_)
  refine wpIn_seq ?_
  refine reg ?_
  refine qq hS (g_move _) ?_
  refine qq hS (g_move _) ?_
  refine qe (d_call Tryz.call101 rfl (indexFunc_c vl l g caps q _ I0 hS.imm hl hcg hq)) ?_
  rintro _ w_1 ⟨r, rfl, hr, hE⟩
  replace hS := hS.callE hE
  refine qq hS (g_geq rfl rfl) ?_
  refine qq hS (g_assignv (v := .bool _) rfl) ?_
  refine ol_nil (thenN ?_)
  refine wpIn_ret ?_
  refine ret1 Tryz.results73 (rv_tmp (v := .bool _) rfl) ?_
  refine ⟨?_, hS.nil⟩
  congr 1
  rw [Bool.eq_iff_iff, decide_eq_true_iff]; exact hr

set_option maxHeartbeats 1000000 in
theorem operation_c (kind : Int) (vl : Value) (l : List Sym) (w0 : World) (I0 : Imm) (hI : Sat I0 w0) (hl : RSyms I0 vl l) (hk : Mid kind) (hne : 0 < l.length) (hn : l.length ≤ 65536) :
    Ctr Tryz.prog 75 [.int .i64 kind, vl] w0 (fun v w' => ∃ I' ad m cap, v = opV (opS kind l) ad m cap ∧ Ext w0 I0 w' I' ∧ RBytes I' (.slice ad m cap) (opS kind l).data) := by
  obtain ⟨s0, hs0⟩ : ∃ s, l[0]? = some s := ⟨_, List.getElem?_eq_getElem hne⟩
  have hs0A := hl.at hs0
  have hhd : l.headD ⟨false, 0, 0⟩ = s0 := by rw [List.headD_eq_head?_getD, List.head?_eq_getElem?, hs0]; rfl
  refine fn (n := 49) Tryz.func75 rfl rfl rfl ?_
  have hS := St.start hI
  refine wpIn_seq ?_
  refine reg ?_
  refine qe (d_alloc (cs := [.int .i64 _, .int .i64 _, .int .i64 _, .int .u8 _, .slice _ _ _]) hS Tryz.zeroValue62 rfl) ?_
  clear hS
  rintro _ w_1 ⟨b4, rfl, hS⟩
  refine ol_nil (thenN ?_)
  refine wpIn_seq ?_
  refine reg ?_
  refine qq hS (g_movev (v := .int .i64 _) rfl) ?_
  refine qq hS (g_move _) ?_
  refine qq hS (g_lenI rfl Tryz.underlying54 hl rfl) ?_
  refine qq hS (g_buildv (pl := [(0, 1), (1, 1), (2, 1), (3, 1), (4, 1)]) (cs := [.int .i64 _, .int .i64 _, .int .i64 _, .int .u8 _, .slice _ _ _]) Tryz.zeroValue62 Tryz.underlying62 (fun w => by simp [Tryz.sizeOf25, Tryz.sizeOf3, Tryz.sizeOf5]) (mp (v := .int .i64 _) rfl (mp (v := .int .i64 _) rfl mp0)) rfl) ?_
  refine qe (d_alloc (cs := [.int .i64 _, .int .i64 _, .int .i64 _, .int .u8 _, .slice _ _ _]) hS Tryz.zeroValue62 rfl) ?_
  clear hS
  rintro _ w_2 ⟨b5, rfl, hS⟩
  refine qe (d_store 0 hS Tryz.sizeOf62 rfl rfl rfl (vs := [.int .i64 _, .int .i64 _, .int .i64 _, .int .u8 _, .slice _ _ _]) rfl rfl rfl (Nat.le_of_ble_eq_true rfl) (cs' := [_, _, _, _, _]) rfl) ?_
  clear hS
  rintro _ w_3 ⟨rfl, hS⟩
  refine ol_nil (thenN ?_)
  refine meet (fun σ w => okS σ [(0, .int .i64 kind), (1, vl), (4, .pointer (some ⟨b4, 0, none⟩)), (5, .pointer (some ⟨b5, 0, none⟩))] ∧ St [] w0 I0 I0 w [.cel b5 62 [.int .i64 kind, .int .i64 (if kind = 1 ∨ kind = 2 then (l.headD ⟨false, 0, 0⟩).at_ else 0), .int .i64 l.length, .int .u8 (if kind = 3 then (l.headD ⟨false, 0, 0⟩).b else 0), .slice none 0 0], .cel b4 62 [.int .i64 0, .int .i64 0, .int .i64 0, .int .u8 0, .slice none 0 0]]) ?_ ?_
  ·
    refine wpIn_seq ?_
    refine reg ?_
    refine qq hS (g_movev (v := .int .i64 _) rfl) ?_
    refine ol_nil (thenN ?_)
    refine wpIn_block ?_
    refine meet (fun σ w => okS σ [(0, .int .i64 kind), (1, vl), (4, .pointer (some ⟨b4, 0, none⟩)), (5, .pointer (some ⟨b5, 0, none⟩)), (12, .int .i64 kind), (13, .bool (decide (kind = 1 ∨ kind = 2)))] ∧ St [] w0 I0 I0 w [.cel b5 62 [.int .i64 kind, .int .i64 0, .int .i64 l.length, .int .u8 0, .slice none 0 0], .cel b4 62 [.int .i64 0, .int .i64 0, .int .i64 0, .int .u8 0, .slice none 0 0]]) ?_ ?_
    ·
      refine wpIn_seq ?_
      refine reg ?_
      refine qq hS (g_eql rfl rfl) ?_
      refine qq hS (g_assignv (v := .bool _) rfl) ?_
      refine ol_nil (thenN ?_)
      refine cond_s rfl ?_ ?_
      ·
        intro hc13
        simp only [decide_eq_true_eq, decide_eq_false_iff_not] at hc13
        refine wpIn_skip ?_
        refine thenN ?_
        exact ⟨_, rfl, ⟨rfl, rfl, rfl, rfl, rfl, by show Value.bool _ = Value.bool _; congr 1; simp [hc13], trivial⟩, hS.sel [true, true]⟩
      ·
        intro hc13
        simp only [decide_eq_true_eq, decide_eq_false_iff_not] at hc13
        refine reg ?_
        refine qq hS (g_eql rfl rfl) ?_
        refine qq hS (g_assignv (v := .bool _) rfl) ?_
        refine ol_nil (thenN ?_)
        exact ⟨_, rfl, ⟨rfl, rfl, rfl, rfl, rfl, by show Value.bool _ = Value.bool _; congr 1; simp [hc13], trivial⟩, hS.sel [true, true]⟩
    ·
      rintro σ w ⟨hs, hS⟩
      rw [← upds_self hs]
      refine cond_s rfl ?_ ?_
      ·
        intro hc13_2
        simp only [decide_eq_true_eq, decide_eq_false_iff_not] at hc13_2
        have hfr : (if kind = 1 ∨ kind = 2 then (l.headD ⟨false, 0, 0⟩).at_ else 0) = s0.at_ := by rw [if_pos hc13_2, hhd]
        have hbb : (if kind = 3 then (l.headD ⟨false, 0, 0⟩).b else 0) = 0 := if_neg (by omega)
        refine reg ?_
        refine qq hS (g_move _) ?_
        refine qq hS (g_ixI Tryz.underlying54 Tryz.sizeOf60 hl rfl rfl (by omega) (by omega)) ?_
        refine qq hS (g_fieldE (c' := 1) Tryz.underlying60 rfl Tryz.sizeOf3 rfl rfl rfl) ?_
        refine qq hS (g_ldE1 Tryz.isAgg3 hs0A rfl rfl) ?_
        refine qq hS (g_fieldAddr (o' := 1) Tryz.underlying62 rfl Tryz.sizeOf3 rfl rfl rfl) ?_
        refine qe (d_store 0 hS Tryz.sizeOf3 rfl rfl rfl (vs := [.int .i64 _]) rfl rfl rfl (Nat.le_of_ble_eq_true rfl) (cs' := [_, _, _, _, _]) rfl) ?_
        clear hS
        rintro _ w_4 ⟨rfl, hS⟩
        refine ol_nil (blkN (thenN ?_))
        refine ⟨_, rfl, ⟨rfl, rfl, rfl, rfl, trivial⟩, ?_⟩
        rw [hfr, hbb]
        exact hS.sel [true, true]
      ·
        intro hc13_2
        simp only [decide_eq_true_eq, decide_eq_false_iff_not] at hc13_2
        refine wpIn_seq ?_
        refine reg ?_
        refine qq hS (g_eql rfl rfl) ?_
        refine qq hS (g_assignv (v := .bool _) rfl) ?_
        refine ol_nil (thenN ?_)
        refine cond_s rfl ?_ ?_
        ·
          intro hc21
          simp only [decide_eq_true_eq, decide_eq_false_iff_not] at hc21
          have hfr : (if kind = 1 ∨ kind = 2 then (l.headD ⟨false, 0, 0⟩).at_ else 0) = 0 := if_neg (by omega)
          have hbb : (if kind = 3 then (l.headD ⟨false, 0, 0⟩).b else 0) = s0.b := by rw [if_pos hc21, hhd]
          refine reg ?_
          refine qq hS (g_move _) ?_
          refine qq hS (g_ixI Tryz.underlying54 Tryz.sizeOf60 hl rfl rfl (by omega) (by omega)) ?_
          refine qq hS (g_fieldE (c' := 2) Tryz.underlying60 rfl Tryz.sizeOf5 rfl rfl rfl) ?_
          refine qq hS (g_ldE1 Tryz.isAgg5 hs0A rfl rfl) ?_
          refine qq hS (g_fieldAddr (o' := 3) Tryz.underlying62 rfl Tryz.sizeOf5 rfl rfl rfl) ?_
          refine qe (d_store 0 hS Tryz.sizeOf5 rfl rfl rfl (vs := [.int .u8 _]) rfl rfl rfl (Nat.le_of_ble_eq_true rfl) (cs' := [_, _, _, _, _]) rfl) ?_
          clear hS
          rintro _ w_5 ⟨rfl, hS⟩
          refine ol_nil (blkN (thenN ?_))
          refine ⟨_, rfl, ⟨rfl, rfl, rfl, rfl, trivial⟩, ?_⟩
          rw [hfr, hbb]
          exact hS.sel [true, true]
        ·
          intro hc21
          simp only [decide_eq_true_eq, decide_eq_false_iff_not] at hc21
          have hfr : (if kind = 1 ∨ kind = 2 then (l.headD ⟨false, 0, 0⟩).at_ else 0) = 0 := if_neg (by omega)
          have hbb : (if kind = 3 then (l.headD ⟨false, 0, 0⟩).b else 0) = 0 := if_neg hc21
          refine wpIn_skip ?_
          refine blkN (thenN ?_)
          refine ⟨_, rfl, ⟨rfl, rfl, rfl, rfl, trivial⟩, ?_⟩
          rw [hfr, hbb]
          exact hS.sel [true, true]
  ·
    rintro σ w ⟨hs, hS⟩
    rw [← upds_self hs]
    refine wpIn_seq ?_
    refine wpIn_seq ?_
    refine reg ?_
    refine qq hS (g_movev (v := .int .i64 _) rfl) ?_
    refine qq hS (g_eql rfl rfl) ?_
    refine qq hS (g_movev (v := .bool _) rfl) ?_
    refine qu rfl rfl hS (fun hg => (g_movev (v := .int .i64 _) rfl)) ?_
    intro u31 hu31 hn31
    refine qu rfl rfl hS (fun hg => (g_eql (hu31 hg) rfl)) ?_
    intro u32 hu32 hn32
    refine qq hS (g_or rfl rfl (fun hq => hu32 hq)) ?_
    refine ol_nil (thenN ?_)
    refine cond_s rfl ?_ ?_
    ·
      intro hc33
      clear hu31 hn31 hu32 hn32
      try simp only [Bool.and_eq_true, Bool.or_eq_true, Bool.not_eq_true', Bool.and_eq_false_imp, Bool.or_eq_false_iff, Bool.not_eq_false', decide_eq_true_eq, decide_eq_false_iff_not] at hc33
      have hdat : (opS kind l).data = l.map (·.b) := by unfold opS; rw [if_pos hc33]
      refine wpIn_seq ?_
      refine reg ?_
      refine qq hS (g_move _) ?_
      refine qq hS (g_lenI rfl Tryz.underlying54 hl rfl) ?_
      refine qq hS (g_movev (v := .int .i64 _) rfl) ?_
      refine ol_nil (thenN ?_)
      refine wpIn_block ?_
      refine loop (fun (x : Nat × Option Addr × Nat) σ w => okS σ [(34, vl), (35, .int .i64 l.length), (36, .int .i64 x.1), (4, .pointer (some ⟨b4, 0, none⟩)), (5, .pointer (some ⟨b5, 0, none⟩))] ∧ St [] w0 I0 I0 w [.row (.slice x.2.1 x.1 x.2.2) 5 1 x.1 (flat byteC ((l.take x.1).map (·.b))), .cel b5 62 [.int .i64 kind, .int .i64 (if kind = 1 ∨ kind = 2 then (l.headD ⟨false, 0, 0⟩).at_ else 0), .int .i64 l.length, .int .u8 (if kind = 3 then (l.headD ⟨false, 0, 0⟩).b else 0), .slice x.2.1 x.1 x.2.2], .cel b4 62 [.int .i64 0, .int .i64 0, .int .i64 0, .int .u8 0, .slice none 0 0]] ∧ x.1 ≤ l.length) (fun x => l.length - x.1) ((0, none, 0)) ?_ ?_
      ·
        exact ⟨⟨rfl, rfl, rfl, rfl, rfl, trivial⟩, (hS.sel [true, true]).nilRow _ _, by simp⟩
      ·
        rintro ⟨k, a, c⟩ σ w_l ⟨hs, hS, hk0⟩
        dsimp only at hs hS hk0 ⊢
        rw [← upds_self hs]; clear hs
        refine wpIn_seq ?_
        refine reg ?_
        refine qq hS (g_lss rfl rfl) ?_
        refine ol_nil (thenN ?_)
        refine wpIn_seq ?_
        refine cond_s rfl ?_ ?_
        ·
          intro hc37
          try simp only [Bool.and_eq_true, Bool.or_eq_true, Bool.not_eq_true', Bool.and_eq_false_imp, Bool.or_eq_false_iff, Bool.not_eq_false', decide_eq_true_eq, decide_eq_false_iff_not] at hc37
          obtain ⟨s, hsi⟩ : ∃ s, l[k]? = some s := ⟨_, List.getElem?_eq_getElem (by omega)⟩
          have hsA := hl.at hsi
          refine wpIn_skip ?_
          refine thenN ?_
          refine wpIn_seq ?_
          refine wpIn_block ?_
          refine wpIn_seq ?_
          refine reg ?_
          refine qq hS (g_ixI Tryz.underlying54 Tryz.sizeOf60 hl rfl rfl (by omega) (by omega)) ?_
          refine qq hS (g_ldE (us := [.bool _, .int .i64 _, .int .u8 _]) Tryz.sizeOf60 Tryz.isAgg60 hsA rfl rfl rfl) ?_
          refine qe (d_alloc (cs := [.bool _, .int .i64 _, .int .u8 _]) hS Tryz.zeroValue60 rfl) ?_
          clear hS
          rintro _ w_6 ⟨b7, rfl, hS⟩
          refine qe (d_store 0 hS Tryz.sizeOf60 rfl rfl rfl (vs := [.bool _, .int .i64 _, .int .u8 _]) rfl rfl rfl (Nat.le_of_ble_eq_true rfl) (cs' := [_, _, _]) rfl) ?_
          clear hS
          rintro _ w_7 ⟨rfl, hS⟩
          refine ol_nil (thenN ?_)
          refine reg ?_
          refine qq hS (g_fieldAddr (o' := 4) Tryz.underlying62 rfl Tryz.sizeOf25 rfl rfl rfl) ?_
          refine qq hS (g_ldO1 2 Tryz.isAgg25 rfl rfl rfl) ?_
          refine qq hS (g_fieldAddr (o' := 2) Tryz.underlying60 rfl Tryz.sizeOf5 rfl rfl rfl) ?_
          refine qq hS (g_ldO1 0 Tryz.isAgg5 rfl rfl rfl) ?_
          refine qe (d_lit (vs := [.int .u8 _]) (cs := [.int .u8 _]) hS Tryz.underlying25 Tryz.sizeOf5 Tryz.zeroValue5 rfl rfl rfl rfl (fun v hv => by simp only [List.mem_cons, List.not_mem_nil, or_false] at hv; subst hv; rfl) rfl) ?_
          clear hS
          rintro _ w_8 ⟨b_8, rfl, hS⟩
          refine qe (i_appendO 2 0 hS rfl Tryz.underlying25 info5 rfl rfl rfl rfl rfl rfl rfl rfl (by omega) (by omega)) ?_
          clear hS
          rintro _ w_9 ⟨a45, p45, rfl, hS⟩
          refine qq hS (g_fieldAddr (o' := 4) Tryz.underlying62 rfl Tryz.sizeOf25 rfl rfl rfl) ?_
          refine qe (d_store 3 hS Tryz.sizeOf25 rfl rfl rfl (vs := [.slice _ _ _]) rfl rfl rfl (Nat.le_of_ble_eq_true rfl) (cs' := [_, _, _, _, _]) rfl) ?_
          clear hS
          rintro _ w_10 ⟨rfl, hS⟩
          refine ol_nil (blkN (thenN ?_))
          refine reg ?_
          refine qq hS (g_add rfl rfl (by omega) (by omega)) ?_
          refine qq hS (g_movev (v := .int .i64 _) rfl) ?_
          refine ol_nil (thenN ?_)
          refine ⟨(k + 1, a45, p45), _, rfl, ⟨⟨rfl, rfl, rfl, rfl, rfl, trivial⟩, ?_, by dsimp only; omega⟩, by dsimp only; omega⟩
          dsimp only
          rw [take_snoc hsi, List.map_append, flat_append, List.map_cons, List.map_nil, flat_one]
          exact hS.sel [false, false, true, true, true]
        ·
          intro hc37
          try simp only [Bool.and_eq_true, Bool.or_eq_true, Bool.not_eq_true', Bool.and_eq_false_imp, Bool.or_eq_false_iff, Bool.not_eq_false', decide_eq_true_eq, decide_eq_false_iff_not] at hc37
          have hk' : k = l.length := by omega
          subst hk'
          rw [List.take_length] at hS
          refine wpIn_exit ?_
          refine thenE (thenE (blkE ?_))
          refine thenN ?_
          refine wpIn_seq ?_
          refine reg ?_
          refine qq hS (g_ldO 1 (vs := [.int .i64 _, .int .i64 _, .int .i64 _, .int .u8 _, .slice _ _ _]) Tryz.sizeOf62 Tryz.isAgg62 rfl rfl rfl rfl) ?_
          refine qe (d_store 2 hS Tryz.sizeOf62 rfl rfl rfl (vs := [.int .i64 _, .int .i64 _, .int .i64 _, .int .u8 _, .slice _ _ _]) rfl rfl rfl (Nat.le_of_ble_eq_true rfl) (cs' := [_, _, _, _, _]) rfl) ?_
          clear hS
          rintro _ w_11 ⟨rfl, hS⟩
          refine ol_nil (thenN ?_)
          refine wpIn_ret ?_
          refine ret1 Tryz.results75 (rv_cel 2 hS Tryz.sizeOf62 Tryz.isAgg62 rfl rfl rfl) ?_
          have hS1 := hS.sel [true, false, false]
          obtain ⟨I1, hE1, hI1, hd1⟩ := row_freeze1 byteC_len (xs := l.map (·.b)) hS1 (by simp)
          exact ⟨I1, a, l.length, c, rfl, hE1, by rw [hdat]; exact hd1⟩
    ·
      intro hc33
      clear hu31 hn31 hu32 hn32
      try simp only [Bool.and_eq_true, Bool.or_eq_true, Bool.not_eq_true', Bool.and_eq_false_imp, Bool.or_eq_false_iff, Bool.not_eq_false', decide_eq_true_eq, decide_eq_false_iff_not] at hc33
      have hdat : (opS kind l).data = [] := by show (if kind = 2 ∨ kind = 4 then _ else _) = _; rw [if_neg (by omega)]
      refine wpIn_skip ?_
      refine thenN ?_
      refine wpIn_seq ?_
      refine reg ?_
      refine qq hS (g_ldO 0 (vs := [.int .i64 _, .int .i64 _, .int .i64 _, .int .u8 _, .slice _ _ _]) Tryz.sizeOf62 Tryz.isAgg62 rfl rfl rfl rfl) ?_
      refine qe (d_store 1 hS Tryz.sizeOf62 rfl rfl rfl (vs := [.int .i64 _, .int .i64 _, .int .i64 _, .int .u8 _, .slice _ _ _]) rfl rfl rfl (Nat.le_of_ble_eq_true rfl) (cs' := [_, _, _, _, _]) rfl) ?_
      clear hS
      rintro _ w_12 ⟨rfl, hS⟩
      refine ol_nil (thenN ?_)
      refine wpIn_ret ?_
      refine ret1 Tryz.results75 (rv_cel 1 hS Tryz.sizeOf62 Tryz.isAgg62 rfl rfl rfl) ?_
      exact ⟨I0, none, 0, 0, rfl, hS.nil, by rw [hdat]; exact RFl.nil⟩

set_option maxHeartbeats 2000000 in
theorem cheapest_c (ad : Option Addr) (cap : Nat) (l : List Sym) (size : Int) (w0 : World) (I0 : Imm) (hI : Sat I0 w0) (hl : RSyms I0 (.slice ad l.length cap) l) (hw : ∀ s ∈ l, s.wf) :
    Ctr Tryz.prog 35 [.slice ad l.length cap, .int .i64 size] w0 (fun v w' => ∃ I' a m c, v = .tuple #[.agg #[.bool (cheapP l size).1.lifted, .int .i64 (cheapP l size).1.in_, .int .i64 (cheapP l size).1.out, .slice a m c], .int .i64 (cheapP l size).2] ∧ Ext w0 I0 w' I' ∧ ROps I' (.slice a m c) (cheapP l size).1.ops) := by
  have hll := RSl.le hl
  simp only [maxLen] at hll
  have hlc : l.length ≤ cap := by
    rcases hl with ⟨h1, h2⟩ | ⟨_, _, _, h1, h2, _⟩
    · rw [h2]; simp
    · cases h1; exact h2
  refine fn (n := 77) Tryz.func35 rfl rfl rfl ?_
  have hS := St.start hI
  refine wpIn_seq ?_
  refine reg ?_
  refine qe (d_box (cs := [.int .i64 _]) hS rfl) ?_
  clear hS
  rintro _ w_1 ⟨b3, rfl, hS⟩
  refine qe (d_alloc (cs := [.bool _, .int .i64 _, .int .i64 _, .slice _ _ _]) hS Tryz.zeroValue31 rfl) ?_
  clear hS
  rintro _ w_2 ⟨b4, rfl, hS⟩
  refine qq hS (g_assignv (v := .int .i64 _) rfl) ?_
  refine ol_nil (thenN ?_)
  refine wpIn_seq ?_
  obtain ⟨I1, hS, hI1, hb3⟩ := hS.freezeAt 1 rfl
  replace hS : St [] w0 I0 I1 _ [.cel b4 31 [.bool false, .int .i64 0, .int .i64 0, .slice none 0 0]] := hS
  refine reg ?_
  refine qq hS (g_makeFuncL ml0 (ml rfl ml0)) ?_
  refine qq hS (g_assign _) ?_
  refine ol_nil (thenN ?_)
  refine wpIn_seq ?_
  refine wpIn_seq ?_
  refine reg ?_
  refine qq hS (g_ldB1 (c := 0) Tryz.isAgg3 hb3 rfl rfl) ?_
  refine qq hS (g_lss rfl rfl) ?_
  refine qq hS (g_movev (v := .bool _) rfl) ?_
  refine qu rfl rfl hS (fun hg => (g_ldB1 (c := 0) Tryz.isAgg3 hb3 rfl rfl)) ?_
  intro u15 hu15 hn15
  refine qu rfl rfl hS (fun hg => (g_gtr (hu15 hg) rfl)) ?_
  intro u16 hu16 hn16
  refine qq hS (g_or rfl rfl (fun hq => hu16 hq)) ?_
  refine qq hS (g_movev (v := .bool _) rfl) ?_
  refine qu rfl rfl hS (fun hg => (g_move _)) ?_
  intro u19 hu19 hn19
  refine qu rfl rfl hS (fun hg => (g_lenI rfl Tryz.underlying54 hl (hu19 hg))) ?_
  intro u20 hu20 hn20
  refine qu rfl rfl hS (fun hg => (g_gtr (hu20 hg) rfl)) ?_
  intro u21 hu21 hn21
  refine qq hS (g_or rfl rfl (fun hq => hu21 hq)) ?_
  refine qq hS (g_movev (v := .bool _) rfl) ?_
  refine qu rfl rfl hS (fun hg => (g_move _)) ?_
  intro u24 hu24 hn24
  refine qu rfl rfl hS (fun hg => (g_move _)) ?_
  intro u25 hu25 hn25
  refine cvu rfl rfl hS (fun hg => (d_call Tryz.call73 (ml (hu24 hg) (ml (hu25 hg) ml0)) (containsFunc_c _ l 72 [.pointer (some ⟨b3, 0, none⟩)] (strange size) _ I1 hS.imm (hl.mono hI1) Tryz.call72 (fun s w hIw => strange_c s size b3 w I1 hIw hb3)))) ?_
  intro w_4 u26 hS hu26 hn26
  refine qq hS (g_or rfl rfl (fun hq => hu26 hq)) ?_
  refine ol_nil (thenN ?_)
  refine cond_s rfl ?_ ?_
  ·
    intro hc27
    clear hu15 hn15 hu16 hn16 hu19 hn19 hu20 hn20 hu21 hn21 hu24 hn24 hu25 hn25 hu26 hn26
    have e : cheapP l size = (PatL.zero, 60) := by unfold cheapP; rw [if_pos hc27]
    refine wpIn_seq ?_
    refine reg ?_
    refine qq hS (g_buildv (pl := [(0, 1), (1, 1), (2, 1), (3, 1)]) (cs := [.bool _, .int .i64 _, .int .i64 _, .slice _ _ _]) Tryz.zeroValue31 Tryz.underlying31 (fun w => by simp [Tryz.sizeOf29, Tryz.sizeOf3, Tryz.sizeOf4]) mp0 rfl) ?_
    refine qe (d_store 0 hS Tryz.sizeOf31 rfl rfl rfl (vs := [.bool _, .int .i64 _, .int .i64 _, .slice _ _ _]) rfl rfl rfl (Nat.le_of_ble_eq_true rfl) (cs' := [_, _, _, _]) rfl) ?_
    clear hS
    rintro _ w_5 ⟨rfl, hS⟩
    refine qq hS (g_assignv (v := .int .i64 _) rfl) ?_
    refine ol_nil (thenN ?_)
    refine wpIn_ret ?_
    refine thenR ?_
    refine ret2 Tryz.results35 (rv_cel 0 hS Tryz.sizeOf31 Tryz.isAgg31 rfl rfl rfl) (rv_tmp (v := .int .i64 _) rfl) ?_
    rw [e]; exact ⟨I0, none, 0, 0, rfl, hS.nil.back, RSl.nilR⟩
  ·
    intro hc27
    clear hu15 hn15 hu16 hn16 hu19 hn19 hu20 hn20 hu21 hn21 hu24 hn24 hu25 hn25 hu26 hn26
    have hbad := hc27
    simp only [Bool.or_eq_false_iff, decide_eq_false_iff_not] at hc27
    obtain ⟨⟨⟨hn0, hn1⟩, hn2⟩, hany⟩ := hc27
    have hok : ∀ s ∈ l, s.ok := by
      intro s hs
      have h1 := hw s hs
      have h2 : strange size s = false := by
        cases h : strange size s with
        | false => rfl
        | true => have := List.any_eq_true.2 ⟨s, hs, h⟩; rw [hany] at this; cases this
      unfold strange at h2
      obtain ⟨k1, k2, k3, k4⟩ := h1
      refine ⟨?_, ?_, k3, k4⟩ <;> cases ho : s.old <;> simp [ho] at h2 <;> omega
    have htl := tab_length l
    obtain ⟨p0, hp0⟩ : ∃ p, (tab l)[0]? = some p := ⟨_, List.getElem?_eq_getElem (by omega)⟩
    have hph : (tab l).headD Pl.zero = p0 := by rw [List.headD_eq_head?_getD, List.head?_eq_getElem?, hp0]; rfl
    have hb0 := flat_get plC_len (tab l) 0 p0 hp0 1 _ rfl
    refine wpIn_skip ?_
    refine thenN ?_
    refine wpIn_seq ?_
    refine reg ?_
    refine qq hS (g_ldB1 (c := 0) Tryz.isAgg3 hb3 rfl rfl) ?_
    refine qq hS (g_move _) ?_
    refine qq hS (g_lenI rfl Tryz.underlying54 hl rfl) ?_
    refine qq hS (g_buildv (pl := [(0, 1), (1, 1), (2, 1), (3, 1)]) (cs := [.bool _, .int .i64 _, .int .i64 _, .slice _ _ _]) Tryz.zeroValue31 Tryz.underlying31 (fun w => by simp [Tryz.sizeOf29, Tryz.sizeOf3, Tryz.sizeOf4]) (mp (v := .int .i64 _) rfl (mp (v := .int .i64 _) rfl mp0)) rfl) ?_
    refine qe (d_alloc (cs := [.bool _, .int .i64 _, .int .i64 _, .slice _ _ _]) hS Tryz.zeroValue31 rfl) ?_
    clear hS
    rintro _ w_6 ⟨b7, rfl, hS⟩
    refine qe (d_store 0 hS Tryz.sizeOf31 rfl rfl rfl (vs := [.bool _, .int .i64 _, .int .i64 _, .slice _ _ _]) rfl rfl rfl (Nat.le_of_ble_eq_true rfl) (cs' := [_, _, _, _]) rfl) ?_
    clear hS
    rintro _ w_7 ⟨rfl, hS⟩
    refine ol_nil (thenN ?_)
    refine wpIn_seq ?_
    refine reg ?_
    refine qq hS (g_move _) ?_
    refine qe (d_call Tryz.call74 rfl (table_c _ l _ I1 hS.imm (hl.mono hI1) hok (by omega))) ?_
    rintro _ w_8 ⟨bt, rfl, hE⟩
    replace hS := hS.call hE
    refine qq hS (g_assign _) ?_
    refine ol_nil (thenN ?_)
    refine wpIn_seq ?_
    refine wpIn_seq ?_
    refine reg ?_
    refine qq hS (g_move _) ?_
    refine qq hS (g_indexAddr Tryz.underlying123 Tryz.sizeOf128 rfl rfl (by omega) (by omega)) ?_
    refine qq hS (g_fieldAddr (o' := 0) Tryz.underlying128 rfl Tryz.sizeOf126 rfl rfl rfl) ?_
    refine qq hS (g_fieldAddr (o' := 1) Tryz.underlying126 rfl Tryz.sizeOf3 rfl rfl rfl) ?_
    refine qq hS (g_ldO1 0 Tryz.isAgg3 rfl rfl hb0) ?_
    refine qq hS (g_gtr rfl rfl) ?_
    refine ol_nil (thenN ?_)
    refine cond_s rfl ?_ ?_
    ·
      intro hc40
      try simp only [Bool.and_eq_true, Bool.or_eq_true, Bool.not_eq_true', Bool.and_eq_false_imp, Bool.or_eq_false_iff, Bool.not_eq_false', decide_eq_true_eq, decide_eq_false_iff_not] at hc40
      have e : cheapP l size = (PatL.zero, 2) := by unfold cheapP; rw [if_neg (by rw [hbad]; decide), hph, if_pos hc40]
      refine wpIn_seq ?_
      refine reg ?_
      refine qq hS (g_buildv (pl := [(0, 1), (1, 1), (2, 1), (3, 1)]) (cs := [.bool _, .int .i64 _, .int .i64 _, .slice _ _ _]) Tryz.zeroValue31 Tryz.underlying31 (fun w => by simp [Tryz.sizeOf29, Tryz.sizeOf3, Tryz.sizeOf4]) mp0 rfl) ?_
      refine qe (d_store 2 hS Tryz.sizeOf31 rfl rfl rfl (vs := [.bool _, .int .i64 _, .int .i64 _, .slice _ _ _]) rfl rfl rfl (Nat.le_of_ble_eq_true rfl) (cs' := [_, _, _, _]) rfl) ?_
      clear hS
      rintro _ w_9 ⟨rfl, hS⟩
      refine qq hS (g_assignv (v := .int .i64 _) rfl) ?_
      refine ol_nil (thenN ?_)
      refine wpIn_ret ?_
      refine thenR ?_
      refine ret2 Tryz.results35 (rv_cel 2 hS Tryz.sizeOf31 Tryz.isAgg31 rfl rfl rfl) (rv_tmp (v := .int .i64 _) rfl) ?_
      rw [e]; exact ⟨I0, none, 0, 0, rfl, hS.nil.back, RSl.nilR⟩
    ·
      intro hc40
      try simp only [Bool.and_eq_true, Bool.or_eq_true, Bool.not_eq_true', Bool.and_eq_false_imp, Bool.or_eq_false_iff, Bool.not_eq_false', decide_eq_true_eq, decide_eq_false_iff_not] at hc40
      have e : cheapP l size = (⟨false, size, l.length, opsT (tab l) l (l.length + 1) 0⟩, 0) := by unfold cheapP; rw [if_neg (by rw [hbad]; decide), hph, if_neg hc40]
      refine wpIn_skip ?_
      refine thenN ?_
      refine wpIn_seq ?_
      refine wpIn_seq ?_
      refine reg ?_
      refine qq hS (g_assignv (v := .int .i64 _) rfl) ?_
      refine ol_nil (thenN ?_)
      refine wpIn_block ?_
      refine loop (fun (x : LS) σ w => okS σ [(0, .slice ad l.length cap), (4, .pointer (some ⟨b4, 0, none⟩)), (7, .pointer (some ⟨b7, 0, none⟩)), (8, .slice (some ⟨bt, 0, none⟩) (l.length + 1) (l.length + 1)), (9, .int .i64 x.i)] ∧ ∃ I, St [] w0 I0 I w [.row (.slice x.a x.done.length x.c) 62 5 x.done.length x.css.flatten, .cel b7 31 [.bool false, .int .i64 size, .int .i64 l.length, .slice x.a x.done.length x.c], .cel bt 128 (flat plC (tab l)), .cel b4 31 [.bool false, .int .i64 0, .int .i64 0, .slice none 0 0]] ∧ x.i ≤ l.length ∧ x.done ++ opsT (tab l) l x.f x.i = opsT (tab l) l (l.length + 1) 0 ∧ l.length - x.i < x.f ∧ All2 (ROp I) x.css x.done ∧ (∀ cs ∈ x.css, cs.length = 5) ∧ x.done.length ≤ x.i) (fun x => l.length - x.i) (⟨0, l.length + 1, [], [], none, 0⟩) ?_ ?_
      ·
        exact ⟨⟨rfl, rfl, rfl, rfl, rfl, trivial⟩, _, (hS.perm (List.Perm.swap _ _ _) |>.sel [true, true, true]).nilRow _ _, by simp, by simp, by simp, All2.nil _, by simp, by simp⟩
      ·
        rintro ⟨i, f, done, css, a, c⟩ σ w_l ⟨hs, I, hS, hi0, hdone, hf0, hall, hcl, hdl⟩
        dsimp only at hs hS hi0 hdone hf0 hall hcl hdl ⊢
        rw [← upds_self hs]; clear hs
        refine wpIn_seq ?_
        refine wpIn_seq ?_
        refine reg ?_
        refine qq hS (g_movev (v := .int .i64 _) rfl) ?_
        refine qq hS (g_move _) ?_
        refine qq hS (g_lenI rfl Tryz.underlying54 hl rfl) ?_
        refine qq hS (g_lss rfl rfl) ?_
        refine ol_nil (thenN ?_)
        refine cond_s rfl ?_ ?_
        ·
          intro hc45
          try simp only [Bool.and_eq_true, Bool.or_eq_true, Bool.not_eq_true', Bool.and_eq_false_imp, Bool.or_eq_false_iff, Bool.not_eq_false', decide_eq_true_eq, decide_eq_false_iff_not] at hc45
          obtain ⟨pi, hpi⟩ : ∃ p, (tab l)[i]? = some p := ⟨_, List.getElem?_eq_getElem (by omega)⟩
          have hpg := tab_good l i pi hpi
          have hpp := tab_pos l i pi hpi (by omega)
          have hpl1 := hpg.n1
          have hkm : Mid pi.kind := tab_kind l i pi hpi
          obtain ⟨f', hf'⟩ : ∃ f', f = f' + 1 := ⟨f - 1, by omega⟩
          subst hf'
          rw [opsT_step (by omega) hpi] at hdone
          refine wpIn_skip ?_
          refine thenN ?_
          refine wpIn_seq ?_
          refine wpIn_block ?_
          refine wpIn_seq ?_
          refine reg ?_
          refine qq hS (g_movev (v := .int .i64 _) rfl) ?_
          refine qq hS (g_move _) ?_
          refine qq hS (g_movev (v := .int .i64 _) rfl) ?_
          refine qq hS (g_indexAddrV (o := i * 12) Tryz.underlying123 Tryz.sizeOf128 rfl rfl (by omega) (by omega) rfl) ?_
          refine qq hS (g_fieldAddr (o' := i * 12 + 3) Tryz.underlying128 rfl Tryz.sizeOf3 rfl rfl rfl) ?_
          refine qq hS (g_ldO1 2 Tryz.isAgg3 rfl rfl (flat_get plC_len _ i pi hpi 3 _ rfl)) ?_
          refine qq hS (g_add rfl rfl (by omega) (by omega)) ?_
          refine qq hS (g_assignv (v := .int .i64 _) rfl) ?_
          refine ol_nil (thenN ?_)
          refine draw (.cons 0 .pure (.cons 1 .held (.cons 2 .pure (.cons 3 .pure (.cons 4 .pure (.cons 5 .pure (.cons 6 .held (.cons 7 .pure (.cons 8 .pure (.cons 9 .pure (.cons 10 .pure (.cons 11 .pure (.cons 12 .eff (.cons 13 .eff (.cons 14 .bar (.cons 15 .pure (.cons 16 .bar .nil))))))))))))))))) mixed (by kernel_rfl) hS ?_
          intro w_10 hS
          refine sp rfl (g_fieldAddr (o' := 3) Tryz.underlying31 rfl Tryz.sizeOf29 rfl rfl rfl) ?_
          refine sh rfl (g_ldO1 1 Tryz.isAgg29 rfl rfl rfl) ?_
          refine sp rfl (g_move _) ?_
          refine sp rfl (g_movev (v := .int .i64 _) rfl) ?_
          refine sp rfl (g_indexAddrV (o := i * 12) Tryz.underlying123 Tryz.sizeOf128 rfl rfl (by omega) (by omega) rfl) ?_
          refine sp rfl (g_fieldAddr (o' := i * 12 + 2) Tryz.underlying128 rfl Tryz.sizeOf3 rfl rfl rfl) ?_
          refine sh rfl (g_ldO1 2 Tryz.isAgg3 rfl rfl (flat_get plC_len _ i pi hpi 2 _ rfl)) ?_
          refine sp rfl (g_move _) ?_
          refine sp rfl (g_movev (v := .int .i64 _) rfl) ?_
          refine sp rfl (g_movev (v := .int .i64 _) rfl) ?_
          refine sp rfl (g_movev (v := .int .i64 _) rfl) ?_
          refine sp rfl (g_slice3N (l0 := i) (h0 := i + pi.length.toNat) (m0 := i + pi.length.toNat) Tryz.underlying54 Tryz.sizeOf60 rfl rfl rfl rfl (by omega) (by omega) (by omega) (by omega) (by omega) (by omega) (by omega)) ?_
          have hS0 := hS
          refine se rfl (d_call Tryz.call75 rfl (operation_c pi.kind _ _ _ I hS.imm ((hl.mono hS.ext).resl i (i + pi.length.toNat) (by omega) (by omega)) hkm (by rw [List.length_drop, List.length_take]; omega) (by rw [List.length_drop, List.length_take]; omega))) ?_
          rintro _ w_11 ⟨I2, a2, m2, c2, rfl, hE, hd2⟩
          replace hS := hS.call hE
          refine ⟨_, _, hS0.le hE.ext (List.Sublist.refl _), hS, ?_⟩
          have hS0 := hS
          refine se rfl (d_lit (vs := [.agg #[.int .i64 _, .int .i64 _, .int .i64 _, .int .u8 _, .slice _ _ _]]) (cs := [.int .i64 _, .int .i64 _, .int .i64 _, .int .u8 _, .slice _ _ _]) hS Tryz.underlying29 Tryz.sizeOf62 Tryz.zeroValue62 rfl rfl rfl rfl (fun v hv => by simp only [List.mem_cons, List.not_mem_nil, or_false] at hv; subst hv; rfl) rfl) ?_
          rintro _ w_12 ⟨b_12, rfl, hS⟩
          refine ⟨_, _, hS0.le (Sub.refl _) (List.sublist_cons_self _ _), hS, ?_⟩
          refine sb rfl (i_appendO 1 0 hS rfl Tryz.underlying29 info62 rfl rfl rfl rfl rfl rfl rfl rfl (by omega) (by omega)) ?_
          rintro _ w_13 ⟨a74, p74, rfl, hS⟩
          refine ⟨_, _, hS, ?_⟩
          refine sp rfl (g_fieldAddr (o' := 3) Tryz.underlying31 rfl Tryz.sizeOf29 rfl rfl rfl) ?_
          refine sb rfl (d_store 2 hS Tryz.sizeOf29 rfl rfl rfl (vs := [.slice _ _ _]) rfl rfl rfl (Nat.le_of_ble_eq_true rfl) (cs' := [_, _, _, _]) rfl) ?_
          rintro _ w_14 ⟨rfl, hS⟩
          refine ⟨_, _, hS, ?_⟩
          refine sn (blkN (thenN ?_))
          refine reg ?_
          refine qq hS (g_movev (v := .int .i64 _) rfl) ?_
          refine qq hS (g_move _) ?_
          refine qq hS (g_movev (v := .int .i64 _) rfl) ?_
          refine qq hS (g_indexAddrV (o := i * 12) Tryz.underlying123 Tryz.sizeOf128 rfl rfl (by omega) (by omega) rfl) ?_
          refine qq hS (g_fieldAddr (o' := i * 12 + 3) Tryz.underlying128 rfl Tryz.sizeOf3 rfl rfl rfl) ?_
          refine qq hS (g_ldO1 3 Tryz.isAgg3 rfl rfl (flat_get plC_len _ i pi hpi 3 _ rfl)) ?_
          refine qq hS (g_add rfl rfl (by omega) (by omega)) ?_
          refine qq hS (g_assignv (v := .int .i64 _) rfl) ?_
          refine ol_nil (thenN ?_)
          refine ⟨⟨i + pi.length.toNat, f', done ++ [opS pi.kind ((l.take (i + pi.length.toNat)).drop i)], css ++ [_], a74, p74⟩, _, rfl, ⟨⟨rfl, rfl, rfl, rfl, by show Value.int .i64 (↑i + pi.length) = Value.int .i64 _; congr 1; dsimp only; omega, trivial⟩, _, ?_, by dsimp only; omega, by dsimp only; rw [List.append_assoc]; exact hdone, by dsimp only; omega,
            All2.snoc (hall.mono fun _ _ h => h.mono hE.ext) ⟨_, _, _, rfl, hd2⟩, ?_, by dsimp only; simp; omega⟩, by dsimp only; omega⟩
          · dsimp only
            rw [List.flatten_append, List.flatten_singleton, List.length_append]
            exact hS.sel [false, true, true, true, true]
          · intro cs hcs
            rcases List.mem_append.1 hcs with h | h
            · exact hcl cs h
            · simp only [List.mem_singleton] at h; subst h; rfl
        ·
          intro hc45
          try simp only [Bool.and_eq_true, Bool.or_eq_true, Bool.not_eq_true', Bool.and_eq_false_imp, Bool.or_eq_false_iff, Bool.not_eq_false', decide_eq_true_eq, decide_eq_false_iff_not] at hc45
          rw [opsT_end (by omega), List.append_nil] at hdone
          refine wpIn_exit ?_
          refine thenE (thenE (blkE ?_))
          refine thenN ?_
          refine wpIn_seq ?_
          refine reg ?_
          refine qq hS (g_ldO 1 (vs := [.bool _, .int .i64 _, .int .i64 _, .slice _ _ _]) Tryz.sizeOf31 Tryz.isAgg31 rfl rfl rfl rfl) ?_
          refine qe (d_store 3 hS Tryz.sizeOf31 rfl rfl rfl (vs := [.bool _, .int .i64 _, .int .i64 _, .slice _ _ _]) rfl rfl rfl (Nat.le_of_ble_eq_true rfl) (cs' := [_, _, _, _]) rfl) ?_
          clear hS
          rintro _ w_15 ⟨rfl, hS⟩
          refine qq hS (g_assignv (v := .int .i64 _) rfl) ?_
          refine ol_nil (thenN ?_)
          refine wpIn_ret ?_
          refine ret2 Tryz.results35 (rv_cel 3 hS Tryz.sizeOf31 Tryz.isAgg31 rfl rfl rfl) (rv_tmp (v := .int .i64 _) rfl) ?_
          obtain ⟨I3, hS3, hI3, ho3⟩ := St.freezeRowR (hS.sel [true, false, false, false]) rfl hcl hall
          rw [e, ← hdone]
          exact ⟨I3, a, done.length, c, rfl, hS3, RSl.mono ho3 (Sub.refl _) fun _ _ h => h.mono hI3⟩

end Go.Proofs.YtlhehhhpaebpoaaGreat

