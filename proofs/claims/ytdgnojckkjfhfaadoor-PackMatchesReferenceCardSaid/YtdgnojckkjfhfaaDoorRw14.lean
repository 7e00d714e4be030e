/- pack.op and pack.read of any bytes. Conditions: none. -/
import Derived.Test.YtdgnojckkjfhfaaDoorWk14
import Derived.Test.YtdgnojckkjfhfaaDoorRd14
namespace Go.Proofs.YtdgnojckkjfhfaaDoor
open Go Go.RowKit Go.Inl
set_option linter.unusedSimpArgs false
set_option linter.unusedVariables false
structure RwW where
  k : Nat
  xs : List OpL
  css : List (List Value)
  a : Option Addr
  c : Nat
  ll : List Int
  la : Option Addr
  lc : Nat
  dl : List Int
  da : Option Addr
  dc : Nat

set_option maxHeartbeats 1000000 in
theorem opW_c (lb db : Nat) (la da : Option Addr) (lc dc : Nat) (l d : List Int) (hlb : Byt l) (hdb : Byt d) (XX : List Nat) (w0 : World) (I0 : Imm) (hl : RBytes I0 (.slice la l.length lc) l) (hd : RBytes I0 (.slice da d.length dc) d) (hS0 : St XX w0 I0 I0 w0 [.cel lb 106 [.slice la l.length lc], .cel db 106 [.slice da d.length dc]]) :
    CtrE Tryd.prog 50 [.pointer (some ⟨lb, 0, none⟩), .pointer (some ⟨db, 0, none⟩)] w0 shortV (fun v w' => ∃ I' x a m c l' a1 c1 d' a2 c2, v = opV x a m c ∧ St XX w0 I0 I' w' [.cel lb 106 [.slice a1 l'.length c1], .cel db 106 [.slice a2 d'.length c2]] ∧ x.wf ∧ RBytes I' (.slice a m c) x.data ∧ RBytes I0 (.slice a1 l'.length c1) l' ∧ Byt l' ∧ RBytes I0 (.slice a2 d'.length c2) d' ∧ Byt d')
      (fun w' => ∃ I' u1 u2, St XX w0 I0 I' w' [.cel lb 106 [u1], .cel db 106 [u2]]) := by
  refine fnE (n := 47) Tryd.func50 rfl rfl rfl ?_
  have hS := hS0
  refine wpIn_seq ?_
  refine reg ?_
  refine qe (d_alloc (cs := [.int .i64 _, .int .i64 _, .int .i64 _, .int .u8 _, .slice _ _ _]) hS Tryd.zeroValue53 rfl) ?_
  clear hS
  rintro _ w_1 ⟨b4, rfl, hS⟩
  refine ol_nil (thenN ?_)
  refine wpIn_seq ?_
  refine regX ?_
  refine qqX hS (g_move _) ?_
  refine qcX Tryd.call48 rfl (numW_c lb _ _ l 1 _ _ hS.imm (own_heap hS (k := 1) rfl) (own_none hS (k := 1) rfl) hl (by decide) hlb) ?_ ?_
  ·
    rintro w_3 ⟨u, hE⟩
    replace hS := hS.callX (k := 1) rfl hE
    refine thenP ?_
    exact panE (v0 := shortV) ⟨_, _, _, hS.sel [false, true, true]⟩
  rintro _ w_2 ⟨n7, l, aL, cL, rfl, hn7, hE, hl, hlb⟩
  replace hS := hS.callX (k := 1) rfl hE
  refine qqX hS (g_buildv (pl := [(0, 1), (1, 1), (2, 1), (3, 1), (4, 1)]) (cs := [.int .i64 _, .int .i64 _, .int .i64 _, .int .u8 _, .slice _ _ _]) Tryd.zeroValue53 Tryd.underlying53 (fun w => by simp [Tryd.sizeOf25, Tryd.sizeOf3, Tryd.sizeOf5]) (mp (v := .int .i64 _) rfl mp0) rfl) ?_
  refine qeX (d_alloc (cs := [.int .i64 _, .int .i64 _, .int .i64 _, .int .u8 _, .slice _ _ _]) hS Tryd.zeroValue53 rfl) ?_
  clear hS
  rintro _ w_4 ⟨b5, rfl, hS⟩
  refine qeX (d_store 0 hS Tryd.sizeOf53 rfl rfl rfl (vs := [.int .i64 _, .int .i64 _, .int .i64 _, .int .u8 _, .slice _ _ _]) rfl rfl rfl (Nat.le_of_ble_eq_true rfl) (cs' := [_, _, _, _, _]) rfl) ?_
  clear hS
  rintro _ w_5 ⟨rfl, hS⟩
  refine olx_nil (thenN ?_)
  refine wpIn_seq ?_
  refine wpIn_seq ?_
  refine reg ?_
  refine qq hS (g_fieldAddr (o' := 0) Tryd.underlying53 rfl Tryd.sizeOf3 rfl rfl rfl) ?_
  refine qq hS (g_ldO1 0 Tryd.isAgg3 rfl rfl rfl) ?_
  refine ol_nil (thenN ?_)
  refine wpIn_block ?_
  refine wpIn_seq ?_
  refine wpIn_seq ?_
  refine reg ?_
  refine qq hS (g_eql rfl rfl) ?_
  refine qq hS (g_assignv (v := .bool _) rfl) ?_
  refine ol_nil (thenN ?_)
  refine cond_s rfl ?_ ?_
  ·
    intro hc14
    try simp only [Bool.and_eq_true, Bool.or_eq_true, Bool.not_eq_true', Bool.and_eq_false_imp, Bool.or_eq_false_iff, Bool.not_eq_false', decide_eq_true_eq, decide_eq_false_iff_not] at hc14
    refine wpIn_skip ?_
    refine thenN ?_
    refine cond_s rfl ?_ ?_
    ·
      intro hc14_2
      try simp only [Bool.and_eq_true, Bool.or_eq_true, Bool.not_eq_true', Bool.and_eq_false_imp, Bool.or_eq_false_iff, Bool.not_eq_false', decide_eq_true_eq, decide_eq_false_iff_not] at hc14_2
      refine regX ?_
      refine qqX hS (g_move _) ?_
      refine qcX Tryd.call48 rfl (numW_c lb _ _ l 3 _ _ hS.imm (own_heap hS (k := 2) rfl) (own_none hS (k := 2) rfl) hl (by decide) hlb) ?_ ?_
      ·
        rintro w_7 ⟨u, hE⟩
        replace hS := hS.callX (k := 2) rfl hE
        refine blkP (thenP ?_)
        exact panE (v0 := shortV) ⟨_, _, _, hS.sel [false, false, true, true]⟩
      rintro _ w_6 ⟨n18, l, aL, cL, rfl, hn18, hE, hl, hlb⟩
      replace hS := hS.callX (k := 2) rfl hE
      refine qqX hS (g_move _) ?_
      refine qcX Tryd.call48 rfl (numW_c lb _ _ l 3 _ _ hS.imm (own_heap hS (k := 2) rfl) (own_none hS (k := 2) rfl) hl (by decide) hlb) ?_ ?_
      ·
        rintro w_9 ⟨u, hE⟩
        replace hS := hS.callX (k := 2) rfl hE
        refine blkP (thenP ?_)
        exact panE (v0 := shortV) ⟨_, _, _, hS.sel [false, false, true, true]⟩
      rintro _ w_8 ⟨n20, l, aL, cL, rfl, hn20, hE, hl, hlb⟩
      replace hS := hS.callX (k := 2) rfl hE
      refine qqX hS (g_fieldAddr (o' := 1) Tryd.underlying53 rfl Tryd.sizeOf3 rfl rfl rfl) ?_
      refine qeX (d_store 0 hS Tryd.sizeOf3 rfl rfl rfl (vs := [.int .i64 _]) rfl rfl rfl (Nat.le_of_ble_eq_true rfl) (cs' := [_, _, _, _, _]) rfl) ?_
      clear hS
      rintro _ w_10 ⟨rfl, hS⟩
      refine qqX hS (g_fieldAddr (o' := 2) Tryd.underlying53 rfl Tryd.sizeOf3 rfl rfl rfl) ?_
      refine qeX (d_store 0 hS Tryd.sizeOf3 rfl rfl rfl (vs := [.int .i64 _]) rfl rfl rfl (Nat.le_of_ble_eq_true rfl) (cs' := [_, _, _, _, _]) rfl) ?_
      clear hS
      rintro _ w_11 ⟨rfl, hS⟩
      refine olx_nil (blkN (thenN ?_))
      refine wpIn_seq ?_
      refine wpIn_seq ?_
      refine reg ?_
      refine qq hS (g_fieldAddr (o' := 0) Tryd.underlying53 rfl Tryd.sizeOf3 rfl rfl rfl) ?_
      refine qq hS (g_ldO1 0 Tryd.isAgg3 rfl rfl rfl) ?_
      refine qq hS (g_eql rfl rfl) ?_
      refine qq hS (g_movev (v := .bool _) rfl) ?_
      refine qu rfl rfl hS (fun hg => (g_fieldAddr (o' := 0) Tryd.underlying53 rfl Tryd.sizeOf3 rfl rfl rfl)) ?_
      intro u36 hu36 hn36
      refine qu rfl rfl hS (fun hg => (g_ldO1 0 Tryd.isAgg3 rfl (hu36 hg) rfl)) ?_
      intro u37 hu37 hn37
      refine qu rfl rfl hS (fun hg => (g_eql (hu37 hg) rfl)) ?_
      intro u38 hu38 hn38
      refine qq hS (g_or rfl rfl (fun hq => hu38 hq)) ?_
      refine ol_nil (thenN ?_)
      refine cond_s rfl ?_ ?_
      ·
        intro hc39
        clear hu36 hn36 hu37 hn37 hu38 hn38
        try simp only [Bool.and_eq_true, Bool.or_eq_true, Bool.not_eq_true', Bool.and_eq_false_imp, Bool.or_eq_false_iff, Bool.not_eq_false', decide_eq_true_eq, decide_eq_false_iff_not] at hc39
        refine regX ?_
        refine qqX hS (g_move _) ?_
        refine qqX hS (g_fieldAddr (o' := 2) Tryd.underlying53 rfl Tryd.sizeOf3 rfl rfl rfl) ?_
        refine qqX hS (g_ldO1 0 Tryd.isAgg3 rfl rfl rfl) ?_
        refine qcX Tryd.call47 rfl (takeW_c db _ _ d _ _ _ hS.imm (own_heap hS (k := 3) rfl) (own_none hS (k := 3) rfl) hd (by omega) hdb) ?_ ?_
        ·
          rintro w_13 ⟨u, hE⟩
          replace hS := hS.callX (k := 3) rfl hE
          refine thenP ?_
          exact panE (v0 := shortV) ⟨_, _, _, hS.sel [false, false, true, true]⟩
        rintro _ w_12 ⟨y, d, a43, c43, a2, c2, rfl, hyl, hE, h43, hyb, hd, hdb⟩
        replace hS := hS.callX (k := 3) rfl hE
        refine qeX (d_call Tryd.call65 rfl (cloneW_c _ _ y _ _ hS.imm h43 (by omega))) ?_
        rintro _ w_14 ⟨I_f, a44, c44, rfl, hE, h44⟩
        replace hS := hS.callE hE
        refine qqX hS (g_fieldAddr (o' := 4) Tryd.underlying53 rfl Tryd.sizeOf25 rfl rfl rfl) ?_
        refine qeX (d_store 0 hS Tryd.sizeOf25 rfl rfl rfl (vs := [.slice _ _ _]) rfl rfl rfl (Nat.le_of_ble_eq_true rfl) (cs' := [_, _, _, _, _]) rfl) ?_
        clear hS
        rintro _ w_15 ⟨rfl, hS⟩
        refine olx_nil (thenN ?_)
        refine wpIn_seq ?_
        refine reg ?_
        refine qq hS (g_ldO 0 (vs := [.int .i64 _, .int .i64 _, .int .i64 _, .int .u8 _, .slice _ _ _]) Tryd.sizeOf53 Tryd.isAgg53 rfl rfl rfl rfl) ?_
        refine qe (d_store 1 hS Tryd.sizeOf53 rfl rfl rfl (vs := [.int .i64 _, .int .i64 _, .int .i64 _, .int .u8 _, .slice _ _ _]) rfl rfl rfl (Nat.le_of_ble_eq_true rfl) (cs' := [_, _, _, _, _]) rfl) ?_
        clear hS
        rintro _ w_16 ⟨rfl, hS⟩
        refine ol_nil (thenN ?_)
        refine wpIn_ret ?_
        refine retE (ret1 Tryd.results50 (rv_cel 1 hS Tryd.sizeOf53 Tryd.isAgg53 rfl rfl rfl) ?_)
        first
          | exact ⟨_, ⟨_, _, _, _, y⟩, a44, y.length, c44, l, _, _, d, _, _, rfl, hS.sel [false, false, true, true], ⟨⟨by dsimp only; omega, by dsimp only; omega⟩, ⟨by dsimp only; omega, by dsimp only; omega⟩, ⟨by dsimp only; omega, by dsimp only; omega⟩, ⟨by dsimp only; omega, by dsimp only; omega⟩, hyb⟩, h44, hl, hlb, hd, hdb⟩
          | exact ⟨_, ⟨_, _, _, _, []⟩, none, 0, 0, l, _, _, d, _, _, rfl, hS.sel [false, false, true, true], ⟨⟨by dsimp only; omega, by dsimp only; omega⟩, ⟨by dsimp only; omega, by dsimp only; omega⟩, ⟨by dsimp only; omega, by dsimp only; omega⟩, ⟨by dsimp only; omega, by dsimp only; omega⟩, fun y hy => by cases hy⟩, RFl.nil, hl, hlb, hd, hdb⟩
          | exact ⟨_, ⟨_, _, _, IntKind.u8.wrap n28, []⟩, none, 0, 0, l, _, _, d, _, _, rfl, hS.sel [false, false, true, true], ⟨⟨by dsimp only; omega, by dsimp only; omega⟩, ⟨by dsimp only; omega, by dsimp only; omega⟩, ⟨by dsimp only; omega, by dsimp only; omega⟩, (by show 0 ≤ IntKind.u8.wrap n28 ∧ IntKind.u8.wrap n28 ≤ 255; rw [IntKind.wrap_u8]; omega), fun y hy => by cases hy⟩, RFl.nil, hl, hlb, hd, hdb⟩
          | exact ⟨_, ⟨_, _, _, IntKind.u8.wrap n28, y⟩, a44, y.length, c44, l, _, _, d, _, _, rfl, hS.sel [false, false, true, true], ⟨⟨by dsimp only; omega, by dsimp only; omega⟩, ⟨by dsimp only; omega, by dsimp only; omega⟩, ⟨by dsimp only; omega, by dsimp only; omega⟩, (by show 0 ≤ IntKind.u8.wrap n28 ∧ IntKind.u8.wrap n28 ≤ 255; rw [IntKind.wrap_u8]; omega), hyb⟩, h44, hl, hlb, hd, hdb⟩
      ·
        intro hc39
        clear hu36 hn36 hu37 hn37 hu38 hn38
        try simp only [Bool.and_eq_true, Bool.or_eq_true, Bool.not_eq_true', Bool.and_eq_false_imp, Bool.or_eq_false_iff, Bool.not_eq_false', decide_eq_true_eq, decide_eq_false_iff_not] at hc39
        refine wpIn_skip ?_
        refine thenN ?_
        refine wpIn_seq ?_
        refine reg ?_
        refine qq hS (g_ldO 0 (vs := [.int .i64 _, .int .i64 _, .int .i64 _, .int .u8 _, .slice _ _ _]) Tryd.sizeOf53 Tryd.isAgg53 rfl rfl rfl rfl) ?_
        refine qe (d_store 1 hS Tryd.sizeOf53 rfl rfl rfl (vs := [.int .i64 _, .int .i64 _, .int .i64 _, .int .u8 _, .slice _ _ _]) rfl rfl rfl (Nat.le_of_ble_eq_true rfl) (cs' := [_, _, _, _, _]) rfl) ?_
        clear hS
        rintro _ w_17 ⟨rfl, hS⟩
        refine ol_nil (thenN ?_)
        refine wpIn_ret ?_
        refine retE (ret1 Tryd.results50 (rv_cel 1 hS Tryd.sizeOf53 Tryd.isAgg53 rfl rfl rfl) ?_)
        first
          | exact ⟨_, ⟨_, _, _, _, y⟩, a44, y.length, c44, l, _, _, d, _, _, rfl, hS.sel [false, false, true, true], ⟨⟨by dsimp only; omega, by dsimp only; omega⟩, ⟨by dsimp only; omega, by dsimp only; omega⟩, ⟨by dsimp only; omega, by dsimp only; omega⟩, ⟨by dsimp only; omega, by dsimp only; omega⟩, hyb⟩, h44, hl, hlb, hd, hdb⟩
          | exact ⟨_, ⟨_, _, _, _, []⟩, none, 0, 0, l, _, _, d, _, _, rfl, hS.sel [false, false, true, true], ⟨⟨by dsimp only; omega, by dsimp only; omega⟩, ⟨by dsimp only; omega, by dsimp only; omega⟩, ⟨by dsimp only; omega, by dsimp only; omega⟩, ⟨by dsimp only; omega, by dsimp only; omega⟩, fun y hy => by cases hy⟩, RFl.nil, hl, hlb, hd, hdb⟩
          | exact ⟨_, ⟨_, _, _, IntKind.u8.wrap n28, []⟩, none, 0, 0, l, _, _, d, _, _, rfl, hS.sel [false, false, true, true], ⟨⟨by dsimp only; omega, by dsimp only; omega⟩, ⟨by dsimp only; omega, by dsimp only; omega⟩, ⟨by dsimp only; omega, by dsimp only; omega⟩, (by show 0 ≤ IntKind.u8.wrap n28 ∧ IntKind.u8.wrap n28 ≤ 255; rw [IntKind.wrap_u8]; omega), fun y hy => by cases hy⟩, RFl.nil, hl, hlb, hd, hdb⟩
          | exact ⟨_, ⟨_, _, _, IntKind.u8.wrap n28, y⟩, a44, y.length, c44, l, _, _, d, _, _, rfl, hS.sel [false, false, true, true], ⟨⟨by dsimp only; omega, by dsimp only; omega⟩, ⟨by dsimp only; omega, by dsimp only; omega⟩, ⟨by dsimp only; omega, by dsimp only; omega⟩, (by show 0 ≤ IntKind.u8.wrap n28 ∧ IntKind.u8.wrap n28 ≤ 255; rw [IntKind.wrap_u8]; omega), hyb⟩, h44, hl, hlb, hd, hdb⟩
    ·
      intro hc14_2
      try simp only [Bool.and_eq_true, Bool.or_eq_true, Bool.not_eq_true', Bool.and_eq_false_imp, Bool.or_eq_false_iff, Bool.not_eq_false', decide_eq_true_eq, decide_eq_false_iff_not] at hc14_2
      refine wpIn_seq ?_
      refine reg ?_
      refine qq hS (g_eql rfl rfl) ?_
      refine qq hS (g_assignv (v := .bool _) rfl) ?_
      refine ol_nil (thenN ?_)
      refine cond_s rfl ?_ ?_
      ·
        intro hc23
        try simp only [Bool.and_eq_true, Bool.or_eq_true, Bool.not_eq_true', Bool.and_eq_false_imp, Bool.or_eq_false_iff, Bool.not_eq_false', decide_eq_true_eq, decide_eq_false_iff_not] at hc23
        refine regX ?_
        refine qqX hS (g_move _) ?_
        refine qcX Tryd.call48 rfl (numW_c lb _ _ l 3 _ _ hS.imm (own_heap hS (k := 2) rfl) (own_none hS (k := 2) rfl) hl (by decide) hlb) ?_ ?_
        ·
          rintro w_19 ⟨u, hE⟩
          replace hS := hS.callX (k := 2) rfl hE
          refine blkP (thenP ?_)
          exact panE (v0 := shortV) ⟨_, _, _, hS.sel [false, false, true, true]⟩
        rintro _ w_18 ⟨n26, l, aL, cL, rfl, hn26, hE, hl, hlb⟩
        replace hS := hS.callX (k := 2) rfl hE
        refine qqX hS (g_move _) ?_
        refine qcX Tryd.call48 rfl (numW_c lb _ _ l 1 _ _ hS.imm (own_heap hS (k := 2) rfl) (own_none hS (k := 2) rfl) hl (by decide) hlb) ?_ ?_
        ·
          rintro w_21 ⟨u, hE⟩
          replace hS := hS.callX (k := 2) rfl hE
          refine blkP (thenP ?_)
          exact panE (v0 := shortV) ⟨_, _, _, hS.sel [false, false, true, true]⟩
        rintro _ w_20 ⟨n28, l, aL, cL, rfl, hn28, hE, hl, hlb⟩
        replace hS := hS.callX (k := 2) rfl hE
        refine qqX hS (g_convu Tryd.underlying3 Tryd.underlying5 rfl rfl) ?_
        refine qqX hS (g_fieldAddr (o' := 2) Tryd.underlying53 rfl Tryd.sizeOf3 rfl rfl rfl) ?_
        refine qeX (d_store 0 hS Tryd.sizeOf3 rfl rfl rfl (vs := [.int .i64 _]) rfl rfl rfl (Nat.le_of_ble_eq_true rfl) (cs' := [_, _, _, _, _]) rfl) ?_
        clear hS
        rintro _ w_22 ⟨rfl, hS⟩
        refine qqX hS (g_fieldAddr (o' := 3) Tryd.underlying53 rfl Tryd.sizeOf5 rfl rfl rfl) ?_
        refine qeX (d_store 0 hS Tryd.sizeOf5 rfl rfl rfl (vs := [.int .u8 _]) rfl rfl rfl (Nat.le_of_ble_eq_true rfl) (cs' := [_, _, _, _, _]) rfl) ?_
        clear hS
        rintro _ w_23 ⟨rfl, hS⟩
        refine olx_nil (blkN (thenN ?_))
        refine wpIn_seq ?_
        refine wpIn_seq ?_
        refine reg ?_
        refine qq hS (g_fieldAddr (o' := 0) Tryd.underlying53 rfl Tryd.sizeOf3 rfl rfl rfl) ?_
        refine qq hS (g_ldO1 0 Tryd.isAgg3 rfl rfl rfl) ?_
        refine qq hS (g_eql rfl rfl) ?_
        refine qq hS (g_movev (v := .bool _) rfl) ?_
        refine qu rfl rfl hS (fun hg => (g_fieldAddr (o' := 0) Tryd.underlying53 rfl Tryd.sizeOf3 rfl rfl rfl)) ?_
        intro u36 hu36 hn36
        refine qu rfl rfl hS (fun hg => (g_ldO1 0 Tryd.isAgg3 rfl (hu36 hg) rfl)) ?_
        intro u37 hu37 hn37
        refine qu rfl rfl hS (fun hg => (g_eql (hu37 hg) rfl)) ?_
        intro u38 hu38 hn38
        refine qq hS (g_or rfl rfl (fun hq => hu38 hq)) ?_
        refine ol_nil (thenN ?_)
        refine cond_s rfl ?_ ?_
        ·
          intro hc39
          clear hu36 hn36 hu37 hn37 hu38 hn38
          try simp only [Bool.and_eq_true, Bool.or_eq_true, Bool.not_eq_true', Bool.and_eq_false_imp, Bool.or_eq_false_iff, Bool.not_eq_false', decide_eq_true_eq, decide_eq_false_iff_not] at hc39
          refine regX ?_
          refine qqX hS (g_move _) ?_
          refine qqX hS (g_fieldAddr (o' := 2) Tryd.underlying53 rfl Tryd.sizeOf3 rfl rfl rfl) ?_
          refine qqX hS (g_ldO1 0 Tryd.isAgg3 rfl rfl rfl) ?_
          refine qcX Tryd.call47 rfl (takeW_c db _ _ d _ _ _ hS.imm (own_heap hS (k := 3) rfl) (own_none hS (k := 3) rfl) hd (by omega) hdb) ?_ ?_
          ·
            rintro w_25 ⟨u, hE⟩
            replace hS := hS.callX (k := 3) rfl hE
            refine thenP ?_
            exact panE (v0 := shortV) ⟨_, _, _, hS.sel [false, false, true, true]⟩
          rintro _ w_24 ⟨y, d, a43, c43, a2, c2, rfl, hyl, hE, h43, hyb, hd, hdb⟩
          replace hS := hS.callX (k := 3) rfl hE
          refine qeX (d_call Tryd.call65 rfl (cloneW_c _ _ y _ _ hS.imm h43 (by omega))) ?_
          rintro _ w_26 ⟨I_f, a44, c44, rfl, hE, h44⟩
          replace hS := hS.callE hE
          refine qqX hS (g_fieldAddr (o' := 4) Tryd.underlying53 rfl Tryd.sizeOf25 rfl rfl rfl) ?_
          refine qeX (d_store 0 hS Tryd.sizeOf25 rfl rfl rfl (vs := [.slice _ _ _]) rfl rfl rfl (Nat.le_of_ble_eq_true rfl) (cs' := [_, _, _, _, _]) rfl) ?_
          clear hS
          rintro _ w_27 ⟨rfl, hS⟩
          refine olx_nil (thenN ?_)
          refine wpIn_seq ?_
          refine reg ?_
          refine qq hS (g_ldO 0 (vs := [.int .i64 _, .int .i64 _, .int .i64 _, .int .u8 _, .slice _ _ _]) Tryd.sizeOf53 Tryd.isAgg53 rfl rfl rfl rfl) ?_
          refine qe (d_store 1 hS Tryd.sizeOf53 rfl rfl rfl (vs := [.int .i64 _, .int .i64 _, .int .i64 _, .int .u8 _, .slice _ _ _]) rfl rfl rfl (Nat.le_of_ble_eq_true rfl) (cs' := [_, _, _, _, _]) rfl) ?_
          clear hS
          rintro _ w_28 ⟨rfl, hS⟩
          refine ol_nil (thenN ?_)
          refine wpIn_ret ?_
          refine retE (ret1 Tryd.results50 (rv_cel 1 hS Tryd.sizeOf53 Tryd.isAgg53 rfl rfl rfl) ?_)
          first
            | exact ⟨_, ⟨_, _, _, _, y⟩, a44, y.length, c44, l, _, _, d, _, _, rfl, hS.sel [false, false, true, true], ⟨⟨by dsimp only; omega, by dsimp only; omega⟩, ⟨by dsimp only; omega, by dsimp only; omega⟩, ⟨by dsimp only; omega, by dsimp only; omega⟩, ⟨by dsimp only; omega, by dsimp only; omega⟩, hyb⟩, h44, hl, hlb, hd, hdb⟩
            | exact ⟨_, ⟨_, _, _, _, []⟩, none, 0, 0, l, _, _, d, _, _, rfl, hS.sel [false, false, true, true], ⟨⟨by dsimp only; omega, by dsimp only; omega⟩, ⟨by dsimp only; omega, by dsimp only; omega⟩, ⟨by dsimp only; omega, by dsimp only; omega⟩, ⟨by dsimp only; omega, by dsimp only; omega⟩, fun y hy => by cases hy⟩, RFl.nil, hl, hlb, hd, hdb⟩
            | exact ⟨_, ⟨_, _, _, IntKind.u8.wrap n28, []⟩, none, 0, 0, l, _, _, d, _, _, rfl, hS.sel [false, false, true, true], ⟨⟨by dsimp only; omega, by dsimp only; omega⟩, ⟨by dsimp only; omega, by dsimp only; omega⟩, ⟨by dsimp only; omega, by dsimp only; omega⟩, (by show 0 ≤ IntKind.u8.wrap n28 ∧ IntKind.u8.wrap n28 ≤ 255; rw [IntKind.wrap_u8]; omega), fun y hy => by cases hy⟩, RFl.nil, hl, hlb, hd, hdb⟩
            | exact ⟨_, ⟨_, _, _, IntKind.u8.wrap n28, y⟩, a44, y.length, c44, l, _, _, d, _, _, rfl, hS.sel [false, false, true, true], ⟨⟨by dsimp only; omega, by dsimp only; omega⟩, ⟨by dsimp only; omega, by dsimp only; omega⟩, ⟨by dsimp only; omega, by dsimp only; omega⟩, (by show 0 ≤ IntKind.u8.wrap n28 ∧ IntKind.u8.wrap n28 ≤ 255; rw [IntKind.wrap_u8]; omega), hyb⟩, h44, hl, hlb, hd, hdb⟩
        ·
          intro hc39
          clear hu36 hn36 hu37 hn37 hu38 hn38
          try simp only [Bool.and_eq_true, Bool.or_eq_true, Bool.not_eq_true', Bool.and_eq_false_imp, Bool.or_eq_false_iff, Bool.not_eq_false', decide_eq_true_eq, decide_eq_false_iff_not] at hc39
          refine wpIn_skip ?_
          refine thenN ?_
          refine wpIn_seq ?_
          refine reg ?_
          refine qq hS (g_ldO 0 (vs := [.int .i64 _, .int .i64 _, .int .i64 _, .int .u8 _, .slice _ _ _]) Tryd.sizeOf53 Tryd.isAgg53 rfl rfl rfl rfl) ?_
          refine qe (d_store 1 hS Tryd.sizeOf53 rfl rfl rfl (vs := [.int .i64 _, .int .i64 _, .int .i64 _, .int .u8 _, .slice _ _ _]) rfl rfl rfl (Nat.le_of_ble_eq_true rfl) (cs' := [_, _, _, _, _]) rfl) ?_
          clear hS
          rintro _ w_29 ⟨rfl, hS⟩
          refine ol_nil (thenN ?_)
          refine wpIn_ret ?_
          refine retE (ret1 Tryd.results50 (rv_cel 1 hS Tryd.sizeOf53 Tryd.isAgg53 rfl rfl rfl) ?_)
          first
            | exact ⟨_, ⟨_, _, _, _, y⟩, a44, y.length, c44, l, _, _, d, _, _, rfl, hS.sel [false, false, true, true], ⟨⟨by dsimp only; omega, by dsimp only; omega⟩, ⟨by dsimp only; omega, by dsimp only; omega⟩, ⟨by dsimp only; omega, by dsimp only; omega⟩, ⟨by dsimp only; omega, by dsimp only; omega⟩, hyb⟩, h44, hl, hlb, hd, hdb⟩
            | exact ⟨_, ⟨_, _, _, _, []⟩, none, 0, 0, l, _, _, d, _, _, rfl, hS.sel [false, false, true, true], ⟨⟨by dsimp only; omega, by dsimp only; omega⟩, ⟨by dsimp only; omega, by dsimp only; omega⟩, ⟨by dsimp only; omega, by dsimp only; omega⟩, ⟨by dsimp only; omega, by dsimp only; omega⟩, fun y hy => by cases hy⟩, RFl.nil, hl, hlb, hd, hdb⟩
            | exact ⟨_, ⟨_, _, _, IntKind.u8.wrap n28, []⟩, none, 0, 0, l, _, _, d, _, _, rfl, hS.sel [false, false, true, true], ⟨⟨by dsimp only; omega, by dsimp only; omega⟩, ⟨by dsimp only; omega, by dsimp only; omega⟩, ⟨by dsimp only; omega, by dsimp only; omega⟩, (by show 0 ≤ IntKind.u8.wrap n28 ∧ IntKind.u8.wrap n28 ≤ 255; rw [IntKind.wrap_u8]; omega), fun y hy => by cases hy⟩, RFl.nil, hl, hlb, hd, hdb⟩
            | exact ⟨_, ⟨_, _, _, IntKind.u8.wrap n28, y⟩, a44, y.length, c44, l, _, _, d, _, _, rfl, hS.sel [false, false, true, true], ⟨⟨by dsimp only; omega, by dsimp only; omega⟩, ⟨by dsimp only; omega, by dsimp only; omega⟩, ⟨by dsimp only; omega, by dsimp only; omega⟩, (by show 0 ≤ IntKind.u8.wrap n28 ∧ IntKind.u8.wrap n28 ≤ 255; rw [IntKind.wrap_u8]; omega), hyb⟩, h44, hl, hlb, hd, hdb⟩
      ·
        intro hc23
        try simp only [Bool.and_eq_true, Bool.or_eq_true, Bool.not_eq_true', Bool.and_eq_false_imp, Bool.or_eq_false_iff, Bool.not_eq_false', decide_eq_true_eq, decide_eq_false_iff_not] at hc23
        refine regX ?_
        refine qqX hS (g_move _) ?_
        refine qcX Tryd.call48 rfl (numW_c lb _ _ l 3 _ _ hS.imm (own_heap hS (k := 2) rfl) (own_none hS (k := 2) rfl) hl (by decide) hlb) ?_ ?_
        ·
          rintro w_31 ⟨u, hE⟩
          replace hS := hS.callX (k := 2) rfl hE
          refine blkP (thenP ?_)
          exact panE (v0 := shortV) ⟨_, _, _, hS.sel [false, false, true, true]⟩
        rintro _ w_30 ⟨n12, l, aL, cL, rfl, hn12, hE, hl, hlb⟩
        replace hS := hS.callX (k := 2) rfl hE
        refine qqX hS (g_fieldAddr (o' := 2) Tryd.underlying53 rfl Tryd.sizeOf3 rfl rfl rfl) ?_
        refine qeX (d_store 0 hS Tryd.sizeOf3 rfl rfl rfl (vs := [.int .i64 _]) rfl rfl rfl (Nat.le_of_ble_eq_true rfl) (cs' := [_, _, _, _, _]) rfl) ?_
        clear hS
        rintro _ w_32 ⟨rfl, hS⟩
        refine olx_nil (blkN (thenN ?_))
        refine wpIn_seq ?_
        refine wpIn_seq ?_
        refine reg ?_
        refine qq hS (g_fieldAddr (o' := 0) Tryd.underlying53 rfl Tryd.sizeOf3 rfl rfl rfl) ?_
        refine qq hS (g_ldO1 0 Tryd.isAgg3 rfl rfl rfl) ?_
        refine qq hS (g_eql rfl rfl) ?_
        refine qq hS (g_movev (v := .bool _) rfl) ?_
        refine qu rfl rfl hS (fun hg => (g_fieldAddr (o' := 0) Tryd.underlying53 rfl Tryd.sizeOf3 rfl rfl rfl)) ?_
        intro u36 hu36 hn36
        refine qu rfl rfl hS (fun hg => (g_ldO1 0 Tryd.isAgg3 rfl (hu36 hg) rfl)) ?_
        intro u37 hu37 hn37
        refine qu rfl rfl hS (fun hg => (g_eql (hu37 hg) rfl)) ?_
        intro u38 hu38 hn38
        refine qq hS (g_or rfl rfl (fun hq => hu38 hq)) ?_
        refine ol_nil (thenN ?_)
        refine cond_s rfl ?_ ?_
        ·
          intro hc39
          clear hu36 hn36 hu37 hn37 hu38 hn38
          try simp only [Bool.and_eq_true, Bool.or_eq_true, Bool.not_eq_true', Bool.and_eq_false_imp, Bool.or_eq_false_iff, Bool.not_eq_false', decide_eq_true_eq, decide_eq_false_iff_not] at hc39
          refine regX ?_
          refine qqX hS (g_move _) ?_
          refine qqX hS (g_fieldAddr (o' := 2) Tryd.underlying53 rfl Tryd.sizeOf3 rfl rfl rfl) ?_
          refine qqX hS (g_ldO1 0 Tryd.isAgg3 rfl rfl rfl) ?_
          refine qcX Tryd.call47 rfl (takeW_c db _ _ d _ _ _ hS.imm (own_heap hS (k := 3) rfl) (own_none hS (k := 3) rfl) hd (by omega) hdb) ?_ ?_
          ·
            rintro w_34 ⟨u, hE⟩
            replace hS := hS.callX (k := 3) rfl hE
            refine thenP ?_
            exact panE (v0 := shortV) ⟨_, _, _, hS.sel [false, false, true, true]⟩
          rintro _ w_33 ⟨y, d, a43, c43, a2, c2, rfl, hyl, hE, h43, hyb, hd, hdb⟩
          replace hS := hS.callX (k := 3) rfl hE
          refine qeX (d_call Tryd.call65 rfl (cloneW_c _ _ y _ _ hS.imm h43 (by omega))) ?_
          rintro _ w_35 ⟨I_f, a44, c44, rfl, hE, h44⟩
          replace hS := hS.callE hE
          refine qqX hS (g_fieldAddr (o' := 4) Tryd.underlying53 rfl Tryd.sizeOf25 rfl rfl rfl) ?_
          refine qeX (d_store 0 hS Tryd.sizeOf25 rfl rfl rfl (vs := [.slice _ _ _]) rfl rfl rfl (Nat.le_of_ble_eq_true rfl) (cs' := [_, _, _, _, _]) rfl) ?_
          clear hS
          rintro _ w_36 ⟨rfl, hS⟩
          refine olx_nil (thenN ?_)
          refine wpIn_seq ?_
          refine reg ?_
          refine qq hS (g_ldO 0 (vs := [.int .i64 _, .int .i64 _, .int .i64 _, .int .u8 _, .slice _ _ _]) Tryd.sizeOf53 Tryd.isAgg53 rfl rfl rfl rfl) ?_
          refine qe (d_store 1 hS Tryd.sizeOf53 rfl rfl rfl (vs := [.int .i64 _, .int .i64 _, .int .i64 _, .int .u8 _, .slice _ _ _]) rfl rfl rfl (Nat.le_of_ble_eq_true rfl) (cs' := [_, _, _, _, _]) rfl) ?_
          clear hS
          rintro _ w_37 ⟨rfl, hS⟩
          refine ol_nil (thenN ?_)
          refine wpIn_ret ?_
          refine retE (ret1 Tryd.results50 (rv_cel 1 hS Tryd.sizeOf53 Tryd.isAgg53 rfl rfl rfl) ?_)
          first
            | exact ⟨_, ⟨_, _, _, _, y⟩, a44, y.length, c44, l, _, _, d, _, _, rfl, hS.sel [false, false, true, true], ⟨⟨by dsimp only; omega, by dsimp only; omega⟩, ⟨by dsimp only; omega, by dsimp only; omega⟩, ⟨by dsimp only; omega, by dsimp only; omega⟩, ⟨by dsimp only; omega, by dsimp only; omega⟩, hyb⟩, h44, hl, hlb, hd, hdb⟩
            | exact ⟨_, ⟨_, _, _, _, []⟩, none, 0, 0, l, _, _, d, _, _, rfl, hS.sel [false, false, true, true], ⟨⟨by dsimp only; omega, by dsimp only; omega⟩, ⟨by dsimp only; omega, by dsimp only; omega⟩, ⟨by dsimp only; omega, by dsimp only; omega⟩, ⟨by dsimp only; omega, by dsimp only; omega⟩, fun y hy => by cases hy⟩, RFl.nil, hl, hlb, hd, hdb⟩
            | exact ⟨_, ⟨_, _, _, IntKind.u8.wrap n28, []⟩, none, 0, 0, l, _, _, d, _, _, rfl, hS.sel [false, false, true, true], ⟨⟨by dsimp only; omega, by dsimp only; omega⟩, ⟨by dsimp only; omega, by dsimp only; omega⟩, ⟨by dsimp only; omega, by dsimp only; omega⟩, (by show 0 ≤ IntKind.u8.wrap n28 ∧ IntKind.u8.wrap n28 ≤ 255; rw [IntKind.wrap_u8]; omega), fun y hy => by cases hy⟩, RFl.nil, hl, hlb, hd, hdb⟩
            | exact ⟨_, ⟨_, _, _, IntKind.u8.wrap n28, y⟩, a44, y.length, c44, l, _, _, d, _, _, rfl, hS.sel [false, false, true, true], ⟨⟨by dsimp only; omega, by dsimp only; omega⟩, ⟨by dsimp only; omega, by dsimp only; omega⟩, ⟨by dsimp only; omega, by dsimp only; omega⟩, (by show 0 ≤ IntKind.u8.wrap n28 ∧ IntKind.u8.wrap n28 ≤ 255; rw [IntKind.wrap_u8]; omega), hyb⟩, h44, hl, hlb, hd, hdb⟩
        ·
          intro hc39
          clear hu36 hn36 hu37 hn37 hu38 hn38
          try simp only [Bool.and_eq_true, Bool.or_eq_true, Bool.not_eq_true', Bool.and_eq_false_imp, Bool.or_eq_false_iff, Bool.not_eq_false', decide_eq_true_eq, decide_eq_false_iff_not] at hc39
          refine wpIn_skip ?_
          refine thenN ?_
          refine wpIn_seq ?_
          refine reg ?_
          refine qq hS (g_ldO 0 (vs := [.int .i64 _, .int .i64 _, .int .i64 _, .int .u8 _, .slice _ _ _]) Tryd.sizeOf53 Tryd.isAgg53 rfl rfl rfl rfl) ?_
          refine qe (d_store 1 hS Tryd.sizeOf53 rfl rfl rfl (vs := [.int .i64 _, .int .i64 _, .int .i64 _, .int .u8 _, .slice _ _ _]) rfl rfl rfl (Nat.le_of_ble_eq_true rfl) (cs' := [_, _, _, _, _]) rfl) ?_
          clear hS
          rintro _ w_38 ⟨rfl, hS⟩
          refine ol_nil (thenN ?_)
          refine wpIn_ret ?_
          refine retE (ret1 Tryd.results50 (rv_cel 1 hS Tryd.sizeOf53 Tryd.isAgg53 rfl rfl rfl) ?_)
          first
            | exact ⟨_, ⟨_, _, _, _, y⟩, a44, y.length, c44, l, _, _, d, _, _, rfl, hS.sel [false, false, true, true], ⟨⟨by dsimp only; omega, by dsimp only; omega⟩, ⟨by dsimp only; omega, by dsimp only; omega⟩, ⟨by dsimp only; omega, by dsimp only; omega⟩, ⟨by dsimp only; omega, by dsimp only; omega⟩, hyb⟩, h44, hl, hlb, hd, hdb⟩
            | exact ⟨_, ⟨_, _, _, _, []⟩, none, 0, 0, l, _, _, d, _, _, rfl, hS.sel [false, false, true, true], ⟨⟨by dsimp only; omega, by dsimp only; omega⟩, ⟨by dsimp only; omega, by dsimp only; omega⟩, ⟨by dsimp only; omega, by dsimp only; omega⟩, ⟨by dsimp only; omega, by dsimp only; omega⟩, fun y hy => by cases hy⟩, RFl.nil, hl, hlb, hd, hdb⟩
            | exact ⟨_, ⟨_, _, _, IntKind.u8.wrap n28, []⟩, none, 0, 0, l, _, _, d, _, _, rfl, hS.sel [false, false, true, true], ⟨⟨by dsimp only; omega, by dsimp only; omega⟩, ⟨by dsimp only; omega, by dsimp only; omega⟩, ⟨by dsimp only; omega, by dsimp only; omega⟩, (by show 0 ≤ IntKind.u8.wrap n28 ∧ IntKind.u8.wrap n28 ≤ 255; rw [IntKind.wrap_u8]; omega), fun y hy => by cases hy⟩, RFl.nil, hl, hlb, hd, hdb⟩
            | exact ⟨_, ⟨_, _, _, IntKind.u8.wrap n28, y⟩, a44, y.length, c44, l, _, _, d, _, _, rfl, hS.sel [false, false, true, true], ⟨⟨by dsimp only; omega, by dsimp only; omega⟩, ⟨by dsimp only; omega, by dsimp only; omega⟩, ⟨by dsimp only; omega, by dsimp only; omega⟩, (by show 0 ≤ IntKind.u8.wrap n28 ∧ IntKind.u8.wrap n28 ≤ 255; rw [IntKind.wrap_u8]; omega), hyb⟩, h44, hl, hlb, hd, hdb⟩
  ·
    intro hc14
    try simp only [Bool.and_eq_true, Bool.or_eq_true, Bool.not_eq_true', Bool.and_eq_false_imp, Bool.or_eq_false_iff, Bool.not_eq_false', decide_eq_true_eq, decide_eq_false_iff_not] at hc14
    refine reg ?_
    refine qq hS (g_eql rfl rfl) ?_
    refine qq hS (g_assignv (v := .bool _) rfl) ?_
    refine ol_nil (thenN ?_)
    refine cond_s rfl ?_ ?_
    ·
      intro hc14_2
      try simp only [Bool.and_eq_true, Bool.or_eq_true, Bool.not_eq_true', Bool.and_eq_false_imp, Bool.or_eq_false_iff, Bool.not_eq_false', decide_eq_true_eq, decide_eq_false_iff_not] at hc14_2
      refine regX ?_
      refine qqX hS (g_move _) ?_
      refine qcX Tryd.call48 rfl (numW_c lb _ _ l 3 _ _ hS.imm (own_heap hS (k := 2) rfl) (own_none hS (k := 2) rfl) hl (by decide) hlb) ?_ ?_
      ·
        rintro w_40 ⟨u, hE⟩
        replace hS := hS.callX (k := 2) rfl hE
        refine blkP (thenP ?_)
        exact panE (v0 := shortV) ⟨_, _, _, hS.sel [false, false, true, true]⟩
      rintro _ w_39 ⟨n18, l, aL, cL, rfl, hn18, hE, hl, hlb⟩
      replace hS := hS.callX (k := 2) rfl hE
      refine qqX hS (g_move _) ?_
      refine qcX Tryd.call48 rfl (numW_c lb _ _ l 3 _ _ hS.imm (own_heap hS (k := 2) rfl) (own_none hS (k := 2) rfl) hl (by decide) hlb) ?_ ?_
      ·
        rintro w_42 ⟨u, hE⟩
        replace hS := hS.callX (k := 2) rfl hE
        refine blkP (thenP ?_)
        exact panE (v0 := shortV) ⟨_, _, _, hS.sel [false, false, true, true]⟩
      rintro _ w_41 ⟨n20, l, aL, cL, rfl, hn20, hE, hl, hlb⟩
      replace hS := hS.callX (k := 2) rfl hE
      refine qqX hS (g_fieldAddr (o' := 1) Tryd.underlying53 rfl Tryd.sizeOf3 rfl rfl rfl) ?_
      refine qeX (d_store 0 hS Tryd.sizeOf3 rfl rfl rfl (vs := [.int .i64 _]) rfl rfl rfl (Nat.le_of_ble_eq_true rfl) (cs' := [_, _, _, _, _]) rfl) ?_
      clear hS
      rintro _ w_43 ⟨rfl, hS⟩
      refine qqX hS (g_fieldAddr (o' := 2) Tryd.underlying53 rfl Tryd.sizeOf3 rfl rfl rfl) ?_
      refine qeX (d_store 0 hS Tryd.sizeOf3 rfl rfl rfl (vs := [.int .i64 _]) rfl rfl rfl (Nat.le_of_ble_eq_true rfl) (cs' := [_, _, _, _, _]) rfl) ?_
      clear hS
      rintro _ w_44 ⟨rfl, hS⟩
      refine olx_nil (blkN (thenN ?_))
      refine wpIn_seq ?_
      refine wpIn_seq ?_
      refine reg ?_
      refine qq hS (g_fieldAddr (o' := 0) Tryd.underlying53 rfl Tryd.sizeOf3 rfl rfl rfl) ?_
      refine qq hS (g_ldO1 0 Tryd.isAgg3 rfl rfl rfl) ?_
      refine qq hS (g_eql rfl rfl) ?_
      refine qq hS (g_movev (v := .bool _) rfl) ?_
      refine qu rfl rfl hS (fun hg => (g_fieldAddr (o' := 0) Tryd.underlying53 rfl Tryd.sizeOf3 rfl rfl rfl)) ?_
      intro u36 hu36 hn36
      refine qu rfl rfl hS (fun hg => (g_ldO1 0 Tryd.isAgg3 rfl (hu36 hg) rfl)) ?_
      intro u37 hu37 hn37
      refine qu rfl rfl hS (fun hg => (g_eql (hu37 hg) rfl)) ?_
      intro u38 hu38 hn38
      refine qq hS (g_or rfl rfl (fun hq => hu38 hq)) ?_
      refine ol_nil (thenN ?_)
      refine cond_s rfl ?_ ?_
      ·
        intro hc39
        clear hu36 hn36 hu37 hn37 hu38 hn38
        try simp only [Bool.and_eq_true, Bool.or_eq_true, Bool.not_eq_true', Bool.and_eq_false_imp, Bool.or_eq_false_iff, Bool.not_eq_false', decide_eq_true_eq, decide_eq_false_iff_not] at hc39
        refine regX ?_
        refine qqX hS (g_move _) ?_
        refine qqX hS (g_fieldAddr (o' := 2) Tryd.underlying53 rfl Tryd.sizeOf3 rfl rfl rfl) ?_
        refine qqX hS (g_ldO1 0 Tryd.isAgg3 rfl rfl rfl) ?_
        refine qcX Tryd.call47 rfl (takeW_c db _ _ d _ _ _ hS.imm (own_heap hS (k := 3) rfl) (own_none hS (k := 3) rfl) hd (by omega) hdb) ?_ ?_
        ·
          rintro w_46 ⟨u, hE⟩
          replace hS := hS.callX (k := 3) rfl hE
          refine thenP ?_
          exact panE (v0 := shortV) ⟨_, _, _, hS.sel [false, false, true, true]⟩
        rintro _ w_45 ⟨y, d, a43, c43, a2, c2, rfl, hyl, hE, h43, hyb, hd, hdb⟩
        replace hS := hS.callX (k := 3) rfl hE
        refine qeX (d_call Tryd.call65 rfl (cloneW_c _ _ y _ _ hS.imm h43 (by omega))) ?_
        rintro _ w_47 ⟨I_f, a44, c44, rfl, hE, h44⟩
        replace hS := hS.callE hE
        refine qqX hS (g_fieldAddr (o' := 4) Tryd.underlying53 rfl Tryd.sizeOf25 rfl rfl rfl) ?_
        refine qeX (d_store 0 hS Tryd.sizeOf25 rfl rfl rfl (vs := [.slice _ _ _]) rfl rfl rfl (Nat.le_of_ble_eq_true rfl) (cs' := [_, _, _, _, _]) rfl) ?_
        clear hS
        rintro _ w_48 ⟨rfl, hS⟩
        refine olx_nil (thenN ?_)
        refine wpIn_seq ?_
        refine reg ?_
        refine qq hS (g_ldO 0 (vs := [.int .i64 _, .int .i64 _, .int .i64 _, .int .u8 _, .slice _ _ _]) Tryd.sizeOf53 Tryd.isAgg53 rfl rfl rfl rfl) ?_
        refine qe (d_store 1 hS Tryd.sizeOf53 rfl rfl rfl (vs := [.int .i64 _, .int .i64 _, .int .i64 _, .int .u8 _, .slice _ _ _]) rfl rfl rfl (Nat.le_of_ble_eq_true rfl) (cs' := [_, _, _, _, _]) rfl) ?_
        clear hS
        rintro _ w_49 ⟨rfl, hS⟩
        refine ol_nil (thenN ?_)
        refine wpIn_ret ?_
        refine retE (ret1 Tryd.results50 (rv_cel 1 hS Tryd.sizeOf53 Tryd.isAgg53 rfl rfl rfl) ?_)
        first
          | exact ⟨_, ⟨_, _, _, _, y⟩, a44, y.length, c44, l, _, _, d, _, _, rfl, hS.sel [false, false, true, true], ⟨⟨by dsimp only; omega, by dsimp only; omega⟩, ⟨by dsimp only; omega, by dsimp only; omega⟩, ⟨by dsimp only; omega, by dsimp only; omega⟩, ⟨by dsimp only; omega, by dsimp only; omega⟩, hyb⟩, h44, hl, hlb, hd, hdb⟩
          | exact ⟨_, ⟨_, _, _, _, []⟩, none, 0, 0, l, _, _, d, _, _, rfl, hS.sel [false, false, true, true], ⟨⟨by dsimp only; omega, by dsimp only; omega⟩, ⟨by dsimp only; omega, by dsimp only; omega⟩, ⟨by dsimp only; omega, by dsimp only; omega⟩, ⟨by dsimp only; omega, by dsimp only; omega⟩, fun y hy => by cases hy⟩, RFl.nil, hl, hlb, hd, hdb⟩
          | exact ⟨_, ⟨_, _, _, IntKind.u8.wrap n28, []⟩, none, 0, 0, l, _, _, d, _, _, rfl, hS.sel [false, false, true, true], ⟨⟨by dsimp only; omega, by dsimp only; omega⟩, ⟨by dsimp only; omega, by dsimp only; omega⟩, ⟨by dsimp only; omega, by dsimp only; omega⟩, (by show 0 ≤ IntKind.u8.wrap n28 ∧ IntKind.u8.wrap n28 ≤ 255; rw [IntKind.wrap_u8]; omega), fun y hy => by cases hy⟩, RFl.nil, hl, hlb, hd, hdb⟩
          | exact ⟨_, ⟨_, _, _, IntKind.u8.wrap n28, y⟩, a44, y.length, c44, l, _, _, d, _, _, rfl, hS.sel [false, false, true, true], ⟨⟨by dsimp only; omega, by dsimp only; omega⟩, ⟨by dsimp only; omega, by dsimp only; omega⟩, ⟨by dsimp only; omega, by dsimp only; omega⟩, (by show 0 ≤ IntKind.u8.wrap n28 ∧ IntKind.u8.wrap n28 ≤ 255; rw [IntKind.wrap_u8]; omega), hyb⟩, h44, hl, hlb, hd, hdb⟩
      ·
        intro hc39
        clear hu36 hn36 hu37 hn37 hu38 hn38
        try simp only [Bool.and_eq_true, Bool.or_eq_true, Bool.not_eq_true', Bool.and_eq_false_imp, Bool.or_eq_false_iff, Bool.not_eq_false', decide_eq_true_eq, decide_eq_false_iff_not] at hc39
        refine wpIn_skip ?_
        refine thenN ?_
        refine wpIn_seq ?_
        refine reg ?_
        refine qq hS (g_ldO 0 (vs := [.int .i64 _, .int .i64 _, .int .i64 _, .int .u8 _, .slice _ _ _]) Tryd.sizeOf53 Tryd.isAgg53 rfl rfl rfl rfl) ?_
        refine qe (d_store 1 hS Tryd.sizeOf53 rfl rfl rfl (vs := [.int .i64 _, .int .i64 _, .int .i64 _, .int .u8 _, .slice _ _ _]) rfl rfl rfl (Nat.le_of_ble_eq_true rfl) (cs' := [_, _, _, _, _]) rfl) ?_
        clear hS
        rintro _ w_50 ⟨rfl, hS⟩
        refine ol_nil (thenN ?_)
        refine wpIn_ret ?_
        refine retE (ret1 Tryd.results50 (rv_cel 1 hS Tryd.sizeOf53 Tryd.isAgg53 rfl rfl rfl) ?_)
        first
          | exact ⟨_, ⟨_, _, _, _, y⟩, a44, y.length, c44, l, _, _, d, _, _, rfl, hS.sel [false, false, true, true], ⟨⟨by dsimp only; omega, by dsimp only; omega⟩, ⟨by dsimp only; omega, by dsimp only; omega⟩, ⟨by dsimp only; omega, by dsimp only; omega⟩, ⟨by dsimp only; omega, by dsimp only; omega⟩, hyb⟩, h44, hl, hlb, hd, hdb⟩
          | exact ⟨_, ⟨_, _, _, _, []⟩, none, 0, 0, l, _, _, d, _, _, rfl, hS.sel [false, false, true, true], ⟨⟨by dsimp only; omega, by dsimp only; omega⟩, ⟨by dsimp only; omega, by dsimp only; omega⟩, ⟨by dsimp only; omega, by dsimp only; omega⟩, ⟨by dsimp only; omega, by dsimp only; omega⟩, fun y hy => by cases hy⟩, RFl.nil, hl, hlb, hd, hdb⟩
          | exact ⟨_, ⟨_, _, _, IntKind.u8.wrap n28, []⟩, none, 0, 0, l, _, _, d, _, _, rfl, hS.sel [false, false, true, true], ⟨⟨by dsimp only; omega, by dsimp only; omega⟩, ⟨by dsimp only; omega, by dsimp only; omega⟩, ⟨by dsimp only; omega, by dsimp only; omega⟩, (by show 0 ≤ IntKind.u8.wrap n28 ∧ IntKind.u8.wrap n28 ≤ 255; rw [IntKind.wrap_u8]; omega), fun y hy => by cases hy⟩, RFl.nil, hl, hlb, hd, hdb⟩
          | exact ⟨_, ⟨_, _, _, IntKind.u8.wrap n28, y⟩, a44, y.length, c44, l, _, _, d, _, _, rfl, hS.sel [false, false, true, true], ⟨⟨by dsimp only; omega, by dsimp only; omega⟩, ⟨by dsimp only; omega, by dsimp only; omega⟩, ⟨by dsimp only; omega, by dsimp only; omega⟩, (by show 0 ≤ IntKind.u8.wrap n28 ∧ IntKind.u8.wrap n28 ≤ 255; rw [IntKind.wrap_u8]; omega), hyb⟩, h44, hl, hlb, hd, hdb⟩
    ·
      intro hc14_2
      try simp only [Bool.and_eq_true, Bool.or_eq_true, Bool.not_eq_true', Bool.and_eq_false_imp, Bool.or_eq_false_iff, Bool.not_eq_false', decide_eq_true_eq, decide_eq_false_iff_not] at hc14_2
      refine wpIn_seq ?_
      refine reg ?_
      refine qq hS (g_eql rfl rfl) ?_
      refine qq hS (g_assignv (v := .bool _) rfl) ?_
      refine ol_nil (thenN ?_)
      refine cond_s rfl ?_ ?_
      ·
        intro hc23
        try simp only [Bool.and_eq_true, Bool.or_eq_true, Bool.not_eq_true', Bool.and_eq_false_imp, Bool.or_eq_false_iff, Bool.not_eq_false', decide_eq_true_eq, decide_eq_false_iff_not] at hc23
        refine regX ?_
        refine qqX hS (g_move _) ?_
        refine qcX Tryd.call48 rfl (numW_c lb _ _ l 3 _ _ hS.imm (own_heap hS (k := 2) rfl) (own_none hS (k := 2) rfl) hl (by decide) hlb) ?_ ?_
        ·
          rintro w_52 ⟨u, hE⟩
          replace hS := hS.callX (k := 2) rfl hE
          refine blkP (thenP ?_)
          exact panE (v0 := shortV) ⟨_, _, _, hS.sel [false, false, true, true]⟩
        rintro _ w_51 ⟨n26, l, aL, cL, rfl, hn26, hE, hl, hlb⟩
        replace hS := hS.callX (k := 2) rfl hE
        refine qqX hS (g_move _) ?_
        refine qcX Tryd.call48 rfl (numW_c lb _ _ l 1 _ _ hS.imm (own_heap hS (k := 2) rfl) (own_none hS (k := 2) rfl) hl (by decide) hlb) ?_ ?_
        ·
          rintro w_54 ⟨u, hE⟩
          replace hS := hS.callX (k := 2) rfl hE
          refine blkP (thenP ?_)
          exact panE (v0 := shortV) ⟨_, _, _, hS.sel [false, false, true, true]⟩
        rintro _ w_53 ⟨n28, l, aL, cL, rfl, hn28, hE, hl, hlb⟩
        replace hS := hS.callX (k := 2) rfl hE
        refine qqX hS (g_convu Tryd.underlying3 Tryd.underlying5 rfl rfl) ?_
        refine qqX hS (g_fieldAddr (o' := 2) Tryd.underlying53 rfl Tryd.sizeOf3 rfl rfl rfl) ?_
        refine qeX (d_store 0 hS Tryd.sizeOf3 rfl rfl rfl (vs := [.int .i64 _]) rfl rfl rfl (Nat.le_of_ble_eq_true rfl) (cs' := [_, _, _, _, _]) rfl) ?_
        clear hS
        rintro _ w_55 ⟨rfl, hS⟩
        refine qqX hS (g_fieldAddr (o' := 3) Tryd.underlying53 rfl Tryd.sizeOf5 rfl rfl rfl) ?_
        refine qeX (d_store 0 hS Tryd.sizeOf5 rfl rfl rfl (vs := [.int .u8 _]) rfl rfl rfl (Nat.le_of_ble_eq_true rfl) (cs' := [_, _, _, _, _]) rfl) ?_
        clear hS
        rintro _ w_56 ⟨rfl, hS⟩
        refine olx_nil (blkN (thenN ?_))
        refine wpIn_seq ?_
        refine wpIn_seq ?_
        refine reg ?_
        refine qq hS (g_fieldAddr (o' := 0) Tryd.underlying53 rfl Tryd.sizeOf3 rfl rfl rfl) ?_
        refine qq hS (g_ldO1 0 Tryd.isAgg3 rfl rfl rfl) ?_
        refine qq hS (g_eql rfl rfl) ?_
        refine qq hS (g_movev (v := .bool _) rfl) ?_
        refine qu rfl rfl hS (fun hg => (g_fieldAddr (o' := 0) Tryd.underlying53 rfl Tryd.sizeOf3 rfl rfl rfl)) ?_
        intro u36 hu36 hn36
        refine qu rfl rfl hS (fun hg => (g_ldO1 0 Tryd.isAgg3 rfl (hu36 hg) rfl)) ?_
        intro u37 hu37 hn37
        refine qu rfl rfl hS (fun hg => (g_eql (hu37 hg) rfl)) ?_
        intro u38 hu38 hn38
        refine qq hS (g_or rfl rfl (fun hq => hu38 hq)) ?_
        refine ol_nil (thenN ?_)
        refine cond_s rfl ?_ ?_
        ·
          intro hc39
          clear hu36 hn36 hu37 hn37 hu38 hn38
          try simp only [Bool.and_eq_true, Bool.or_eq_true, Bool.not_eq_true', Bool.and_eq_false_imp, Bool.or_eq_false_iff, Bool.not_eq_false', decide_eq_true_eq, decide_eq_false_iff_not] at hc39
          refine regX ?_
          refine qqX hS (g_move _) ?_
          refine qqX hS (g_fieldAddr (o' := 2) Tryd.underlying53 rfl Tryd.sizeOf3 rfl rfl rfl) ?_
          refine qqX hS (g_ldO1 0 Tryd.isAgg3 rfl rfl rfl) ?_
          refine qcX Tryd.call47 rfl (takeW_c db _ _ d _ _ _ hS.imm (own_heap hS (k := 3) rfl) (own_none hS (k := 3) rfl) hd (by omega) hdb) ?_ ?_
          ·
            rintro w_58 ⟨u, hE⟩
            replace hS := hS.callX (k := 3) rfl hE
            refine thenP ?_
            exact panE (v0 := shortV) ⟨_, _, _, hS.sel [false, false, true, true]⟩
          rintro _ w_57 ⟨y, d, a43, c43, a2, c2, rfl, hyl, hE, h43, hyb, hd, hdb⟩
          replace hS := hS.callX (k := 3) rfl hE
          refine qeX (d_call Tryd.call65 rfl (cloneW_c _ _ y _ _ hS.imm h43 (by omega))) ?_
          rintro _ w_59 ⟨I_f, a44, c44, rfl, hE, h44⟩
          replace hS := hS.callE hE
          refine qqX hS (g_fieldAddr (o' := 4) Tryd.underlying53 rfl Tryd.sizeOf25 rfl rfl rfl) ?_
          refine qeX (d_store 0 hS Tryd.sizeOf25 rfl rfl rfl (vs := [.slice _ _ _]) rfl rfl rfl (Nat.le_of_ble_eq_true rfl) (cs' := [_, _, _, _, _]) rfl) ?_
          clear hS
          rintro _ w_60 ⟨rfl, hS⟩
          refine olx_nil (thenN ?_)
          refine wpIn_seq ?_
          refine reg ?_
          refine qq hS (g_ldO 0 (vs := [.int .i64 _, .int .i64 _, .int .i64 _, .int .u8 _, .slice _ _ _]) Tryd.sizeOf53 Tryd.isAgg53 rfl rfl rfl rfl) ?_
          refine qe (d_store 1 hS Tryd.sizeOf53 rfl rfl rfl (vs := [.int .i64 _, .int .i64 _, .int .i64 _, .int .u8 _, .slice _ _ _]) rfl rfl rfl (Nat.le_of_ble_eq_true rfl) (cs' := [_, _, _, _, _]) rfl) ?_
          clear hS
          rintro _ w_61 ⟨rfl, hS⟩
          refine ol_nil (thenN ?_)
          refine wpIn_ret ?_
          refine retE (ret1 Tryd.results50 (rv_cel 1 hS Tryd.sizeOf53 Tryd.isAgg53 rfl rfl rfl) ?_)
          first
            | exact ⟨_, ⟨_, _, _, _, y⟩, a44, y.length, c44, l, _, _, d, _, _, rfl, hS.sel [false, false, true, true], ⟨⟨by dsimp only; omega, by dsimp only; omega⟩, ⟨by dsimp only; omega, by dsimp only; omega⟩, ⟨by dsimp only; omega, by dsimp only; omega⟩, ⟨by dsimp only; omega, by dsimp only; omega⟩, hyb⟩, h44, hl, hlb, hd, hdb⟩
            | exact ⟨_, ⟨_, _, _, _, []⟩, none, 0, 0, l, _, _, d, _, _, rfl, hS.sel [false, false, true, true], ⟨⟨by dsimp only; omega, by dsimp only; omega⟩, ⟨by dsimp only; omega, by dsimp only; omega⟩, ⟨by dsimp only; omega, by dsimp only; omega⟩, ⟨by dsimp only; omega, by dsimp only; omega⟩, fun y hy => by cases hy⟩, RFl.nil, hl, hlb, hd, hdb⟩
            | exact ⟨_, ⟨_, _, _, IntKind.u8.wrap n28, []⟩, none, 0, 0, l, _, _, d, _, _, rfl, hS.sel [false, false, true, true], ⟨⟨by dsimp only; omega, by dsimp only; omega⟩, ⟨by dsimp only; omega, by dsimp only; omega⟩, ⟨by dsimp only; omega, by dsimp only; omega⟩, (by show 0 ≤ IntKind.u8.wrap n28 ∧ IntKind.u8.wrap n28 ≤ 255; rw [IntKind.wrap_u8]; omega), fun y hy => by cases hy⟩, RFl.nil, hl, hlb, hd, hdb⟩
            | exact ⟨_, ⟨_, _, _, IntKind.u8.wrap n28, y⟩, a44, y.length, c44, l, _, _, d, _, _, rfl, hS.sel [false, false, true, true], ⟨⟨by dsimp only; omega, by dsimp only; omega⟩, ⟨by dsimp only; omega, by dsimp only; omega⟩, ⟨by dsimp only; omega, by dsimp only; omega⟩, (by show 0 ≤ IntKind.u8.wrap n28 ∧ IntKind.u8.wrap n28 ≤ 255; rw [IntKind.wrap_u8]; omega), hyb⟩, h44, hl, hlb, hd, hdb⟩
        ·
          intro hc39
          clear hu36 hn36 hu37 hn37 hu38 hn38
          try simp only [Bool.and_eq_true, Bool.or_eq_true, Bool.not_eq_true', Bool.and_eq_false_imp, Bool.or_eq_false_iff, Bool.not_eq_false', decide_eq_true_eq, decide_eq_false_iff_not] at hc39
          refine wpIn_skip ?_
          refine thenN ?_
          refine wpIn_seq ?_
          refine reg ?_
          refine qq hS (g_ldO 0 (vs := [.int .i64 _, .int .i64 _, .int .i64 _, .int .u8 _, .slice _ _ _]) Tryd.sizeOf53 Tryd.isAgg53 rfl rfl rfl rfl) ?_
          refine qe (d_store 1 hS Tryd.sizeOf53 rfl rfl rfl (vs := [.int .i64 _, .int .i64 _, .int .i64 _, .int .u8 _, .slice _ _ _]) rfl rfl rfl (Nat.le_of_ble_eq_true rfl) (cs' := [_, _, _, _, _]) rfl) ?_
          clear hS
          rintro _ w_62 ⟨rfl, hS⟩
          refine ol_nil (thenN ?_)
          refine wpIn_ret ?_
          refine retE (ret1 Tryd.results50 (rv_cel 1 hS Tryd.sizeOf53 Tryd.isAgg53 rfl rfl rfl) ?_)
          first
            | exact ⟨_, ⟨_, _, _, _, y⟩, a44, y.length, c44, l, _, _, d, _, _, rfl, hS.sel [false, false, true, true], ⟨⟨by dsimp only; omega, by dsimp only; omega⟩, ⟨by dsimp only; omega, by dsimp only; omega⟩, ⟨by dsimp only; omega, by dsimp only; omega⟩, ⟨by dsimp only; omega, by dsimp only; omega⟩, hyb⟩, h44, hl, hlb, hd, hdb⟩
            | exact ⟨_, ⟨_, _, _, _, []⟩, none, 0, 0, l, _, _, d, _, _, rfl, hS.sel [false, false, true, true], ⟨⟨by dsimp only; omega, by dsimp only; omega⟩, ⟨by dsimp only; omega, by dsimp only; omega⟩, ⟨by dsimp only; omega, by dsimp only; omega⟩, ⟨by dsimp only; omega, by dsimp only; omega⟩, fun y hy => by cases hy⟩, RFl.nil, hl, hlb, hd, hdb⟩
            | exact ⟨_, ⟨_, _, _, IntKind.u8.wrap n28, []⟩, none, 0, 0, l, _, _, d, _, _, rfl, hS.sel [false, false, true, true], ⟨⟨by dsimp only; omega, by dsimp only; omega⟩, ⟨by dsimp only; omega, by dsimp only; omega⟩, ⟨by dsimp only; omega, by dsimp only; omega⟩, (by show 0 ≤ IntKind.u8.wrap n28 ∧ IntKind.u8.wrap n28 ≤ 255; rw [IntKind.wrap_u8]; omega), fun y hy => by cases hy⟩, RFl.nil, hl, hlb, hd, hdb⟩
            | exact ⟨_, ⟨_, _, _, IntKind.u8.wrap n28, y⟩, a44, y.length, c44, l, _, _, d, _, _, rfl, hS.sel [false, false, true, true], ⟨⟨by dsimp only; omega, by dsimp only; omega⟩, ⟨by dsimp only; omega, by dsimp only; omega⟩, ⟨by dsimp only; omega, by dsimp only; omega⟩, (by show 0 ≤ IntKind.u8.wrap n28 ∧ IntKind.u8.wrap n28 ≤ 255; rw [IntKind.wrap_u8]; omega), hyb⟩, h44, hl, hlb, hd, hdb⟩
      ·
        intro hc23
        try simp only [Bool.and_eq_true, Bool.or_eq_true, Bool.not_eq_true', Bool.and_eq_false_imp, Bool.or_eq_false_iff, Bool.not_eq_false', decide_eq_true_eq, decide_eq_false_iff_not] at hc23
        refine regX ?_
        refine qqX hS (g_move _) ?_
        refine qcX Tryd.call48 rfl (numW_c lb _ _ l 3 _ _ hS.imm (own_heap hS (k := 2) rfl) (own_none hS (k := 2) rfl) hl (by decide) hlb) ?_ ?_
        ·
          rintro w_64 ⟨u, hE⟩
          replace hS := hS.callX (k := 2) rfl hE
          refine blkP (thenP ?_)
          exact panE (v0 := shortV) ⟨_, _, _, hS.sel [false, false, true, true]⟩
        rintro _ w_63 ⟨n12, l, aL, cL, rfl, hn12, hE, hl, hlb⟩
        replace hS := hS.callX (k := 2) rfl hE
        refine qqX hS (g_fieldAddr (o' := 2) Tryd.underlying53 rfl Tryd.sizeOf3 rfl rfl rfl) ?_
        refine qeX (d_store 0 hS Tryd.sizeOf3 rfl rfl rfl (vs := [.int .i64 _]) rfl rfl rfl (Nat.le_of_ble_eq_true rfl) (cs' := [_, _, _, _, _]) rfl) ?_
        clear hS
        rintro _ w_65 ⟨rfl, hS⟩
        refine olx_nil (blkN (thenN ?_))
        refine wpIn_seq ?_
        refine wpIn_seq ?_
        refine reg ?_
        refine qq hS (g_fieldAddr (o' := 0) Tryd.underlying53 rfl Tryd.sizeOf3 rfl rfl rfl) ?_
        refine qq hS (g_ldO1 0 Tryd.isAgg3 rfl rfl rfl) ?_
        refine qq hS (g_eql rfl rfl) ?_
        refine qq hS (g_movev (v := .bool _) rfl) ?_
        refine qu rfl rfl hS (fun hg => (g_fieldAddr (o' := 0) Tryd.underlying53 rfl Tryd.sizeOf3 rfl rfl rfl)) ?_
        intro u36 hu36 hn36
        refine qu rfl rfl hS (fun hg => (g_ldO1 0 Tryd.isAgg3 rfl (hu36 hg) rfl)) ?_
        intro u37 hu37 hn37
        refine qu rfl rfl hS (fun hg => (g_eql (hu37 hg) rfl)) ?_
        intro u38 hu38 hn38
        refine qq hS (g_or rfl rfl (fun hq => hu38 hq)) ?_
        refine ol_nil (thenN ?_)
        refine cond_s rfl ?_ ?_
        ·
          intro hc39
          clear hu36 hn36 hu37 hn37 hu38 hn38
          try simp only [Bool.and_eq_true, Bool.or_eq_true, Bool.not_eq_true', Bool.and_eq_false_imp, Bool.or_eq_false_iff, Bool.not_eq_false', decide_eq_true_eq, decide_eq_false_iff_not] at hc39
          refine regX ?_
          refine qqX hS (g_move _) ?_
          refine qqX hS (g_fieldAddr (o' := 2) Tryd.underlying53 rfl Tryd.sizeOf3 rfl rfl rfl) ?_
          refine qqX hS (g_ldO1 0 Tryd.isAgg3 rfl rfl rfl) ?_
          refine qcX Tryd.call47 rfl (takeW_c db _ _ d _ _ _ hS.imm (own_heap hS (k := 3) rfl) (own_none hS (k := 3) rfl) hd (by omega) hdb) ?_ ?_
          ·
            rintro w_67 ⟨u, hE⟩
            replace hS := hS.callX (k := 3) rfl hE
            refine thenP ?_
            exact panE (v0 := shortV) ⟨_, _, _, hS.sel [false, false, true, true]⟩
          rintro _ w_66 ⟨y, d, a43, c43, a2, c2, rfl, hyl, hE, h43, hyb, hd, hdb⟩
          replace hS := hS.callX (k := 3) rfl hE
          refine qeX (d_call Tryd.call65 rfl (cloneW_c _ _ y _ _ hS.imm h43 (by omega))) ?_
          rintro _ w_68 ⟨I_f, a44, c44, rfl, hE, h44⟩
          replace hS := hS.callE hE
          refine qqX hS (g_fieldAddr (o' := 4) Tryd.underlying53 rfl Tryd.sizeOf25 rfl rfl rfl) ?_
          refine qeX (d_store 0 hS Tryd.sizeOf25 rfl rfl rfl (vs := [.slice _ _ _]) rfl rfl rfl (Nat.le_of_ble_eq_true rfl) (cs' := [_, _, _, _, _]) rfl) ?_
          clear hS
          rintro _ w_69 ⟨rfl, hS⟩
          refine olx_nil (thenN ?_)
          refine wpIn_seq ?_
          refine reg ?_
          refine qq hS (g_ldO 0 (vs := [.int .i64 _, .int .i64 _, .int .i64 _, .int .u8 _, .slice _ _ _]) Tryd.sizeOf53 Tryd.isAgg53 rfl rfl rfl rfl) ?_
          refine qe (d_store 1 hS Tryd.sizeOf53 rfl rfl rfl (vs := [.int .i64 _, .int .i64 _, .int .i64 _, .int .u8 _, .slice _ _ _]) rfl rfl rfl (Nat.le_of_ble_eq_true rfl) (cs' := [_, _, _, _, _]) rfl) ?_
          clear hS
          rintro _ w_70 ⟨rfl, hS⟩
          refine ol_nil (thenN ?_)
          refine wpIn_ret ?_
          refine retE (ret1 Tryd.results50 (rv_cel 1 hS Tryd.sizeOf53 Tryd.isAgg53 rfl rfl rfl) ?_)
          first
            | exact ⟨_, ⟨_, _, _, _, y⟩, a44, y.length, c44, l, _, _, d, _, _, rfl, hS.sel [false, false, true, true], ⟨⟨by dsimp only; omega, by dsimp only; omega⟩, ⟨by dsimp only; omega, by dsimp only; omega⟩, ⟨by dsimp only; omega, by dsimp only; omega⟩, ⟨by dsimp only; omega, by dsimp only; omega⟩, hyb⟩, h44, hl, hlb, hd, hdb⟩
            | exact ⟨_, ⟨_, _, _, _, []⟩, none, 0, 0, l, _, _, d, _, _, rfl, hS.sel [false, false, true, true], ⟨⟨by dsimp only; omega, by dsimp only; omega⟩, ⟨by dsimp only; omega, by dsimp only; omega⟩, ⟨by dsimp only; omega, by dsimp only; omega⟩, ⟨by dsimp only; omega, by dsimp only; omega⟩, fun y hy => by cases hy⟩, RFl.nil, hl, hlb, hd, hdb⟩
            | exact ⟨_, ⟨_, _, _, IntKind.u8.wrap n28, []⟩, none, 0, 0, l, _, _, d, _, _, rfl, hS.sel [false, false, true, true], ⟨⟨by dsimp only; omega, by dsimp only; omega⟩, ⟨by dsimp only; omega, by dsimp only; omega⟩, ⟨by dsimp only; omega, by dsimp only; omega⟩, (by show 0 ≤ IntKind.u8.wrap n28 ∧ IntKind.u8.wrap n28 ≤ 255; rw [IntKind.wrap_u8]; omega), fun y hy => by cases hy⟩, RFl.nil, hl, hlb, hd, hdb⟩
            | exact ⟨_, ⟨_, _, _, IntKind.u8.wrap n28, y⟩, a44, y.length, c44, l, _, _, d, _, _, rfl, hS.sel [false, false, true, true], ⟨⟨by dsimp only; omega, by dsimp only; omega⟩, ⟨by dsimp only; omega, by dsimp only; omega⟩, ⟨by dsimp only; omega, by dsimp only; omega⟩, (by show 0 ≤ IntKind.u8.wrap n28 ∧ IntKind.u8.wrap n28 ≤ 255; rw [IntKind.wrap_u8]; omega), hyb⟩, h44, hl, hlb, hd, hdb⟩
        ·
          intro hc39
          clear hu36 hn36 hu37 hn37 hu38 hn38
          try simp only [Bool.and_eq_true, Bool.or_eq_true, Bool.not_eq_true', Bool.and_eq_false_imp, Bool.or_eq_false_iff, Bool.not_eq_false', decide_eq_true_eq, decide_eq_false_iff_not] at hc39
          refine wpIn_skip ?_
          refine thenN ?_
          refine wpIn_seq ?_
          refine reg ?_
          refine qq hS (g_ldO 0 (vs := [.int .i64 _, .int .i64 _, .int .i64 _, .int .u8 _, .slice _ _ _]) Tryd.sizeOf53 Tryd.isAgg53 rfl rfl rfl rfl) ?_
          refine qe (d_store 1 hS Tryd.sizeOf53 rfl rfl rfl (vs := [.int .i64 _, .int .i64 _, .int .i64 _, .int .u8 _, .slice _ _ _]) rfl rfl rfl (Nat.le_of_ble_eq_true rfl) (cs' := [_, _, _, _, _]) rfl) ?_
          clear hS
          rintro _ w_71 ⟨rfl, hS⟩
          refine ol_nil (thenN ?_)
          refine wpIn_ret ?_
          refine retE (ret1 Tryd.results50 (rv_cel 1 hS Tryd.sizeOf53 Tryd.isAgg53 rfl rfl rfl) ?_)
          first
            | exact ⟨_, ⟨_, _, _, _, y⟩, a44, y.length, c44, l, _, _, d, _, _, rfl, hS.sel [false, false, true, true], ⟨⟨by dsimp only; omega, by dsimp only; omega⟩, ⟨by dsimp only; omega, by dsimp only; omega⟩, ⟨by dsimp only; omega, by dsimp only; omega⟩, ⟨by dsimp only; omega, by dsimp only; omega⟩, hyb⟩, h44, hl, hlb, hd, hdb⟩
            | exact ⟨_, ⟨_, _, _, _, []⟩, none, 0, 0, l, _, _, d, _, _, rfl, hS.sel [false, false, true, true], ⟨⟨by dsimp only; omega, by dsimp only; omega⟩, ⟨by dsimp only; omega, by dsimp only; omega⟩, ⟨by dsimp only; omega, by dsimp only; omega⟩, ⟨by dsimp only; omega, by dsimp only; omega⟩, fun y hy => by cases hy⟩, RFl.nil, hl, hlb, hd, hdb⟩
            | exact ⟨_, ⟨_, _, _, IntKind.u8.wrap n28, []⟩, none, 0, 0, l, _, _, d, _, _, rfl, hS.sel [false, false, true, true], ⟨⟨by dsimp only; omega, by dsimp only; omega⟩, ⟨by dsimp only; omega, by dsimp only; omega⟩, ⟨by dsimp only; omega, by dsimp only; omega⟩, (by show 0 ≤ IntKind.u8.wrap n28 ∧ IntKind.u8.wrap n28 ≤ 255; rw [IntKind.wrap_u8]; omega), fun y hy => by cases hy⟩, RFl.nil, hl, hlb, hd, hdb⟩
            | exact ⟨_, ⟨_, _, _, IntKind.u8.wrap n28, y⟩, a44, y.length, c44, l, _, _, d, _, _, rfl, hS.sel [false, false, true, true], ⟨⟨by dsimp only; omega, by dsimp only; omega⟩, ⟨by dsimp only; omega, by dsimp only; omega⟩, ⟨by dsimp only; omega, by dsimp only; omega⟩, (by show 0 ≤ IntKind.u8.wrap n28 ∧ IntKind.u8.wrap n28 ≤ 255; rw [IntKind.wrap_u8]; omega), hyb⟩, h44, hl, hlb, hd, hdb⟩

set_option maxHeartbeats 2000000 in
theorem readW_c (bb : List Int) (hbb : Byt bb) (ad : Option Addr) (cap : Nat) (w0 : World) (I0 : Imm) (hI : Sat I0 w0) (hb : RBytes I0 (.slice ad bb.length cap) bb) :
    Ctr Tryd.prog 31 [.slice ad bb.length cap] w0 (fun v w' => ∃ (I' : Imm) (q : PatL) (ok : Bool) (a : Option Addr) (m c : Nat), v = .tuple #[.agg #[.bool q.lifted, .int .i64 q.in_, .int .i64 q.out, .slice a m c], .bool ok] ∧ Ext w0 I0 w' I' ∧ True ∧ (ok = true → ROps I' (.slice a m c) q.ops ∧ q.wf)) := by
  have hll := RSl.le hb
  simp only [maxLen] at hll
  have hl0 := hb
  have hlb := hbb
  obtain ⟨l, hlx⟩ : ∃ l, bb = l := ⟨_, rfl⟩
  rw [hlx] at hl0 hlb
  have hl := hl0
  refine fnD (n := 70) Tryd.func31 rfl rfl rfl ?_
  have hS := St.start hI
  refine wpIn_seq ?_
  refine reg ?_
  refine qe (d_alloc (cs := [.bool _, .int .i64 _, .int .i64 _, .slice _ _ _]) hS Tryd.zeroValue31 rfl) ?_
  clear hS
  rintro _ w_1 ⟨b2, rfl, hS⟩
  refine qe (d_alloc (cs := [.bool _]) hS Tryd.zeroValue4 rfl) ?_
  clear hS
  rintro _ w_2 ⟨b3, rfl, hS⟩
  refine ol_nil (thenN ?_)
  refine wpIn_seq ?_
  refine reg_defer (lc := [.tmp 3]) (cs := [.pointer (some ⟨b3, 0, none⟩)]) rfl rfl rfl ?_
  refine thenN ?_
  refine wpIn_seq ?_
  refine reg ?_
  refine qq hS (g_move _) ?_
  refine qq hS (g_buildv (pl := [(0, 1)]) (cs := [.slice _ _ _]) Tryd.zeroValue106 Tryd.underlying106 (fun w => by simp [Tryd.sizeOf25]) (mp rfl mp0) rfl) ?_
  refine qe (d_box (cs := [.slice _ _ _]) hS rfl) ?_
  clear hS
  rintro _ w_3 ⟨rd, rfl, hS⟩
  refine qq hS (g_assign _) ?_
  refine ol_nil (thenN ?_)
  refine wpIn_seq ?_
  rw [hlx] at hS
  refine regX ?_
  refine qqX hS (g_move _) ?_
  refine qcX Tryd.call47 rfl (takeW_c rd _ _ l 1 _ _ hS.imm (own_heap hS (k := 0) rfl) (own_none hS (k := 0) rfl) hl (by omega) hlb) ?_ ?_
  ·
    rintro w_5 ⟨u, hE⟩
    replace hS := hS.callX (k := 0) rfl hE
    refine thenP ?_
    refine panDf2 (inv46 b3) (readD_pan hS (k := 1) rfl) Tryd.results31 (fun w9 h9 => ⟨_, _, rv_cel 2 h9 Tryd.sizeOf31 Tryd.isAgg31 rfl rfl rfl, rv_cel1 1 h9 Tryd.isAgg4 rfl rfl rfl, ?_⟩)
    exact ⟨_, ⟨_, _, _, []⟩, false, _, _, _, rfl, h9.nil, trivial, fun h => (by cases h)⟩
  rintro _ w_4 ⟨y17, l, a17, c17, aL, cL, rfl, hyl17, hE, h17, hyb17, hl, hlb⟩
  replace hS := hS.callX (k := 0) rfl hE
  refine olx_nil (thenN ?_)
  refine wpIn_seq ?_
  refine regX ?_
  refine qqX hS (g_move _) ?_
  refine qcX Tryd.call48 rfl (numW_c rd _ _ l 1 _ _ hS.imm (own_heap hS (k := 0) rfl) (own_none hS (k := 0) rfl) hl (by decide) hlb) ?_ ?_
  ·
    rintro w_7 ⟨u, hE⟩
    replace hS := hS.callX (k := 0) rfl hE
    refine thenP ?_
    refine panDf2 (inv46 b3) (readD_pan hS (k := 1) rfl) Tryd.results31 (fun w9 h9 => ⟨_, _, rv_cel 2 h9 Tryd.sizeOf31 Tryd.isAgg31 rfl rfl rfl, rv_cel1 1 h9 Tryd.isAgg4 rfl rfl rfl, ?_⟩)
    exact ⟨_, ⟨_, _, _, []⟩, false, _, _, _, rfl, h9.nil, trivial, fun h => (by cases h)⟩
  rintro _ w_6 ⟨n19, l, aL, cL, rfl, hn19, hE, hl, hlb⟩
  replace hS := hS.callX (k := 0) rfl hE
  refine qqX hS (g_eql rfl rfl) ?_
  refine qqX hS (g_fieldAddr (o' := 0) Tryd.underlying31 rfl Tryd.sizeOf4 rfl rfl rfl) ?_
  refine qeX (d_store 2 hS Tryd.sizeOf4 rfl rfl rfl (vs := [.bool _]) rfl rfl rfl (Nat.le_of_ble_eq_true rfl) (cs' := [_, _, _, _]) rfl) ?_
  clear hS
  rintro _ w_8 ⟨rfl, hS⟩
  refine olx_nil (thenN ?_)
  refine wpIn_seq ?_
  refine regX ?_
  refine qqX hS (g_move _) ?_
  refine qcX Tryd.call48 rfl (numW_c rd _ _ l 3 _ _ hS.imm (own_heap hS (k := 0) rfl) (own_none hS (k := 0) rfl) hl (by decide) hlb) ?_ ?_
  ·
    rintro w_10 ⟨u, hE⟩
    replace hS := hS.callX (k := 0) rfl hE
    refine thenP ?_
    refine panDf2 (inv46 b3) (readD_pan hS (k := 1) rfl) Tryd.results31 (fun w9 h9 => ⟨_, _, rv_cel 2 h9 Tryd.sizeOf31 Tryd.isAgg31 rfl rfl rfl, rv_cel1 1 h9 Tryd.isAgg4 rfl rfl rfl, ?_⟩)
    exact ⟨_, ⟨_, _, _, []⟩, false, _, _, _, rfl, h9.nil, trivial, fun h => (by cases h)⟩
  rintro _ w_9 ⟨n23, l, aL, cL, rfl, hn23, hE, hl, hlb⟩
  replace hS := hS.callX (k := 0) rfl hE
  refine qqX hS (g_move _) ?_
  refine qcX Tryd.call48 rfl (numW_c rd _ _ l 3 _ _ hS.imm (own_heap hS (k := 0) rfl) (own_none hS (k := 0) rfl) hl (by decide) hlb) ?_ ?_
  ·
    rintro w_12 ⟨u, hE⟩
    replace hS := hS.callX (k := 0) rfl hE
    refine thenP ?_
    refine panDf2 (inv46 b3) (readD_pan hS (k := 1) rfl) Tryd.results31 (fun w9 h9 => ⟨_, _, rv_cel 2 h9 Tryd.sizeOf31 Tryd.isAgg31 rfl rfl rfl, rv_cel1 1 h9 Tryd.isAgg4 rfl rfl rfl, ?_⟩)
    exact ⟨_, ⟨_, _, _, []⟩, false, _, _, _, rfl, h9.nil, trivial, fun h => (by cases h)⟩
  rintro _ w_11 ⟨n25, l, aL, cL, rfl, hn25, hE, hl, hlb⟩
  replace hS := hS.callX (k := 0) rfl hE
  refine qqX hS (g_fieldAddr (o' := 1) Tryd.underlying31 rfl Tryd.sizeOf3 rfl rfl rfl) ?_
  refine qeX (d_store 2 hS Tryd.sizeOf3 rfl rfl rfl (vs := [.int .i64 _]) rfl rfl rfl (Nat.le_of_ble_eq_true rfl) (cs' := [_, _, _, _]) rfl) ?_
  clear hS
  rintro _ w_13 ⟨rfl, hS⟩
  refine qqX hS (g_fieldAddr (o' := 2) Tryd.underlying31 rfl Tryd.sizeOf3 rfl rfl rfl) ?_
  refine qeX (d_store 2 hS Tryd.sizeOf3 rfl rfl rfl (vs := [.int .i64 _]) rfl rfl rfl (Nat.le_of_ble_eq_true rfl) (cs' := [_, _, _, _]) rfl) ?_
  clear hS
  rintro _ w_14 ⟨rfl, hS⟩
  refine olx_nil (thenN ?_)
  refine wpIn_seq ?_
  refine regX ?_
  refine qqX hS (g_move _) ?_
  refine qcX Tryd.call48 rfl (numW_c rd _ _ l 2 _ _ hS.imm (own_heap hS (k := 0) rfl) (own_none hS (k := 0) rfl) hl (by decide) hlb) ?_ ?_
  ·
    rintro w_16 ⟨u, hE⟩
    replace hS := hS.callX (k := 0) rfl hE
    refine thenP ?_
    refine panDf2 (inv46 b3) (readD_pan hS (k := 1) rfl) Tryd.results31 (fun w9 h9 => ⟨_, _, rv_cel 2 h9 Tryd.sizeOf31 Tryd.isAgg31 rfl rfl rfl, rv_cel1 1 h9 Tryd.isAgg4 rfl rfl rfl, ?_⟩)
    exact ⟨_, ⟨_, _, _, []⟩, false, _, _, _, rfl, h9.nil, trivial, fun h => (by cases h)⟩
  rintro _ w_15 ⟨n29, l, aL, cL, rfl, hn29, hE, hl, hlb⟩
  replace hS := hS.callX (k := 0) rfl hE
  refine qqX hS (g_assignv (v := .int .i64 _) rfl) ?_
  refine olx_nil (thenN ?_)
  refine wpIn_seq ?_
  refine regX ?_
  refine qqX hS (g_move _) ?_
  refine qcX Tryd.call48 rfl (numW_c rd _ _ l 3 _ _ hS.imm (own_heap hS (k := 0) rfl) (own_none hS (k := 0) rfl) hl (by decide) hlb) ?_ ?_
  ·
    rintro w_18 ⟨u, hE⟩
    replace hS := hS.callX (k := 0) rfl hE
    refine thenP ?_
    refine panDf2 (inv46 b3) (readD_pan hS (k := 1) rfl) Tryd.results31 (fun w9 h9 => ⟨_, _, rv_cel 2 h9 Tryd.sizeOf31 Tryd.isAgg31 rfl rfl rfl, rv_cel1 1 h9 Tryd.isAgg4 rfl rfl rfl, ?_⟩)
    exact ⟨_, ⟨_, _, _, []⟩, false, _, _, _, rfl, h9.nil, trivial, fun h => (by cases h)⟩
  rintro _ w_17 ⟨n31, l, aL, cL, rfl, hn31, hE, hl, hlb⟩
  replace hS := hS.callX (k := 0) rfl hE
  refine qqX hS (g_move _) ?_
  refine qcX Tryd.call48 rfl (numW_c rd _ _ l 3 _ _ hS.imm (own_heap hS (k := 0) rfl) (own_none hS (k := 0) rfl) hl (by decide) hlb) ?_ ?_
  ·
    rintro w_20 ⟨u, hE⟩
    replace hS := hS.callX (k := 0) rfl hE
    refine thenP ?_
    refine panDf2 (inv46 b3) (readD_pan hS (k := 1) rfl) Tryd.results31 (fun w9 h9 => ⟨_, _, rv_cel 2 h9 Tryd.sizeOf31 Tryd.isAgg31 rfl rfl rfl, rv_cel1 1 h9 Tryd.isAgg4 rfl rfl rfl, ?_⟩)
    exact ⟨_, ⟨_, _, _, []⟩, false, _, _, _, rfl, h9.nil, trivial, fun h => (by cases h)⟩
  rintro _ w_19 ⟨n33, l, aL, cL, rfl, hn33, hE, hl, hlb⟩
  replace hS := hS.callX (k := 0) rfl hE
  refine qqX hS (g_move _) ?_
  refine qcX Tryd.call48 rfl (numW_c rd _ _ l 3 _ _ hS.imm (own_heap hS (k := 0) rfl) (own_none hS (k := 0) rfl) hl (by decide) hlb) ?_ ?_
  ·
    rintro w_22 ⟨u, hE⟩
    replace hS := hS.callX (k := 0) rfl hE
    refine thenP ?_
    refine panDf2 (inv46 b3) (readD_pan hS (k := 1) rfl) Tryd.results31 (fun w9 h9 => ⟨_, _, rv_cel 2 h9 Tryd.sizeOf31 Tryd.isAgg31 rfl rfl rfl, rv_cel1 1 h9 Tryd.isAgg4 rfl rfl rfl, ?_⟩)
    exact ⟨_, ⟨_, _, _, []⟩, false, _, _, _, rfl, h9.nil, trivial, fun h => (by cases h)⟩
  rintro _ w_21 ⟨n35, l, aL, cL, rfl, hn35, hE, hl, hlb⟩
  replace hS := hS.callX (k := 0) rfl hE
  refine qqX hS (g_move _) ?_
  refine qcX Tryd.call48 rfl (numW_c rd _ _ l 3 _ _ hS.imm (own_heap hS (k := 0) rfl) (own_none hS (k := 0) rfl) hl (by decide) hlb) ?_ ?_
  ·
    rintro w_24 ⟨u, hE⟩
    replace hS := hS.callX (k := 0) rfl hE
    refine thenP ?_
    refine panDf2 (inv46 b3) (readD_pan hS (k := 1) rfl) Tryd.results31 (fun w9 h9 => ⟨_, _, rv_cel 2 h9 Tryd.sizeOf31 Tryd.isAgg31 rfl rfl rfl, rv_cel1 1 h9 Tryd.isAgg4 rfl rfl rfl, ?_⟩)
    exact ⟨_, ⟨_, _, _, []⟩, false, _, _, _, rfl, h9.nil, trivial, fun h => (by cases h)⟩
  rintro _ w_23 ⟨n37, l, aL, cL, rfl, hn37, hE, hl, hlb⟩
  replace hS := hS.callX (k := 0) rfl hE
  refine qqX hS (g_assignv (v := .int .i64 _) rfl) ?_
  refine qqX hS (g_assignv (v := .int .i64 _) rfl) ?_
  refine qqX hS (g_assignv (v := .int .i64 _) rfl) ?_
  refine qqX hS (g_assignv (v := .int .i64 _) rfl) ?_
  refine olx_nil (thenN ?_)
  refine wpIn_seq ?_
  refine wpIn_seq ?_
  refine reg ?_
  refine qq hS (g_move _) ?_
  refine qq hS (g_lenI rfl Tryd.underlying25 hb rfl) ?_
  refine qq hS (g_movev (v := .int .i64 _) rfl) ?_
  refine qq hS (g_add rfl rfl (by omega) (by omega)) ?_
  refine qq hS (g_movev (v := .int .i64 _) rfl) ?_
  refine qq hS (g_add rfl rfl (by omega) (by omega)) ?_
  refine qq hS (g_add rfl rfl (by omega) (by omega)) ?_
  refine qq hS (g_neq rfl rfl) ?_
  refine ol_nil (thenN ?_)
  refine cond_s rfl ?_ ?_
  ·
    intro hc45
    try simp only [Bool.and_eq_true, Bool.or_eq_true, Bool.not_eq_true', Bool.and_eq_false_imp, Bool.or_eq_false_iff, Bool.not_eq_false', decide_eq_true_eq, decide_eq_false_iff_not] at hc45
    refine wpIn_seq ?_
    refine reg ?_
    refine qq hS (g_ldO 2 (vs := [.bool _, .int .i64 _, .int .i64 _, .slice _ _ _]) Tryd.sizeOf31 Tryd.isAgg31 rfl rfl rfl rfl) ?_
    refine qe (d_store 2 hS Tryd.sizeOf31 rfl rfl rfl (vs := [.bool _, .int .i64 _, .int .i64 _, .slice _ _ _]) rfl rfl rfl (Nat.le_of_ble_eq_true rfl) (cs' := [_, _, _, _]) rfl) ?_
    clear hS
    rintro _ w_25 ⟨rfl, hS⟩
    refine qe (d_store 1 hS Tryd.sizeOf4 rfl rfl rfl (vs := [.bool _]) rfl rfl rfl (Nat.le_of_ble_eq_true rfl) (cs' := [_]) rfl) ?_
    clear hS
    rintro _ w_26 ⟨rfl, hS⟩
    refine ol_nil (thenN ?_)
    refine wpIn_ret ?_
    refine thenR ?_
    refine retDf2 (inv46 b3) (fun w => readD_idle b3 w) Tryd.results31 (rv_cel 2 hS Tryd.sizeOf31 Tryd.isAgg31 rfl rfl rfl) (rv_cel1 1 hS Tryd.isAgg4 rfl rfl rfl) ?_
    exact ⟨_, ⟨_, _, _, []⟩, false, _, _, _, rfl, hS.nil, trivial, fun h => (by cases h)⟩
  ·
    intro hc45
    try simp only [Bool.and_eq_true, Bool.or_eq_true, Bool.not_eq_true', Bool.and_eq_false_imp, Bool.or_eq_false_iff, Bool.not_eq_false', decide_eq_true_eq, decide_eq_false_iff_not] at hc45
    refine wpIn_skip ?_
    refine thenN ?_
    refine wpIn_seq ?_
    refine regX ?_
    refine qqX hS (g_move _) ?_
    refine qqX hS (g_movev (v := .int .i64 _) rfl) ?_
    refine qcX Tryd.call47 rfl (takeW_c rd _ _ l _ _ _ hS.imm (own_heap hS (k := 0) rfl) (own_none hS (k := 0) rfl) hl (by omega) hlb) ?_ ?_
    ·
      rintro w_28 ⟨u, hE⟩
      replace hS := hS.callX (k := 0) rfl hE
      refine thenP ?_
      refine panDf2 (inv46 b3) (readD_pan hS (k := 1) rfl) Tryd.results31 (fun w9 h9 => ⟨_, _, rv_cel 2 h9 Tryd.sizeOf31 Tryd.isAgg31 rfl rfl rfl, rv_cel1 1 h9 Tryd.isAgg4 rfl rfl rfl, ?_⟩)
      exact ⟨_, ⟨_, _, _, []⟩, false, _, _, _, rfl, h9.nil, trivial, fun h => (by cases h)⟩
    rintro _ w_27 ⟨y49, l, a49, c49, aL, cL, rfl, hyl49, hE, h49, hyb49, hl, hlb⟩
    replace hS := hS.callX (k := 0) rfl hE
    refine qqX hS (g_movev (v := .int .i64 _) rfl) ?_
    refine qcX Tryd.call49 rfl (decodeW_c mdl1 mdl1_ok adOne adOne_ok 1 (fun w I h => begin1_c w I h) n31 (by omega) _ _ y49 hyb49 _ _ hS.imm h49) ?_ ?_
    ·
      rintro w_30 ⟨I_p, hE⟩
      replace hS := hS.call hE
      refine thenP ?_
      refine panDf2 (inv46 b3) (readD_pan hS (k := 1) rfl) Tryd.results31 (fun w9 h9 => ⟨_, _, rv_cel 2 h9 Tryd.sizeOf31 Tryd.isAgg31 rfl rfl rfl, rv_cel1 1 h9 Tryd.isAgg4 rfl rfl rfl, ?_⟩)
      exact ⟨_, ⟨_, _, _, []⟩, false, _, _, _, rfl, h9.nil, trivial, fun h => (by cases h)⟩
    rintro _ w_29 ⟨I_f, rl, xl, aXl, cXl, rfl, hE, hxl, hxbl⟩
    replace hS := hS.call hE
    replace hl := hl.mono hE.ext
    refine qqX hS (g_assign _) ?_
    refine olx_nil (thenN ?_)
    refine wpIn_seq ?_
    refine regX ?_
    refine qqX hS (g_move _) ?_
    refine qqX hS (g_movev (v := .int .i64 _) rfl) ?_
    refine qcX Tryd.call47 rfl (takeW_c rd _ _ l _ _ _ hS.imm (own_heap hS (k := 1) rfl) (own_none hS (k := 1) rfl) hl (by omega) hlb) ?_ ?_
    ·
      rintro w_32 ⟨u, hE⟩
      replace hS := hS.callX (k := 1) rfl hE
      refine thenP ?_
      refine panDf2 (inv46 b3) (readD_pan hS (k := 2) rfl) Tryd.results31 (fun w9 h9 => ⟨_, _, rv_cel 3 h9 Tryd.sizeOf31 Tryd.isAgg31 rfl rfl rfl, rv_cel1 2 h9 Tryd.isAgg4 rfl rfl rfl, ?_⟩)
      exact ⟨_, ⟨_, _, _, []⟩, false, _, _, _, rfl, h9.nil, trivial, fun h => (by cases h)⟩
    rintro _ w_31 ⟨y54, l, a54, c54, aL, cL, rfl, hyl54, hE, h54, hyb54, hl, hlb⟩
    replace hS := hS.callX (k := 1) rfl hE
    refine qqX hS (g_movev (v := .int .i64 _) rfl) ?_
    refine qcX Tryd.call49 rfl (decodeW_c mdl2 mdl2_ok s2z s2z_ok 2 (fun w I h => begin2_c w I h) n35 (by omega) _ _ y54 hyb54 _ _ hS.imm h54) ?_ ?_
    ·
      rintro w_34 ⟨I_p, hE⟩
      replace hS := hS.call hE
      refine thenP ?_
      refine panDf2 (inv46 b3) (readD_pan hS (k := 2) rfl) Tryd.results31 (fun w9 h9 => ⟨_, _, rv_cel 3 h9 Tryd.sizeOf31 Tryd.isAgg31 rfl rfl rfl, rv_cel1 2 h9 Tryd.isAgg4 rfl rfl rfl, ?_⟩)
      exact ⟨_, ⟨_, _, _, []⟩, false, _, _, _, rfl, h9.nil, trivial, fun h => (by cases h)⟩
    rintro _ w_33 ⟨I_f, rd, xd, aXd, cXd, rfl, hE, hxd, hxbd⟩
    replace hS := hS.call hE
    replace hxl := hxl.mono hE.ext
    refine qqX hS (g_assign _) ?_
    refine olx_nil (thenN ?_)
    refine wpIn_seq ?_
    refine wpIn_seq ?_
    refine reg ?_
    refine qq hS (g_movev (v := .int .i64 _) rfl) ?_
    refine qq hS (g_movev (v := .int .i64 _) rfl) ?_
    refine ol_nil (thenN ?_)
    refine wpIn_block ?_
    refine loop (fun (x : RwW) σ w => okS σ [(2, .pointer (some ⟨b2, 0, none⟩)), (3, .pointer (some ⟨b3, 0, none⟩)), (10, .pointer (some ⟨rl, 0, none⟩)), (11, .pointer (some ⟨rd, 0, none⟩)), (57, .int .i64 n29), (58, .int .i64 x.k)] ∧ ∃ I, St [] w0 I0 I w [.cel rl 106 [.slice x.la x.ll.length x.lc], .cel rd 106 [.slice x.da x.dl.length x.dc], .row (.slice x.a x.k x.c) 53 5 x.k x.css.flatten, .cel b3 4 [.bool false], .cel b2 31 [.bool (decide (n19 = 1)), .int .i64 n23, .int .i64 n25, .slice x.a x.k x.c]] ∧ (x.k : Int) ≤ n29 ∧ x.xs.length = x.k ∧ RBytes I (.slice x.la x.ll.length x.lc) x.ll ∧ Byt x.ll ∧ RBytes I (.slice x.da x.dl.length x.dc) x.dl ∧ Byt x.dl ∧ All2 (ROp I) x.css x.xs ∧ (∀ cs ∈ x.css, cs.length = 5) ∧ ∀ y ∈ x.xs, y.wf) (fun x => n29.toNat - x.k) (⟨0, [], [], none, 0, xl, aXl, cXl, xd, aXd, cXd⟩) ?_ ?_
    ·
      exact ⟨⟨rfl, rfl, rfl, rfl, rfl, rfl, trivial⟩, _, ((hS.sel [true, true, false, true, true]).nilRow 53 5).ord [2, 1, 0, 3, 4], by dsimp only; omega, rfl, hxl, hxbl, hxd, hxbd, All2.nil _, by simp, by simp⟩
    ·
      clear hS
      rintro ⟨k, xs, css, a, c, ll, la, lc, dl, da, dc⟩ σ w_l ⟨hs, I, hS, hk0, hxk, hxl, hllb, hxd, hdlb, hall, hcl, hxw0⟩
      dsimp only at hs hS hk0 hxk hxl hxd hall hcl ⊢
      rw [← upds_self hs]; clear hs
      refine wpIn_seq ?_
      refine reg ?_
      refine qq hS (g_lss rfl rfl) ?_
      refine ol_nil (thenN ?_)
      refine wpIn_seq ?_
      refine cond_s rfl ?_ ?_
      ·
        intro hc59
        try simp only [Bool.and_eq_true, Bool.or_eq_true, Bool.not_eq_true', Bool.and_eq_false_imp, Bool.or_eq_false_iff, Bool.not_eq_false', decide_eq_true_eq, decide_eq_false_iff_not] at hc59
        refine wpIn_skip ?_
        refine thenN ?_
        refine wpIn_seq ?_
        refine wpIn_block ?_
        refine drawE [2, 3] (fun ch w => ch = [{ v := shortV, recovered := false }] ∧ ∃ J, St [] w0 I0 J w [.cel b3 4 [.bool false], .cel b2 31 [.bool (decide (n19 = 1)), .int .i64 n23, .int .i64 n25, .slice a k c]]) [false, false, true, true, true] (.cons 0 .pure (.cons 1 .held (.cons 2 .pure (.cons 3 .pure (.cons 4 .eff (.cons 5 .eff (.cons 6 .bar (.cons 7 .pure (.cons 8 .bar .nil))))))))) mixed (by kernel_rfl) (by kernel_rfl) hS ?_ ?_
        ·
          rintro σ' ch w9 hσ ⟨rfl, J, hS9⟩
          refine blkP (thenP (thenP (blkP (thenP ?_))))
          refine panDf2 (inv46 b3) (readD_pan hS9 (k := 0) rfl) Tryd.results31 (fun w9 h9 => ⟨_, _, rv_cel 1 h9 Tryd.sizeOf31 Tryd.isAgg31 (hσ 2 (by simp)) rfl rfl, rv_cel1 0 h9 Tryd.isAgg4 (hσ 3 (by simp)) rfl rfl, ?_⟩)
          exact ⟨_, ⟨_, _, _, []⟩, false, _, _, _, rfl, h9.nil, trivial, fun h => (by cases h)⟩
        intro w_35 hS
        refine spE rfl (g_fieldAddr (o' := 3) Tryd.underlying31 rfl Tryd.sizeOf29 rfl rfl rfl) ?_
        refine shE rfl (g_ldO1 2 Tryd.isAgg29 rfl rfl rfl) ?_
        refine spE rfl (g_move _) ?_
        refine spE rfl (g_move _) ?_
        have hS0 := hS
        refine scE rfl Tryd.call50 rfl (opW_c rl rd _ _ _ _ ll dl hllb hdlb _ _ _ hxl hxd (St.ownA [_, _] hS)) (fun w' ⟨I', u1, u2, hE⟩ => ⟨rfl, _, (St.callA [_, _] hS hE).sel [false, false, false, true, true]⟩) ?_
        rintro _ w_36 ⟨I_f, x, a64, m64, c64, l2, la2, lc2, d2, da2, dc2, rfl, hE, hxw, h64, hl2, hl2b, hd2, hd2b⟩
        replace hS := St.callA [_, _] hS hE
        replace hl2 := hl2.mono hE.ext
        replace hd2 := hd2.mono hE.ext
        replace hall := hall.mono fun _ _ h => h.mono hE.ext
        refine ⟨_, _, (hS0.sel [false, false, true, true, true]).le hE.ext (List.Sublist.refl _), hS.sel [false, false, true, true, true], ?_⟩
        have hS0 := hS
        refine seE rfl (d_lit (vs := [.agg #[.int .i64 _, .int .i64 _, .int .i64 _, .int .u8 _, .slice _ _ _]]) (cs := [.int .i64 _, .int .i64 _, .int .i64 _, .int .u8 _, .slice _ _ _]) hS Tryd.underlying29 Tryd.sizeOf53 Tryd.zeroValue53 rfl rfl rfl rfl (fun v hv => by simp only [List.mem_cons, List.not_mem_nil, or_false] at hv; subst hv; rfl) rfl) ?_
        rintro _ w_38 ⟨b65, rfl, hS⟩
        refine ⟨_, _, (hS0.sel [false, false, true, true, true]).le (Sub.refl _) (List.sublist_cons_self _ _), hS.sel [true, false, false, true, true, true], ?_⟩
        refine sbE rfl (i_appendO 3 0 hS rfl Tryd.underlying29 info53 rfl rfl rfl rfl rfl rfl rfl rfl (by omega) (by omega)) ?_
        rintro _ w_39 ⟨a66, p66, rfl, hS⟩
        refine ⟨_, _, hS, ?_⟩
        refine spE rfl (g_fieldAddr (o' := 3) Tryd.underlying31 rfl Tryd.sizeOf29 rfl rfl rfl) ?_
        refine sbE rfl (d_store 5 hS Tryd.sizeOf29 rfl rfl rfl (vs := [.slice _ _ _]) rfl rfl rfl (Nat.le_of_ble_eq_true rfl) (cs' := [_, _, _, _]) rfl) ?_
        rintro _ w_40 ⟨rfl, hS⟩
        refine ⟨_, _, hS, ?_⟩
        refine snE (blkN (thenN ?_))
        refine reg ?_
        refine qq hS (g_add rfl rfl (by omega) (by omega)) ?_
        refine qq hS (g_movev (v := .int .i64 _) rfl) ?_
        refine ⟨⟨k + 1, xs ++ [x], css ++ [[.int .i64 x.kind, .int .i64 x.from_, .int .i64 x.len, .int .u8 x.b, .slice a64 m64 c64]], a66, p66, l2, la2, lc2, d2, da2, dc2⟩, _, rfl, ⟨⟨rfl, rfl, rfl, rfl, rfl, rfl, trivial⟩, _, ?_, by dsimp only; omega, by dsimp only; rw [List.length_append, hxk]; rfl, hl2, hl2b, hd2, hd2b, ?_, ?_, ?_⟩, by dsimp only; omega⟩
        · dsimp only
          rw [List.flatten_append, List.flatten_singleton]
          exact hS.ord [1, 2, 3, 4, 5]
        · exact All2.snoc hall ⟨_, _, _, rfl, h64⟩
        · intro cs hcs
          rcases List.mem_append.1 hcs with h | h
          · exact hcl cs h
          · simp only [List.mem_singleton] at h; subst h; rfl
        · intro y hy
          rcases List.mem_append.1 hy with h | h
          · exact hxw0 y h
          · simp only [List.mem_singleton] at h; subst h; exact hxw
      ·
        intro hc59
        try simp only [Bool.and_eq_true, Bool.or_eq_true, Bool.not_eq_true', Bool.and_eq_false_imp, Bool.or_eq_false_iff, Bool.not_eq_false', decide_eq_true_eq, decide_eq_false_iff_not] at hc59
        obtain rfl : (k : Int) = n29 := by omega
        refine wpIn_exit ?_
        refine thenE (thenE (blkE ?_))
        refine thenN ?_
        refine wpIn_seq ?_
        refine reg ?_
        refine qq hS (g_ldO 4 (vs := [.bool _, .int .i64 _, .int .i64 _, .slice _ _ _]) Tryd.sizeOf31 Tryd.isAgg31 rfl rfl rfl rfl) ?_
        refine qe (d_store 4 hS Tryd.sizeOf31 rfl rfl rfl (vs := [.bool _, .int .i64 _, .int .i64 _, .slice _ _ _]) rfl rfl rfl (Nat.le_of_ble_eq_true rfl) (cs' := [_, _, _, _]) rfl) ?_
        clear hS
        rintro _ w_41 ⟨rfl, hS⟩
        refine qe (d_store 3 hS Tryd.sizeOf4 rfl rfl rfl (vs := [.bool _]) rfl rfl rfl (Nat.le_of_ble_eq_true rfl) (cs' := [_]) rfl) ?_
        clear hS
        rintro _ w_42 ⟨rfl, hS⟩
        refine ol_nil (thenN ?_)
        refine wpIn_ret ?_
        refine retDf2 (inv46 b3) (fun w => readD_idle b3 w) Tryd.results31 (rv_cel 4 hS Tryd.sizeOf31 Tryd.isAgg31 rfl rfl rfl) (rv_cel1 3 hS Tryd.isAgg4 rfl rfl rfl) ?_
        obtain ⟨I6, hS3, hI3, ho3⟩ := St.freezeRowR (hS.sel [false, false, true, false, false]) hxk.symm hcl hall
        exact ⟨I6, ⟨_, _, _, xs⟩, true, a, k, c, rfl, hS3, trivial, fun _ => ⟨RSl.mono ho3 (Sub.refl _) fun _ _ h => h.mono hI3, ⟨⟨by dsimp only; omega, by dsimp only; omega⟩, ⟨by dsimp only; omega, by dsimp only; omega⟩, hxw0, by dsimp only; omega⟩⟩⟩

end Go.Proofs.YtdgnojckkjfhfaaDoor

