/- Package pack: an operation is read. Conditions: it is a right one. -/
import Derived.Test.YtdgnojckkjfhfaaDoorRead14
namespace Go.Proofs.YtdgnojckkjfhfaaDoor
open Go Go.RowKit Go.Inl
set_option linter.unusedSimpArgs false
set_option linter.unusedVariables false
/-- What a right operation does not hold. -/
structure OpS (x : OpL) : Prop where
  b : x.kind ≠ 3 → x.b = 0
  from_ : 3 ≤ x.kind → x.from_ = 0
  none : x.kind ≠ 2 → x.kind ≠ 4 → x.data = []
  some : x.kind = 2 ∨ x.kind = 4 → (x.data.length : Int) = x.len
theorem opS_of {x : OpL} {n : Int} (h : rightP x n = true) : OpS x := by
  unfold rightP at h
  split at h
  · simp only [insideP, Bool.and_eq_true, decide_eq_true_eq] at h
    exact ⟨fun _ => h.1.2, fun _ => by omega, fun _ _ => List.length_eq_zero_iff.1 (by omega), fun _ => by omega⟩
  · split at h
    · simp only [insideP, Bool.and_eq_true, decide_eq_true_eq] at h
      exact ⟨fun _ => h.1.2, fun _ => by omega, fun _ _ => by omega, fun _ => h.2⟩
    · split at h
      · simp only [Bool.and_eq_true, decide_eq_true_eq] at h
        exact ⟨fun _ => by omega, fun _ => h.1, fun _ _ => List.length_eq_zero_iff.1 (by omega), fun _ => by omega⟩
      · split at h
        · simp only [Bool.and_eq_true, decide_eq_true_eq] at h
          exact ⟨fun _ => h.1.2, fun _ => h.1.1, fun _ _ => by omega, fun _ => h.2⟩
        · cases h
theorem opV_of {x : OpL} {k f l b : Int} {v : Value} (h1 : k = x.kind) (h2 : f = x.from_) (h3 : l = x.len) (h4 : b = x.b) : Value.agg #[.int .i64 k, .int .i64 f, .int .i64 l, .int .u8 b, v] = .agg #[.int .i64 x.kind, .int .i64 x.from_, .int .i64 x.len, .int .u8 x.b, v] := by subst h1 h2 h3 h4; rfl
theorem numsB_1 (w : Nat) (a : Int) : numsB w [a] = numB w a := by show numB w a ++ [] = _; rw [List.append_nil]
theorem numsB_2 (w : Nat) (a b : Int) : numsB w [a, b] = numB w a ++ numB w b := by show numB w a ++ (numB w b ++ []) = _; rw [List.append_nil]
theorem ol_1 {x : OpL} (h : x.kind = 1 ∨ x.kind = 2) (r : List Int) : opB x ++ r = numB 1 x.kind ++ (numB 3 x.from_ ++ (numB 3 x.len ++ r)) := by unfold opB; rw [if_pos h, numsB_1, numsB_2]; simp only [List.append_assoc]
theorem ol_3 {x : OpL} (h : x.kind = 3) (r : List Int) : opB x ++ r = numB 1 x.kind ++ (numB 3 x.len ++ (numB 1 x.b ++ r)) := by unfold opB; rw [if_neg (by omega), if_pos h, numsB_1, numsB_1, numsB_1]; simp only [List.append_assoc]
theorem ol_4 {x : OpL} (h : x.kind = 4) (r : List Int) : opB x ++ r = numB 1 x.kind ++ (numB 3 x.len ++ r) := by unfold opB; rw [if_neg (by omega), if_neg (by omega), numsB_1, numsB_1]; simp only [List.append_assoc]

set_option maxHeartbeats 1000000 in
theorem op_c (x : OpL) (hG : OpG x) (hsh : OpS x) (rest1 rest2 : List Int) (hr1 : Byt rest1) (lb db : Nat) (la da : Option Addr) (lc dc : Nat) (XX : List Nat) (w0 : World) (I0 : Imm) (hl : RBytes I0 (.slice la (opB x ++ rest1).length lc) (opB x ++ rest1)) (hd : RBytes I0 (.slice da (x.data ++ rest2).length dc) (x.data ++ rest2)) (hS0 : St XX w0 I0 I0 w0 [.cel lb 106 [.slice la (opB x ++ rest1).length lc], .cel db 106 [.slice da (x.data ++ rest2).length dc]]) :
    Ctr Tryd.prog 50 [.pointer (some ⟨lb, 0, none⟩), .pointer (some ⟨db, 0, none⟩)] w0 (fun v w' => ∃ I' a m c a1 c1 a2 c2, v = opV x a m c ∧ St XX w0 I0 I' w' [.cel lb 106 [.slice a1 rest1.length c1], .cel db 106 [.slice a2 rest2.length c2]] ∧ RBytes I' (.slice a m c) x.data ∧ RBytes I0 (.slice a1 rest1.length c1) rest1 ∧ RBytes I0 (.slice a2 rest2.length c2) rest2) := by
  obtain ⟨⟨g1, g2⟩, ⟨g3, g4⟩, ⟨g5, g6⟩, ⟨g7, g8⟩, g9, g10⟩ := hG
  have hsb := hsh.b
  have hsf := hsh.from_
  obtain ⟨t1, ht1⟩ : ∃ t, opB x ++ rest1 = numB 1 x.kind ++ t := ⟨_, by unfold opB; rw [numsB_1, List.append_assoc]⟩
  have hbt : Byt t1 := fun y hy => (byt_app (opB_byt x) hr1) y (by rw [ht1]; exact List.mem_append_right _ hy)
  refine fn (n := 47) Tryd.func50 rfl rfl rfl ?_
  have hS := hS0
  refine wpIn_seq ?_
  refine reg ?_
  refine qe (d_alloc (cs := [.int .i64 _, .int .i64 _, .int .i64 _, .int .u8 _, .slice _ _ _]) hS Tryd.zeroValue53 rfl) ?_
  clear hS
  rintro _ w_1 ⟨b4, rfl, hS⟩
  refine ol_nil (thenN ?_)
  refine wpIn_seq ?_
  refine reg ?_
  refine qq hS (g_move _) ?_
  refine qe (d_call Tryd.call48 rfl (num_c lb _ _ _ 1 x.kind (t1) _ _ hS.imm (own_heap hS (k := 1) rfl) (own_none hS (k := 1) rfl) hl ht1 (by decide) (valC_num1 (by omega)) hbt)) ?_
  rintro _ w_2 ⟨aL, cL, rfl, hE, hsL⟩
  replace hS := hS.callX (k := 1) rfl hE
  refine qq hS (g_buildv (pl := [(0, 1), (1, 1), (2, 1), (3, 1), (4, 1)]) (cs := [.int .i64 _, .int .i64 _, .int .i64 _, .int .u8 _, .slice _ _ _]) Tryd.zeroValue53 Tryd.underlying53 (fun w => by simp [Tryd.sizeOf25, Tryd.sizeOf3, Tryd.sizeOf5]) (mp (v := .int .i64 _) rfl mp0) rfl) ?_
  refine qe (d_alloc (cs := [.int .i64 _, .int .i64 _, .int .i64 _, .int .u8 _, .slice _ _ _]) hS Tryd.zeroValue53 rfl) ?_
  clear hS
  rintro _ w_3 ⟨b5, rfl, hS⟩
  refine qe (d_store 0 hS Tryd.sizeOf53 rfl rfl rfl (vs := [.int .i64 _, .int .i64 _, .int .i64 _, .int .u8 _, .slice _ _ _]) rfl rfl rfl (Nat.le_of_ble_eq_true rfl) (cs' := [_, _, _, _, _]) rfl) ?_
  clear hS
  rintro _ w_4 ⟨rfl, hS⟩
  refine ol_nil (thenN ?_)
  refine wpIn_seq ?_
  refine wpIn_seq ?_
  refine reg ?_
  refine qq hS (g_fieldAddr (o' := 0) Tryd.underlying53 rfl Tryd.sizeOf3 rfl rfl rfl) ?_
  refine qq hS (g_ldO1 0 Tryd.isAgg3 rfl rfl rfl) ?_
  refine ol_nil (thenN ?_)
  refine wpIn_block ?_
  refine wpIn_seq ?_
  refine wpIn_seq ?_
  refine reg ?_
  refine qq hS (g_eql rfl rfl) ?_
  refine qq hS (g_assignv (v := .bool _) rfl) ?_
  refine ol_nil (thenN ?_)
  refine cond_s rfl ?_ ?_
  ·
    intro hc14
    try simp only [Bool.and_eq_true, Bool.or_eq_true, Bool.not_eq_true', Bool.and_eq_false_imp, Bool.or_eq_false_iff, Bool.not_eq_false', decide_eq_true_eq, decide_eq_false_iff_not] at hc14
    refine wpIn_skip ?_
    refine thenN ?_
    refine cond_s rfl ?_ ?_
    ·
      intro hc14_2
      try simp only [Bool.and_eq_true, Bool.or_eq_true, Bool.not_eq_true', Bool.and_eq_false_imp, Bool.or_eq_false_iff, Bool.not_eq_false', decide_eq_true_eq, decide_eq_false_iff_not] at hc14_2
      have hk : x.kind = 1 ∨ x.kind = 2 := by omega
      have ht2 := List.append_cancel_left (ht1.symm.trans (ol_1 hk rest1))
      refine reg ?_
      refine qq hS (g_move _) ?_
      refine qe (d_call Tryd.call48 rfl (num_c lb _ _ _ 3 x.from_ (numB 3 x.len ++ rest1) _ _ hS.imm (own_heap hS (k := 2) rfl) (own_none hS (k := 2) rfl) hsL ht2 (by decide) (valC_num3 (by omega)) (byt_app (numB_byt _ _) hr1))) ?_
      rintro _ w_5 ⟨aL, cL, rfl, hE, hsL⟩
      replace hS := hS.callX (k := 2) rfl hE
      refine qq hS (g_move _) ?_
      refine qe (d_call Tryd.call48 rfl (num_c lb _ _ _ 3 x.len (rest1) _ _ hS.imm (own_heap hS (k := 2) rfl) (own_none hS (k := 2) rfl) hsL rfl (by decide) (valC_num3 (by omega)) hr1)) ?_
      rintro _ w_6 ⟨aL, cL, rfl, hE, hsL⟩
      replace hS := hS.callX (k := 2) rfl hE
      refine qq hS (g_fieldAddr (o' := 1) Tryd.underlying53 rfl Tryd.sizeOf3 rfl rfl rfl) ?_
      refine qe (d_store 0 hS Tryd.sizeOf3 rfl rfl rfl (vs := [.int .i64 _]) rfl rfl rfl (Nat.le_of_ble_eq_true rfl) (cs' := [_, _, _, _, _]) rfl) ?_
      clear hS
      rintro _ w_7 ⟨rfl, hS⟩
      refine qq hS (g_fieldAddr (o' := 2) Tryd.underlying53 rfl Tryd.sizeOf3 rfl rfl rfl) ?_
      refine qe (d_store 0 hS Tryd.sizeOf3 rfl rfl rfl (vs := [.int .i64 _]) rfl rfl rfl (Nat.le_of_ble_eq_true rfl) (cs' := [_, _, _, _, _]) rfl) ?_
      clear hS
      rintro _ w_8 ⟨rfl, hS⟩
      refine ol_nil (blkN (thenN ?_))
      refine wpIn_seq ?_
      refine wpIn_seq ?_
      refine reg ?_
      refine qq hS (g_fieldAddr (o' := 0) Tryd.underlying53 rfl Tryd.sizeOf3 rfl rfl rfl) ?_
      refine qq hS (g_ldO1 0 Tryd.isAgg3 rfl rfl rfl) ?_
      refine qq hS (g_eql rfl rfl) ?_
      refine qq hS (g_movev (v := .bool _) rfl) ?_
      refine qu rfl rfl hS (fun hg => (g_fieldAddr (o' := 0) Tryd.underlying53 rfl Tryd.sizeOf3 rfl rfl rfl)) ?_
      intro u36 hu36 hn36
      refine qu rfl rfl hS (fun hg => (g_ldO1 0 Tryd.isAgg3 rfl (hu36 hg) rfl)) ?_
      intro u37 hu37 hn37
      refine qu rfl rfl hS (fun hg => (g_eql (hu37 hg) rfl)) ?_
      intro u38 hu38 hn38
      refine qq hS (g_or rfl rfl (fun hq => hu38 hq)) ?_
      refine ol_nil (thenN ?_)
      refine cond_s rfl ?_ ?_
      ·
        intro hc39
        clear hu36 hn36 hu37 hn37 hu38 hn38
        try simp only [Bool.and_eq_true, Bool.or_eq_true, Bool.not_eq_true', Bool.and_eq_false_imp, Bool.or_eq_false_iff, Bool.not_eq_false', decide_eq_true_eq, decide_eq_false_iff_not] at hc39
        have hk24 : x.kind = 2 ∨ x.kind = 4 := by first | exact hc39 | omega
        have hdl := hsh.some hk24
        refine reg ?_
        refine qq hS (g_move _) ?_
        refine qq hS (g_fieldAddr (o' := 2) Tryd.underlying53 rfl Tryd.sizeOf3 rfl rfl rfl) ?_
        refine qq hS (g_ldO1 0 Tryd.isAgg3 rfl rfl rfl) ?_
        refine qe (d_call Tryd.call47 rfl (takeD_c db _ _ _ x.data rest2 x.len _ _ hS.imm (own_heap hS (k := 3) rfl) (own_none hS (k := 3) rfl) hd rfl hdl.symm)) ?_
        rintro _ w_9 ⟨a43, c43, a2_, c2_, rfl, hE, h43, hd2⟩
        replace hS := hS.callX (k := 3) rfl hE
        refine qe (d_call Tryd.call65 rfl (clone_c _ _ x.data _ _ hS.imm h43 (by omega) (by omega))) ?_
        rintro _ w_10 ⟨I_f, a44, c44, rfl, hE, h44⟩
        replace hS := hS.callE hE
        refine qq hS (g_fieldAddr (o' := 4) Tryd.underlying53 rfl Tryd.sizeOf25 rfl rfl rfl) ?_
        refine qe (d_store 0 hS Tryd.sizeOf25 rfl rfl rfl (vs := [.slice _ _ _]) rfl rfl rfl (Nat.le_of_ble_eq_true rfl) (cs' := [_, _, _, _, _]) rfl) ?_
        clear hS
        rintro _ w_11 ⟨rfl, hS⟩
        refine ol_nil (thenN ?_)
        refine wpIn_seq ?_
        refine reg ?_
        refine qq hS (g_ldO 0 (vs := [.int .i64 _, .int .i64 _, .int .i64 _, .int .u8 _, .slice _ _ _]) Tryd.sizeOf53 Tryd.isAgg53 rfl rfl rfl rfl) ?_
        refine qe (d_store 1 hS Tryd.sizeOf53 rfl rfl rfl (vs := [.int .i64 _, .int .i64 _, .int .i64 _, .int .u8 _, .slice _ _ _]) rfl rfl rfl (Nat.le_of_ble_eq_true rfl) (cs' := [_, _, _, _, _]) rfl) ?_
        clear hS
        rintro _ w_12 ⟨rfl, hS⟩
        refine ol_nil (thenN ?_)
        refine wpIn_ret ?_
        refine ret1 Tryd.results50 (rv_cel 1 hS Tryd.sizeOf53 Tryd.isAgg53 rfl rfl rfl) ?_
        first
          | exact ⟨_, a44, x.data.length, c44, aL, cL, a2_, c2_, opV_of (by omega) (by omega) (by omega) (by omega), hS.sel [false, false, true, true], h44, hsL, hd2⟩
          | (have hde : x.data ++ rest2 = rest2 := by rw [hdn]; rfl
             rw [hde] at hS hd
             exact ⟨_, none, 0, 0, aL, cL, da, dc, opV_of (by omega) (by omega) (by omega) (by omega), hS.sel [false, false, true, true], (by rw [hdn]; exact RFl.nil), hsL, hd⟩)
      ·
        intro hc39
        clear hu36 hn36 hu37 hn37 hu38 hn38
        try simp only [Bool.and_eq_true, Bool.or_eq_true, Bool.not_eq_true', Bool.and_eq_false_imp, Bool.or_eq_false_iff, Bool.not_eq_false', decide_eq_true_eq, decide_eq_false_iff_not] at hc39
        have hdn := hsh.none (by omega) (by omega)
        refine wpIn_skip ?_
        refine thenN ?_
        refine wpIn_seq ?_
        refine reg ?_
        refine qq hS (g_ldO 0 (vs := [.int .i64 _, .int .i64 _, .int .i64 _, .int .u8 _, .slice _ _ _]) Tryd.sizeOf53 Tryd.isAgg53 rfl rfl rfl rfl) ?_
        refine qe (d_store 1 hS Tryd.sizeOf53 rfl rfl rfl (vs := [.int .i64 _, .int .i64 _, .int .i64 _, .int .u8 _, .slice _ _ _]) rfl rfl rfl (Nat.le_of_ble_eq_true rfl) (cs' := [_, _, _, _, _]) rfl) ?_
        clear hS
        rintro _ w_13 ⟨rfl, hS⟩
        refine ol_nil (thenN ?_)
        refine wpIn_ret ?_
        refine ret1 Tryd.results50 (rv_cel 1 hS Tryd.sizeOf53 Tryd.isAgg53 rfl rfl rfl) ?_
        first
          | exact ⟨_, a44, x.data.length, c44, aL, cL, a2_, c2_, opV_of (by omega) (by omega) (by omega) (by omega), hS.sel [false, false, true, true], h44, hsL, hd2⟩
          | (have hde : x.data ++ rest2 = rest2 := by rw [hdn]; rfl
             rw [hde] at hS hd
             exact ⟨_, none, 0, 0, aL, cL, da, dc, opV_of (by omega) (by omega) (by omega) (by omega), hS.sel [false, false, true, true], (by rw [hdn]; exact RFl.nil), hsL, hd⟩)
    ·
      intro hc14_2
      try simp only [Bool.and_eq_true, Bool.or_eq_true, Bool.not_eq_true', Bool.and_eq_false_imp, Bool.or_eq_false_iff, Bool.not_eq_false', decide_eq_true_eq, decide_eq_false_iff_not] at hc14_2
      refine wpIn_seq ?_
      refine reg ?_
      refine qq hS (g_eql rfl rfl) ?_
      refine qq hS (g_assignv (v := .bool _) rfl) ?_
      refine ol_nil (thenN ?_)
      refine cond_s rfl ?_ ?_
      ·
        intro hc23
        try simp only [Bool.and_eq_true, Bool.or_eq_true, Bool.not_eq_true', Bool.and_eq_false_imp, Bool.or_eq_false_iff, Bool.not_eq_false', decide_eq_true_eq, decide_eq_false_iff_not] at hc23
        have hk : x.kind = 3 := by omega
        have ht2 := List.append_cancel_left (ht1.symm.trans (ol_3 hk rest1))
        have hcb : IntKind.u8.wrap x.b = x.b := by rw [IntKind.wrap_u8]; omega
        refine reg ?_
        refine qq hS (g_move _) ?_
        refine qe (d_call Tryd.call48 rfl (num_c lb _ _ _ 3 x.len (numB 1 x.b ++ rest1) _ _ hS.imm (own_heap hS (k := 2) rfl) (own_none hS (k := 2) rfl) hsL ht2 (by decide) (valC_num3 (by omega)) (byt_app (numB_byt _ _) hr1))) ?_
        rintro _ w_14 ⟨aL, cL, rfl, hE, hsL⟩
        replace hS := hS.callX (k := 2) rfl hE
        refine qq hS (g_move _) ?_
        refine qe (d_call Tryd.call48 rfl (num_c lb _ _ _ 1 x.b (rest1) _ _ hS.imm (own_heap hS (k := 2) rfl) (own_none hS (k := 2) rfl) hsL rfl (by decide) (valC_num1 (by omega)) hr1)) ?_
        rintro _ w_15 ⟨aL, cL, rfl, hE, hsL⟩
        replace hS := hS.callX (k := 2) rfl hE
        refine qq hS (g_convu Tryd.underlying3 Tryd.underlying5 rfl hcb) ?_
        refine qq hS (g_fieldAddr (o' := 2) Tryd.underlying53 rfl Tryd.sizeOf3 rfl rfl rfl) ?_
        refine qe (d_store 0 hS Tryd.sizeOf3 rfl rfl rfl (vs := [.int .i64 _]) rfl rfl rfl (Nat.le_of_ble_eq_true rfl) (cs' := [_, _, _, _, _]) rfl) ?_
        clear hS
        rintro _ w_16 ⟨rfl, hS⟩
        refine qq hS (g_fieldAddr (o' := 3) Tryd.underlying53 rfl Tryd.sizeOf5 rfl rfl rfl) ?_
        refine qe (d_store 0 hS Tryd.sizeOf5 rfl rfl rfl (vs := [.int .u8 _]) rfl rfl rfl (Nat.le_of_ble_eq_true rfl) (cs' := [_, _, _, _, _]) rfl) ?_
        clear hS
        rintro _ w_17 ⟨rfl, hS⟩
        refine ol_nil (blkN (thenN ?_))
        refine wpIn_seq ?_
        refine wpIn_seq ?_
        refine reg ?_
        refine qq hS (g_fieldAddr (o' := 0) Tryd.underlying53 rfl Tryd.sizeOf3 rfl rfl rfl) ?_
        refine qq hS (g_ldO1 0 Tryd.isAgg3 rfl rfl rfl) ?_
        refine qq hS (g_eql rfl rfl) ?_
        refine qq hS (g_movev (v := .bool _) rfl) ?_
        refine qu rfl rfl hS (fun hg => (g_fieldAddr (o' := 0) Tryd.underlying53 rfl Tryd.sizeOf3 rfl rfl rfl)) ?_
        intro u36 hu36 hn36
        refine qu rfl rfl hS (fun hg => (g_ldO1 0 Tryd.isAgg3 rfl (hu36 hg) rfl)) ?_
        intro u37 hu37 hn37
        refine qu rfl rfl hS (fun hg => (g_eql (hu37 hg) rfl)) ?_
        intro u38 hu38 hn38
        refine qq hS (g_or rfl rfl (fun hq => hu38 hq)) ?_
        refine ol_nil (thenN ?_)
        refine cond_s rfl ?_ ?_
        ·
          intro hc39
          clear hu36 hn36 hu37 hn37 hu38 hn38
          try simp only [Bool.and_eq_true, Bool.or_eq_true, Bool.not_eq_true', Bool.and_eq_false_imp, Bool.or_eq_false_iff, Bool.not_eq_false', decide_eq_true_eq, decide_eq_false_iff_not] at hc39
          have hk24 : x.kind = 2 ∨ x.kind = 4 := by first | exact hc39 | omega
          have hdl := hsh.some hk24
          refine reg ?_
          refine qq hS (g_move _) ?_
          refine qq hS (g_fieldAddr (o' := 2) Tryd.underlying53 rfl Tryd.sizeOf3 rfl rfl rfl) ?_
          refine qq hS (g_ldO1 0 Tryd.isAgg3 rfl rfl rfl) ?_
          refine qe (d_call Tryd.call47 rfl (takeD_c db _ _ _ x.data rest2 x.len _ _ hS.imm (own_heap hS (k := 3) rfl) (own_none hS (k := 3) rfl) hd rfl hdl.symm)) ?_
          rintro _ w_18 ⟨a43, c43, a2_, c2_, rfl, hE, h43, hd2⟩
          replace hS := hS.callX (k := 3) rfl hE
          refine qe (d_call Tryd.call65 rfl (clone_c _ _ x.data _ _ hS.imm h43 (by omega) (by omega))) ?_
          rintro _ w_19 ⟨I_f, a44, c44, rfl, hE, h44⟩
          replace hS := hS.callE hE
          refine qq hS (g_fieldAddr (o' := 4) Tryd.underlying53 rfl Tryd.sizeOf25 rfl rfl rfl) ?_
          refine qe (d_store 0 hS Tryd.sizeOf25 rfl rfl rfl (vs := [.slice _ _ _]) rfl rfl rfl (Nat.le_of_ble_eq_true rfl) (cs' := [_, _, _, _, _]) rfl) ?_
          clear hS
          rintro _ w_20 ⟨rfl, hS⟩
          refine ol_nil (thenN ?_)
          refine wpIn_seq ?_
          refine reg ?_
          refine qq hS (g_ldO 0 (vs := [.int .i64 _, .int .i64 _, .int .i64 _, .int .u8 _, .slice _ _ _]) Tryd.sizeOf53 Tryd.isAgg53 rfl rfl rfl rfl) ?_
          refine qe (d_store 1 hS Tryd.sizeOf53 rfl rfl rfl (vs := [.int .i64 _, .int .i64 _, .int .i64 _, .int .u8 _, .slice _ _ _]) rfl rfl rfl (Nat.le_of_ble_eq_true rfl) (cs' := [_, _, _, _, _]) rfl) ?_
          clear hS
          rintro _ w_21 ⟨rfl, hS⟩
          refine ol_nil (thenN ?_)
          refine wpIn_ret ?_
          refine ret1 Tryd.results50 (rv_cel 1 hS Tryd.sizeOf53 Tryd.isAgg53 rfl rfl rfl) ?_
          first
            | exact ⟨_, a44, x.data.length, c44, aL, cL, a2_, c2_, opV_of (by omega) (by omega) (by omega) (by omega), hS.sel [false, false, true, true], h44, hsL, hd2⟩
            | (have hde : x.data ++ rest2 = rest2 := by rw [hdn]; rfl
               rw [hde] at hS hd
               exact ⟨_, none, 0, 0, aL, cL, da, dc, opV_of (by omega) (by omega) (by omega) (by omega), hS.sel [false, false, true, true], (by rw [hdn]; exact RFl.nil), hsL, hd⟩)
        ·
          intro hc39
          clear hu36 hn36 hu37 hn37 hu38 hn38
          try simp only [Bool.and_eq_true, Bool.or_eq_true, Bool.not_eq_true', Bool.and_eq_false_imp, Bool.or_eq_false_iff, Bool.not_eq_false', decide_eq_true_eq, decide_eq_false_iff_not] at hc39
          have hdn := hsh.none (by omega) (by omega)
          refine wpIn_skip ?_
          refine thenN ?_
          refine wpIn_seq ?_
          refine reg ?_
          refine qq hS (g_ldO 0 (vs := [.int .i64 _, .int .i64 _, .int .i64 _, .int .u8 _, .slice _ _ _]) Tryd.sizeOf53 Tryd.isAgg53 rfl rfl rfl rfl) ?_
          refine qe (d_store 1 hS Tryd.sizeOf53 rfl rfl rfl (vs := [.int .i64 _, .int .i64 _, .int .i64 _, .int .u8 _, .slice _ _ _]) rfl rfl rfl (Nat.le_of_ble_eq_true rfl) (cs' := [_, _, _, _, _]) rfl) ?_
          clear hS
          rintro _ w_22 ⟨rfl, hS⟩
          refine ol_nil (thenN ?_)
          refine wpIn_ret ?_
          refine ret1 Tryd.results50 (rv_cel 1 hS Tryd.sizeOf53 Tryd.isAgg53 rfl rfl rfl) ?_
          first
            | exact ⟨_, a44, x.data.length, c44, aL, cL, a2_, c2_, opV_of (by omega) (by omega) (by omega) (by omega), hS.sel [false, false, true, true], h44, hsL, hd2⟩
            | (have hde : x.data ++ rest2 = rest2 := by rw [hdn]; rfl
               rw [hde] at hS hd
               exact ⟨_, none, 0, 0, aL, cL, da, dc, opV_of (by omega) (by omega) (by omega) (by omega), hS.sel [false, false, true, true], (by rw [hdn]; exact RFl.nil), hsL, hd⟩)
      ·
        intro hc23
        try simp only [Bool.and_eq_true, Bool.or_eq_true, Bool.not_eq_true', Bool.and_eq_false_imp, Bool.or_eq_false_iff, Bool.not_eq_false', decide_eq_true_eq, decide_eq_false_iff_not] at hc23
        have hk : x.kind = 4 := by omega
        have ht2 := List.append_cancel_left (ht1.symm.trans (ol_4 hk rest1))
        refine reg ?_
        refine qq hS (g_move _) ?_
        refine qe (d_call Tryd.call48 rfl (num_c lb _ _ _ 3 x.len (rest1) _ _ hS.imm (own_heap hS (k := 2) rfl) (own_none hS (k := 2) rfl) hsL ht2 (by decide) (valC_num3 (by omega)) hr1)) ?_
        rintro _ w_23 ⟨aL, cL, rfl, hE, hsL⟩
        replace hS := hS.callX (k := 2) rfl hE
        refine qq hS (g_fieldAddr (o' := 2) Tryd.underlying53 rfl Tryd.sizeOf3 rfl rfl rfl) ?_
        refine qe (d_store 0 hS Tryd.sizeOf3 rfl rfl rfl (vs := [.int .i64 _]) rfl rfl rfl (Nat.le_of_ble_eq_true rfl) (cs' := [_, _, _, _, _]) rfl) ?_
        clear hS
        rintro _ w_24 ⟨rfl, hS⟩
        refine ol_nil (blkN (thenN ?_))
        refine wpIn_seq ?_
        refine wpIn_seq ?_
        refine reg ?_
        refine qq hS (g_fieldAddr (o' := 0) Tryd.underlying53 rfl Tryd.sizeOf3 rfl rfl rfl) ?_
        refine qq hS (g_ldO1 0 Tryd.isAgg3 rfl rfl rfl) ?_
        refine qq hS (g_eql rfl rfl) ?_
        refine qq hS (g_movev (v := .bool _) rfl) ?_
        refine qu rfl rfl hS (fun hg => (g_fieldAddr (o' := 0) Tryd.underlying53 rfl Tryd.sizeOf3 rfl rfl rfl)) ?_
        intro u36 hu36 hn36
        refine qu rfl rfl hS (fun hg => (g_ldO1 0 Tryd.isAgg3 rfl (hu36 hg) rfl)) ?_
        intro u37 hu37 hn37
        refine qu rfl rfl hS (fun hg => (g_eql (hu37 hg) rfl)) ?_
        intro u38 hu38 hn38
        refine qq hS (g_or rfl rfl (fun hq => hu38 hq)) ?_
        refine ol_nil (thenN ?_)
        refine cond_s rfl ?_ ?_
        ·
          intro hc39
          clear hu36 hn36 hu37 hn37 hu38 hn38
          try simp only [Bool.and_eq_true, Bool.or_eq_true, Bool.not_eq_true', Bool.and_eq_false_imp, Bool.or_eq_false_iff, Bool.not_eq_false', decide_eq_true_eq, decide_eq_false_iff_not] at hc39
          have hk24 : x.kind = 2 ∨ x.kind = 4 := by first | exact hc39 | omega
          have hdl := hsh.some hk24
          refine reg ?_
          refine qq hS (g_move _) ?_
          refine qq hS (g_fieldAddr (o' := 2) Tryd.underlying53 rfl Tryd.sizeOf3 rfl rfl rfl) ?_
          refine qq hS (g_ldO1 0 Tryd.isAgg3 rfl rfl rfl) ?_
          refine qe (d_call Tryd.call47 rfl (takeD_c db _ _ _ x.data rest2 x.len _ _ hS.imm (own_heap hS (k := 3) rfl) (own_none hS (k := 3) rfl) hd rfl hdl.symm)) ?_
          rintro _ w_25 ⟨a43, c43, a2_, c2_, rfl, hE, h43, hd2⟩
          replace hS := hS.callX (k := 3) rfl hE
          refine qe (d_call Tryd.call65 rfl (clone_c _ _ x.data _ _ hS.imm h43 (by omega) (by omega))) ?_
          rintro _ w_26 ⟨I_f, a44, c44, rfl, hE, h44⟩
          replace hS := hS.callE hE
          refine qq hS (g_fieldAddr (o' := 4) Tryd.underlying53 rfl Tryd.sizeOf25 rfl rfl rfl) ?_
          refine qe (d_store 0 hS Tryd.sizeOf25 rfl rfl rfl (vs := [.slice _ _ _]) rfl rfl rfl (Nat.le_of_ble_eq_true rfl) (cs' := [_, _, _, _, _]) rfl) ?_
          clear hS
          rintro _ w_27 ⟨rfl, hS⟩
          refine ol_nil (thenN ?_)
          refine wpIn_seq ?_
          refine reg ?_
          refine qq hS (g_ldO 0 (vs := [.int .i64 _, .int .i64 _, .int .i64 _, .int .u8 _, .slice _ _ _]) Tryd.sizeOf53 Tryd.isAgg53 rfl rfl rfl rfl) ?_
          refine qe (d_store 1 hS Tryd.sizeOf53 rfl rfl rfl (vs := [.int .i64 _, .int .i64 _, .int .i64 _, .int .u8 _, .slice _ _ _]) rfl rfl rfl (Nat.le_of_ble_eq_true rfl) (cs' := [_, _, _, _, _]) rfl) ?_
          clear hS
          rintro _ w_28 ⟨rfl, hS⟩
          refine ol_nil (thenN ?_)
          refine wpIn_ret ?_
          refine ret1 Tryd.results50 (rv_cel 1 hS Tryd.sizeOf53 Tryd.isAgg53 rfl rfl rfl) ?_
          first
            | exact ⟨_, a44, x.data.length, c44, aL, cL, a2_, c2_, opV_of (by omega) (by omega) (by omega) (by omega), hS.sel [false, false, true, true], h44, hsL, hd2⟩
            | (have hde : x.data ++ rest2 = rest2 := by rw [hdn]; rfl
               rw [hde] at hS hd
               exact ⟨_, none, 0, 0, aL, cL, da, dc, opV_of (by omega) (by omega) (by omega) (by omega), hS.sel [false, false, true, true], (by rw [hdn]; exact RFl.nil), hsL, hd⟩)
        ·
          intro hc39
          clear hu36 hn36 hu37 hn37 hu38 hn38
          try simp only [Bool.and_eq_true, Bool.or_eq_true, Bool.not_eq_true', Bool.and_eq_false_imp, Bool.or_eq_false_iff, Bool.not_eq_false', decide_eq_true_eq, decide_eq_false_iff_not] at hc39
          have hdn := hsh.none (by omega) (by omega)
          refine wpIn_skip ?_
          refine thenN ?_
          refine wpIn_seq ?_
          refine reg ?_
          refine qq hS (g_ldO 0 (vs := [.int .i64 _, .int .i64 _, .int .i64 _, .int .u8 _, .slice _ _ _]) Tryd.sizeOf53 Tryd.isAgg53 rfl rfl rfl rfl) ?_
          refine qe (d_store 1 hS Tryd.sizeOf53 rfl rfl rfl (vs := [.int .i64 _, .int .i64 _, .int .i64 _, .int .u8 _, .slice _ _ _]) rfl rfl rfl (Nat.le_of_ble_eq_true rfl) (cs' := [_, _, _, _, _]) rfl) ?_
          clear hS
          rintro _ w_29 ⟨rfl, hS⟩
          refine ol_nil (thenN ?_)
          refine wpIn_ret ?_
          refine ret1 Tryd.results50 (rv_cel 1 hS Tryd.sizeOf53 Tryd.isAgg53 rfl rfl rfl) ?_
          first
            | exact ⟨_, a44, x.data.length, c44, aL, cL, a2_, c2_, opV_of (by omega) (by omega) (by omega) (by omega), hS.sel [false, false, true, true], h44, hsL, hd2⟩
            | (have hde : x.data ++ rest2 = rest2 := by rw [hdn]; rfl
               rw [hde] at hS hd
               exact ⟨_, none, 0, 0, aL, cL, da, dc, opV_of (by omega) (by omega) (by omega) (by omega), hS.sel [false, false, true, true], (by rw [hdn]; exact RFl.nil), hsL, hd⟩)
  ·
    intro hc14
    try simp only [Bool.and_eq_true, Bool.or_eq_true, Bool.not_eq_true', Bool.and_eq_false_imp, Bool.or_eq_false_iff, Bool.not_eq_false', decide_eq_true_eq, decide_eq_false_iff_not] at hc14
    refine reg ?_
    refine qq hS (g_eql rfl rfl) ?_
    refine qq hS (g_assignv (v := .bool _) rfl) ?_
    refine ol_nil (thenN ?_)
    refine cond_s rfl ?_ ?_
    ·
      intro hc14_2
      try simp only [Bool.and_eq_true, Bool.or_eq_true, Bool.not_eq_true', Bool.and_eq_false_imp, Bool.or_eq_false_iff, Bool.not_eq_false', decide_eq_true_eq, decide_eq_false_iff_not] at hc14_2
      have hk : x.kind = 1 ∨ x.kind = 2 := by omega
      have ht2 := List.append_cancel_left (ht1.symm.trans (ol_1 hk rest1))
      refine reg ?_
      refine qq hS (g_move _) ?_
      refine qe (d_call Tryd.call48 rfl (num_c lb _ _ _ 3 x.from_ (numB 3 x.len ++ rest1) _ _ hS.imm (own_heap hS (k := 2) rfl) (own_none hS (k := 2) rfl) hsL ht2 (by decide) (valC_num3 (by omega)) (byt_app (numB_byt _ _) hr1))) ?_
      rintro _ w_30 ⟨aL, cL, rfl, hE, hsL⟩
      replace hS := hS.callX (k := 2) rfl hE
      refine qq hS (g_move _) ?_
      refine qe (d_call Tryd.call48 rfl (num_c lb _ _ _ 3 x.len (rest1) _ _ hS.imm (own_heap hS (k := 2) rfl) (own_none hS (k := 2) rfl) hsL rfl (by decide) (valC_num3 (by omega)) hr1)) ?_
      rintro _ w_31 ⟨aL, cL, rfl, hE, hsL⟩
      replace hS := hS.callX (k := 2) rfl hE
      refine qq hS (g_fieldAddr (o' := 1) Tryd.underlying53 rfl Tryd.sizeOf3 rfl rfl rfl) ?_
      refine qe (d_store 0 hS Tryd.sizeOf3 rfl rfl rfl (vs := [.int .i64 _]) rfl rfl rfl (Nat.le_of_ble_eq_true rfl) (cs' := [_, _, _, _, _]) rfl) ?_
      clear hS
      rintro _ w_32 ⟨rfl, hS⟩
      refine qq hS (g_fieldAddr (o' := 2) Tryd.underlying53 rfl Tryd.sizeOf3 rfl rfl rfl) ?_
      refine qe (d_store 0 hS Tryd.sizeOf3 rfl rfl rfl (vs := [.int .i64 _]) rfl rfl rfl (Nat.le_of_ble_eq_true rfl) (cs' := [_, _, _, _, _]) rfl) ?_
      clear hS
      rintro _ w_33 ⟨rfl, hS⟩
      refine ol_nil (blkN (thenN ?_))
      refine wpIn_seq ?_
      refine wpIn_seq ?_
      refine reg ?_
      refine qq hS (g_fieldAddr (o' := 0) Tryd.underlying53 rfl Tryd.sizeOf3 rfl rfl rfl) ?_
      refine qq hS (g_ldO1 0 Tryd.isAgg3 rfl rfl rfl) ?_
      refine qq hS (g_eql rfl rfl) ?_
      refine qq hS (g_movev (v := .bool _) rfl) ?_
      refine qu rfl rfl hS (fun hg => (g_fieldAddr (o' := 0) Tryd.underlying53 rfl Tryd.sizeOf3 rfl rfl rfl)) ?_
      intro u36 hu36 hn36
      refine qu rfl rfl hS (fun hg => (g_ldO1 0 Tryd.isAgg3 rfl (hu36 hg) rfl)) ?_
      intro u37 hu37 hn37
      refine qu rfl rfl hS (fun hg => (g_eql (hu37 hg) rfl)) ?_
      intro u38 hu38 hn38
      refine qq hS (g_or rfl rfl (fun hq => hu38 hq)) ?_
      refine ol_nil (thenN ?_)
      refine cond_s rfl ?_ ?_
      ·
        intro hc39
        clear hu36 hn36 hu37 hn37 hu38 hn38
        try simp only [Bool.and_eq_true, Bool.or_eq_true, Bool.not_eq_true', Bool.and_eq_false_imp, Bool.or_eq_false_iff, Bool.not_eq_false', decide_eq_true_eq, decide_eq_false_iff_not] at hc39
        have hk24 : x.kind = 2 ∨ x.kind = 4 := by first | exact hc39 | omega
        have hdl := hsh.some hk24
        refine reg ?_
        refine qq hS (g_move _) ?_
        refine qq hS (g_fieldAddr (o' := 2) Tryd.underlying53 rfl Tryd.sizeOf3 rfl rfl rfl) ?_
        refine qq hS (g_ldO1 0 Tryd.isAgg3 rfl rfl rfl) ?_
        refine qe (d_call Tryd.call47 rfl (takeD_c db _ _ _ x.data rest2 x.len _ _ hS.imm (own_heap hS (k := 3) rfl) (own_none hS (k := 3) rfl) hd rfl hdl.symm)) ?_
        rintro _ w_34 ⟨a43, c43, a2_, c2_, rfl, hE, h43, hd2⟩
        replace hS := hS.callX (k := 3) rfl hE
        refine qe (d_call Tryd.call65 rfl (clone_c _ _ x.data _ _ hS.imm h43 (by omega) (by omega))) ?_
        rintro _ w_35 ⟨I_f, a44, c44, rfl, hE, h44⟩
        replace hS := hS.callE hE
        refine qq hS (g_fieldAddr (o' := 4) Tryd.underlying53 rfl Tryd.sizeOf25 rfl rfl rfl) ?_
        refine qe (d_store 0 hS Tryd.sizeOf25 rfl rfl rfl (vs := [.slice _ _ _]) rfl rfl rfl (Nat.le_of_ble_eq_true rfl) (cs' := [_, _, _, _, _]) rfl) ?_
        clear hS
        rintro _ w_36 ⟨rfl, hS⟩
        refine ol_nil (thenN ?_)
        refine wpIn_seq ?_
        refine reg ?_
        refine qq hS (g_ldO 0 (vs := [.int .i64 _, .int .i64 _, .int .i64 _, .int .u8 _, .slice _ _ _]) Tryd.sizeOf53 Tryd.isAgg53 rfl rfl rfl rfl) ?_
        refine qe (d_store 1 hS Tryd.sizeOf53 rfl rfl rfl (vs := [.int .i64 _, .int .i64 _, .int .i64 _, .int .u8 _, .slice _ _ _]) rfl rfl rfl (Nat.le_of_ble_eq_true rfl) (cs' := [_, _, _, _, _]) rfl) ?_
        clear hS
        rintro _ w_37 ⟨rfl, hS⟩
        refine ol_nil (thenN ?_)
        refine wpIn_ret ?_
        refine ret1 Tryd.results50 (rv_cel 1 hS Tryd.sizeOf53 Tryd.isAgg53 rfl rfl rfl) ?_
        first
          | exact ⟨_, a44, x.data.length, c44, aL, cL, a2_, c2_, opV_of (by omega) (by omega) (by omega) (by omega), hS.sel [false, false, true, true], h44, hsL, hd2⟩
          | (have hde : x.data ++ rest2 = rest2 := by rw [hdn]; rfl
             rw [hde] at hS hd
             exact ⟨_, none, 0, 0, aL, cL, da, dc, opV_of (by omega) (by omega) (by omega) (by omega), hS.sel [false, false, true, true], (by rw [hdn]; exact RFl.nil), hsL, hd⟩)
      ·
        intro hc39
        clear hu36 hn36 hu37 hn37 hu38 hn38
        try simp only [Bool.and_eq_true, Bool.or_eq_true, Bool.not_eq_true', Bool.and_eq_false_imp, Bool.or_eq_false_iff, Bool.not_eq_false', decide_eq_true_eq, decide_eq_false_iff_not] at hc39
        have hdn := hsh.none (by omega) (by omega)
        refine wpIn_skip ?_
        refine thenN ?_
        refine wpIn_seq ?_
        refine reg ?_
        refine qq hS (g_ldO 0 (vs := [.int .i64 _, .int .i64 _, .int .i64 _, .int .u8 _, .slice _ _ _]) Tryd.sizeOf53 Tryd.isAgg53 rfl rfl rfl rfl) ?_
        refine qe (d_store 1 hS Tryd.sizeOf53 rfl rfl rfl (vs := [.int .i64 _, .int .i64 _, .int .i64 _, .int .u8 _, .slice _ _ _]) rfl rfl rfl (Nat.le_of_ble_eq_true rfl) (cs' := [_, _, _, _, _]) rfl) ?_
        clear hS
        rintro _ w_38 ⟨rfl, hS⟩
        refine ol_nil (thenN ?_)
        refine wpIn_ret ?_
        refine ret1 Tryd.results50 (rv_cel 1 hS Tryd.sizeOf53 Tryd.isAgg53 rfl rfl rfl) ?_
        first
          | exact ⟨_, a44, x.data.length, c44, aL, cL, a2_, c2_, opV_of (by omega) (by omega) (by omega) (by omega), hS.sel [false, false, true, true], h44, hsL, hd2⟩
          | (have hde : x.data ++ rest2 = rest2 := by rw [hdn]; rfl
             rw [hde] at hS hd
             exact ⟨_, none, 0, 0, aL, cL, da, dc, opV_of (by omega) (by omega) (by omega) (by omega), hS.sel [false, false, true, true], (by rw [hdn]; exact RFl.nil), hsL, hd⟩)
    ·
      intro hc14_2
      try simp only [Bool.and_eq_true, Bool.or_eq_true, Bool.not_eq_true', Bool.and_eq_false_imp, Bool.or_eq_false_iff, Bool.not_eq_false', decide_eq_true_eq, decide_eq_false_iff_not] at hc14_2
      refine wpIn_seq ?_
      refine reg ?_
      refine qq hS (g_eql rfl rfl) ?_
      refine qq hS (g_assignv (v := .bool _) rfl) ?_
      refine ol_nil (thenN ?_)
      refine cond_s rfl ?_ ?_
      ·
        intro hc23
        try simp only [Bool.and_eq_true, Bool.or_eq_true, Bool.not_eq_true', Bool.and_eq_false_imp, Bool.or_eq_false_iff, Bool.not_eq_false', decide_eq_true_eq, decide_eq_false_iff_not] at hc23
        have hk : x.kind = 3 := by omega
        have ht2 := List.append_cancel_left (ht1.symm.trans (ol_3 hk rest1))
        have hcb : IntKind.u8.wrap x.b = x.b := by rw [IntKind.wrap_u8]; omega
        refine reg ?_
        refine qq hS (g_move _) ?_
        refine qe (d_call Tryd.call48 rfl (num_c lb _ _ _ 3 x.len (numB 1 x.b ++ rest1) _ _ hS.imm (own_heap hS (k := 2) rfl) (own_none hS (k := 2) rfl) hsL ht2 (by decide) (valC_num3 (by omega)) (byt_app (numB_byt _ _) hr1))) ?_
        rintro _ w_39 ⟨aL, cL, rfl, hE, hsL⟩
        replace hS := hS.callX (k := 2) rfl hE
        refine qq hS (g_move _) ?_
        refine qe (d_call Tryd.call48 rfl (num_c lb _ _ _ 1 x.b (rest1) _ _ hS.imm (own_heap hS (k := 2) rfl) (own_none hS (k := 2) rfl) hsL rfl (by decide) (valC_num1 (by omega)) hr1)) ?_
        rintro _ w_40 ⟨aL, cL, rfl, hE, hsL⟩
        replace hS := hS.callX (k := 2) rfl hE
        refine qq hS (g_convu Tryd.underlying3 Tryd.underlying5 rfl hcb) ?_
        refine qq hS (g_fieldAddr (o' := 2) Tryd.underlying53 rfl Tryd.sizeOf3 rfl rfl rfl) ?_
        refine qe (d_store 0 hS Tryd.sizeOf3 rfl rfl rfl (vs := [.int .i64 _]) rfl rfl rfl (Nat.le_of_ble_eq_true rfl) (cs' := [_, _, _, _, _]) rfl) ?_
        clear hS
        rintro _ w_41 ⟨rfl, hS⟩
        refine qq hS (g_fieldAddr (o' := 3) Tryd.underlying53 rfl Tryd.sizeOf5 rfl rfl rfl) ?_
        refine qe (d_store 0 hS Tryd.sizeOf5 rfl rfl rfl (vs := [.int .u8 _]) rfl rfl rfl (Nat.le_of_ble_eq_true rfl) (cs' := [_, _, _, _, _]) rfl) ?_
        clear hS
        rintro _ w_42 ⟨rfl, hS⟩
        refine ol_nil (blkN (thenN ?_))
        refine wpIn_seq ?_
        refine wpIn_seq ?_
        refine reg ?_
        refine qq hS (g_fieldAddr (o' := 0) Tryd.underlying53 rfl Tryd.sizeOf3 rfl rfl rfl) ?_
        refine qq hS (g_ldO1 0 Tryd.isAgg3 rfl rfl rfl) ?_
        refine qq hS (g_eql rfl rfl) ?_
        refine qq hS (g_movev (v := .bool _) rfl) ?_
        refine qu rfl rfl hS (fun hg => (g_fieldAddr (o' := 0) Tryd.underlying53 rfl Tryd.sizeOf3 rfl rfl rfl)) ?_
        intro u36 hu36 hn36
        refine qu rfl rfl hS (fun hg => (g_ldO1 0 Tryd.isAgg3 rfl (hu36 hg) rfl)) ?_
        intro u37 hu37 hn37
        refine qu rfl rfl hS (fun hg => (g_eql (hu37 hg) rfl)) ?_
        intro u38 hu38 hn38
        refine qq hS (g_or rfl rfl (fun hq => hu38 hq)) ?_
        refine ol_nil (thenN ?_)
        refine cond_s rfl ?_ ?_
        ·
          intro hc39
          clear hu36 hn36 hu37 hn37 hu38 hn38
          try simp only [Bool.and_eq_true, Bool.or_eq_true, Bool.not_eq_true', Bool.and_eq_false_imp, Bool.or_eq_false_iff, Bool.not_eq_false', decide_eq_true_eq, decide_eq_false_iff_not] at hc39
          have hk24 : x.kind = 2 ∨ x.kind = 4 := by first | exact hc39 | omega
          have hdl := hsh.some hk24
          refine reg ?_
          refine qq hS (g_move _) ?_
          refine qq hS (g_fieldAddr (o' := 2) Tryd.underlying53 rfl Tryd.sizeOf3 rfl rfl rfl) ?_
          refine qq hS (g_ldO1 0 Tryd.isAgg3 rfl rfl rfl) ?_
          refine qe (d_call Tryd.call47 rfl (takeD_c db _ _ _ x.data rest2 x.len _ _ hS.imm (own_heap hS (k := 3) rfl) (own_none hS (k := 3) rfl) hd rfl hdl.symm)) ?_
          rintro _ w_43 ⟨a43, c43, a2_, c2_, rfl, hE, h43, hd2⟩
          replace hS := hS.callX (k := 3) rfl hE
          refine qe (d_call Tryd.call65 rfl (clone_c _ _ x.data _ _ hS.imm h43 (by omega) (by omega))) ?_
          rintro _ w_44 ⟨I_f, a44, c44, rfl, hE, h44⟩
          replace hS := hS.callE hE
          refine qq hS (g_fieldAddr (o' := 4) Tryd.underlying53 rfl Tryd.sizeOf25 rfl rfl rfl) ?_
          refine qe (d_store 0 hS Tryd.sizeOf25 rfl rfl rfl (vs := [.slice _ _ _]) rfl rfl rfl (Nat.le_of_ble_eq_true rfl) (cs' := [_, _, _, _, _]) rfl) ?_
          clear hS
          rintro _ w_45 ⟨rfl, hS⟩
          refine ol_nil (thenN ?_)
          refine wpIn_seq ?_
          refine reg ?_
          refine qq hS (g_ldO 0 (vs := [.int .i64 _, .int .i64 _, .int .i64 _, .int .u8 _, .slice _ _ _]) Tryd.sizeOf53 Tryd.isAgg53 rfl rfl rfl rfl) ?_
          refine qe (d_store 1 hS Tryd.sizeOf53 rfl rfl rfl (vs := [.int .i64 _, .int .i64 _, .int .i64 _, .int .u8 _, .slice _ _ _]) rfl rfl rfl (Nat.le_of_ble_eq_true rfl) (cs' := [_, _, _, _, _]) rfl) ?_
          clear hS
          rintro _ w_46 ⟨rfl, hS⟩
          refine ol_nil (thenN ?_)
          refine wpIn_ret ?_
          refine ret1 Tryd.results50 (rv_cel 1 hS Tryd.sizeOf53 Tryd.isAgg53 rfl rfl rfl) ?_
          first
            | exact ⟨_, a44, x.data.length, c44, aL, cL, a2_, c2_, opV_of (by omega) (by omega) (by omega) (by omega), hS.sel [false, false, true, true], h44, hsL, hd2⟩
            | (have hde : x.data ++ rest2 = rest2 := by rw [hdn]; rfl
               rw [hde] at hS hd
               exact ⟨_, none, 0, 0, aL, cL, da, dc, opV_of (by omega) (by omega) (by omega) (by omega), hS.sel [false, false, true, true], (by rw [hdn]; exact RFl.nil), hsL, hd⟩)
        ·
          intro hc39
          clear hu36 hn36 hu37 hn37 hu38 hn38
          try simp only [Bool.and_eq_true, Bool.or_eq_true, Bool.not_eq_true', Bool.and_eq_false_imp, Bool.or_eq_false_iff, Bool.not_eq_false', decide_eq_true_eq, decide_eq_false_iff_not] at hc39
          have hdn := hsh.none (by omega) (by omega)
          refine wpIn_skip ?_
          refine thenN ?_
          refine wpIn_seq ?_
          refine reg ?_
          refine qq hS (g_ldO 0 (vs := [.int .i64 _, .int .i64 _, .int .i64 _, .int .u8 _, .slice _ _ _]) Tryd.sizeOf53 Tryd.isAgg53 rfl rfl rfl rfl) ?_
          refine qe (d_store 1 hS Tryd.sizeOf53 rfl rfl rfl (vs := [.int .i64 _, .int .i64 _, .int .i64 _, .int .u8 _, .slice _ _ _]) rfl rfl rfl (Nat.le_of_ble_eq_true rfl) (cs' := [_, _, _, _, _]) rfl) ?_
          clear hS
          rintro _ w_47 ⟨rfl, hS⟩
          refine ol_nil (thenN ?_)
          refine wpIn_ret ?_
          refine ret1 Tryd.results50 (rv_cel 1 hS Tryd.sizeOf53 Tryd.isAgg53 rfl rfl rfl) ?_
          first
            | exact ⟨_, a44, x.data.length, c44, aL, cL, a2_, c2_, opV_of (by omega) (by omega) (by omega) (by omega), hS.sel [false, false, true, true], h44, hsL, hd2⟩
            | (have hde : x.data ++ rest2 = rest2 := by rw [hdn]; rfl
               rw [hde] at hS hd
               exact ⟨_, none, 0, 0, aL, cL, da, dc, opV_of (by omega) (by omega) (by omega) (by omega), hS.sel [false, false, true, true], (by rw [hdn]; exact RFl.nil), hsL, hd⟩)
      ·
        intro hc23
        try simp only [Bool.and_eq_true, Bool.or_eq_true, Bool.not_eq_true', Bool.and_eq_false_imp, Bool.or_eq_false_iff, Bool.not_eq_false', decide_eq_true_eq, decide_eq_false_iff_not] at hc23
        have hk : x.kind = 4 := by omega
        have ht2 := List.append_cancel_left (ht1.symm.trans (ol_4 hk rest1))
        refine reg ?_
        refine qq hS (g_move _) ?_
        refine qe (d_call Tryd.call48 rfl (num_c lb _ _ _ 3 x.len (rest1) _ _ hS.imm (own_heap hS (k := 2) rfl) (own_none hS (k := 2) rfl) hsL ht2 (by decide) (valC_num3 (by omega)) hr1)) ?_
        rintro _ w_48 ⟨aL, cL, rfl, hE, hsL⟩
        replace hS := hS.callX (k := 2) rfl hE
        refine qq hS (g_fieldAddr (o' := 2) Tryd.underlying53 rfl Tryd.sizeOf3 rfl rfl rfl) ?_
        refine qe (d_store 0 hS Tryd.sizeOf3 rfl rfl rfl (vs := [.int .i64 _]) rfl rfl rfl (Nat.le_of_ble_eq_true rfl) (cs' := [_, _, _, _, _]) rfl) ?_
        clear hS
        rintro _ w_49 ⟨rfl, hS⟩
        refine ol_nil (blkN (thenN ?_))
        refine wpIn_seq ?_
        refine wpIn_seq ?_
        refine reg ?_
        refine qq hS (g_fieldAddr (o' := 0) Tryd.underlying53 rfl Tryd.sizeOf3 rfl rfl rfl) ?_
        refine qq hS (g_ldO1 0 Tryd.isAgg3 rfl rfl rfl) ?_
        refine qq hS (g_eql rfl rfl) ?_
        refine qq hS (g_movev (v := .bool _) rfl) ?_
        refine qu rfl rfl hS (fun hg => (g_fieldAddr (o' := 0) Tryd.underlying53 rfl Tryd.sizeOf3 rfl rfl rfl)) ?_
        intro u36 hu36 hn36
        refine qu rfl rfl hS (fun hg => (g_ldO1 0 Tryd.isAgg3 rfl (hu36 hg) rfl)) ?_
        intro u37 hu37 hn37
        refine qu rfl rfl hS (fun hg => (g_eql (hu37 hg) rfl)) ?_
        intro u38 hu38 hn38
        refine qq hS (g_or rfl rfl (fun hq => hu38 hq)) ?_
        refine ol_nil (thenN ?_)
        refine cond_s rfl ?_ ?_
        ·
          intro hc39
          clear hu36 hn36 hu37 hn37 hu38 hn38
          try simp only [Bool.and_eq_true, Bool.or_eq_true, Bool.not_eq_true', Bool.and_eq_false_imp, Bool.or_eq_false_iff, Bool.not_eq_false', decide_eq_true_eq, decide_eq_false_iff_not] at hc39
          have hk24 : x.kind = 2 ∨ x.kind = 4 := by first | exact hc39 | omega
          have hdl := hsh.some hk24
          refine reg ?_
          refine qq hS (g_move _) ?_
          refine qq hS (g_fieldAddr (o' := 2) Tryd.underlying53 rfl Tryd.sizeOf3 rfl rfl rfl) ?_
          refine qq hS (g_ldO1 0 Tryd.isAgg3 rfl rfl rfl) ?_
          refine qe (d_call Tryd.call47 rfl (takeD_c db _ _ _ x.data rest2 x.len _ _ hS.imm (own_heap hS (k := 3) rfl) (own_none hS (k := 3) rfl) hd rfl hdl.symm)) ?_
          rintro _ w_50 ⟨a43, c43, a2_, c2_, rfl, hE, h43, hd2⟩
          replace hS := hS.callX (k := 3) rfl hE
          refine qe (d_call Tryd.call65 rfl (clone_c _ _ x.data _ _ hS.imm h43 (by omega) (by omega))) ?_
          rintro _ w_51 ⟨I_f, a44, c44, rfl, hE, h44⟩
          replace hS := hS.callE hE
          refine qq hS (g_fieldAddr (o' := 4) Tryd.underlying53 rfl Tryd.sizeOf25 rfl rfl rfl) ?_
          refine qe (d_store 0 hS Tryd.sizeOf25 rfl rfl rfl (vs := [.slice _ _ _]) rfl rfl rfl (Nat.le_of_ble_eq_true rfl) (cs' := [_, _, _, _, _]) rfl) ?_
          clear hS
          rintro _ w_52 ⟨rfl, hS⟩
          refine ol_nil (thenN ?_)
          refine wpIn_seq ?_
          refine reg ?_
          refine qq hS (g_ldO 0 (vs := [.int .i64 _, .int .i64 _, .int .i64 _, .int .u8 _, .slice _ _ _]) Tryd.sizeOf53 Tryd.isAgg53 rfl rfl rfl rfl) ?_
          refine qe (d_store 1 hS Tryd.sizeOf53 rfl rfl rfl (vs := [.int .i64 _, .int .i64 _, .int .i64 _, .int .u8 _, .slice _ _ _]) rfl rfl rfl (Nat.le_of_ble_eq_true rfl) (cs' := [_, _, _, _, _]) rfl) ?_
          clear hS
          rintro _ w_53 ⟨rfl, hS⟩
          refine ol_nil (thenN ?_)
          refine wpIn_ret ?_
          refine ret1 Tryd.results50 (rv_cel 1 hS Tryd.sizeOf53 Tryd.isAgg53 rfl rfl rfl) ?_
          first
            | exact ⟨_, a44, x.data.length, c44, aL, cL, a2_, c2_, opV_of (by omega) (by omega) (by omega) (by omega), hS.sel [false, false, true, true], h44, hsL, hd2⟩
            | (have hde : x.data ++ rest2 = rest2 := by rw [hdn]; rfl
               rw [hde] at hS hd
               exact ⟨_, none, 0, 0, aL, cL, da, dc, opV_of (by omega) (by omega) (by omega) (by omega), hS.sel [false, false, true, true], (by rw [hdn]; exact RFl.nil), hsL, hd⟩)
        ·
          intro hc39
          clear hu36 hn36 hu37 hn37 hu38 hn38
          try simp only [Bool.and_eq_true, Bool.or_eq_true, Bool.not_eq_true', Bool.and_eq_false_imp, Bool.or_eq_false_iff, Bool.not_eq_false', decide_eq_true_eq, decide_eq_false_iff_not] at hc39
          have hdn := hsh.none (by omega) (by omega)
          refine wpIn_skip ?_
          refine thenN ?_
          refine wpIn_seq ?_
          refine reg ?_
          refine qq hS (g_ldO 0 (vs := [.int .i64 _, .int .i64 _, .int .i64 _, .int .u8 _, .slice _ _ _]) Tryd.sizeOf53 Tryd.isAgg53 rfl rfl rfl rfl) ?_
          refine qe (d_store 1 hS Tryd.sizeOf53 rfl rfl rfl (vs := [.int .i64 _, .int .i64 _, .int .i64 _, .int .u8 _, .slice _ _ _]) rfl rfl rfl (Nat.le_of_ble_eq_true rfl) (cs' := [_, _, _, _, _]) rfl) ?_
          clear hS
          rintro _ w_54 ⟨rfl, hS⟩
          refine ol_nil (thenN ?_)
          refine wpIn_ret ?_
          refine ret1 Tryd.results50 (rv_cel 1 hS Tryd.sizeOf53 Tryd.isAgg53 rfl rfl rfl) ?_
          first
            | exact ⟨_, a44, x.data.length, c44, aL, cL, a2_, c2_, opV_of (by omega) (by omega) (by omega) (by omega), hS.sel [false, false, true, true], h44, hsL, hd2⟩
            | (have hde : x.data ++ rest2 = rest2 := by rw [hdn]; rfl
               rw [hde] at hS hd
               exact ⟨_, none, 0, 0, aL, cL, da, dc, opV_of (by omega) (by omega) (by omega) (by omega), hS.sel [false, false, true, true], (by rw [hdn]; exact RFl.nil), hsL, hd⟩)

end Go.Proofs.YtdgnojckkjfhfaaDoor

