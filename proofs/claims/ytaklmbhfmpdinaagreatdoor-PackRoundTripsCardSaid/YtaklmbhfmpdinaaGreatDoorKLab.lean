/- Package label: links of code, an iterator; the number of a label. Conditions: words are words. label.Lift: what it computes. Conditions: bytes are bytes. label.Lower: what it computes. Conditions: words are words, labels within bounds. label.Form: what it computes. Conditions: words are words, labels within bounds. label.Read: what it computes. Conditions: bytes are bytes. -/
import Derived.Test.YtaklmbhfmpdinaaGreatDoorSl3
import Derived.Test.YtaklmbhfmpdinaaGreatDoorSortC
import Derived.Test.YtaklmbhfmpdinaaGreatDoorKCore3
namespace Go.Proofs.YtaklmbhfmpdinaaGreatDoor
open Go Go.RowKit Go.Inl
set_option linter.unusedSimpArgs false
set_option linter.unusedVariables false
theorem getN_at {l : List Int} {i : Nat} {x d : Int} (h : l[i]? = some x) : l.getD i d = x := by rw [List.getD_eq_getElem?_getD, h]; rfl
theorem two_mask (op : Int) : (2 : Int) ^ fieldM op - 1 = if op = 5 ∨ op = 6 then 16777215 else 65535 := by unfold fieldM; split <;> rfl

theorem dec_at (ws : List Int) (k : Nat) (y : Int) (w0 : World) (I0 : Imm) (hI : Sat I0 w0) (h : ws[k]? = some y) (hy : 0 ≤ y ∧ y < 4294967296) (hk : k ≤ 1073741824) :
    Ctr Tryz.prog 115 [.int .u32 y, .int .i64 (4 * (k : Int))] w0 (fun v w' => v = instV (instAt ws k) ∧ Ext w0 I0 w' I0) := by
  unfold instAt
  rw [getN_at h]
  exact decodeI_c y (4 * (k : Int)) w0 I0 hI hy.1 hy.2 (by omega) (by omega)

theorem linked_c (x : InstL) (len : Int) (w0 : World) (I0 : Imm) (hI : Sat I0 w0) :
    Ctr Tryz.prog 116 [instV x, .int .i64 len] w0 (fun v w' => v = .bool (linkedP x len) ∧ Ext w0 I0 w' I0) := by
  refine fn (n := 21) Tryz.func116 rfl rfl rfl ?_
  have hS := St.start hI
  refine wpIn_seq ?_
  refine reg ?_
  refine qe (d_box (cs := [.int .i64 _, .int .i64 _, .int .i64 _, .int .i64 _, .int .i64 _]) hS rfl) ?_
  clear hS
  rintro _ w_1 ⟨b2, rfl, hS⟩
  refine qq hS (g_assignv (v := .bool _) rfl) ?_
  refine ol_nil (thenN ?_)
  refine wpIn_seq ?_
  refine wpIn_seq ?_
  refine reg ?_
  refine qq hS (g_fieldAddr (o' := 0) Tryz.underlying97 rfl Tryz.sizeOf3 rfl rfl rfl) ?_
  refine qq hS (g_ldO1 0 Tryz.isAgg3 rfl rfl rfl) ?_
  refine ol_nil (thenN ?_)
  refine wpIn_block ?_
  refine wpIn_seq ?_
  refine wpIn_seq ?_
  refine reg ?_
  refine qq hS (g_eql rfl rfl) ?_
  refine qq hS (g_assignv (v := .bool _) rfl) ?_
  refine ol_nil (thenN ?_)
  refine cond_s rfl ?_ ?_
  ·
    intro hc7
    try simp only [Bool.and_eq_true, Bool.or_eq_true, Bool.not_eq_true', Bool.and_eq_false_imp, Bool.or_eq_false_iff, Bool.not_eq_false', decide_eq_true_eq, decide_eq_false_iff_not] at hc7
    refine wpIn_skip ?_
    refine thenN ?_
    refine cond_s rfl ?_ ?_
    ·
      intro hc7_4
      try simp only [Bool.and_eq_true, Bool.or_eq_true, Bool.not_eq_true', Bool.and_eq_false_imp, Bool.or_eq_false_iff, Bool.not_eq_false', decide_eq_true_eq, decide_eq_false_iff_not] at hc7_4
      refine wpIn_seq ?_
      refine reg ?_
      refine qq hS (g_fieldAddr (o' := 4) Tryz.underlying97 rfl Tryz.sizeOf3 rfl rfl rfl) ?_
      refine qq hS (g_ldO1 0 Tryz.isAgg3 rfl rfl rfl) ?_
      refine qq hS (g_geq rfl rfl) ?_
      refine qq hS (g_movev (v := .bool _) rfl) ?_
      refine qu rfl rfl hS (fun hg => (g_fieldAddr (o' := 4) Tryz.underlying97 rfl Tryz.sizeOf3 rfl rfl rfl)) ?_
      intro u16 hu16 hn16
      refine qu rfl rfl hS (fun hg => (g_ldO1 0 Tryz.isAgg3 rfl (hu16 hg) rfl)) ?_
      intro u17 hu17 hn17
      refine qu rfl rfl hS (fun hg => (g_movev (v := .int .i64 _) rfl)) ?_
      intro u18 hu18 hn18
      refine qu rfl rfl hS (fun hg => (g_lss (hu17 hg) (hu18 hg))) ?_
      intro u19 hu19 hn19
      refine qq hS (g_and rfl rfl (fun hq => hu19 hq)) ?_
      refine qq hS (g_assignv (v := .bool _) rfl) ?_
      refine ol_nil (thenN ?_)
      refine wpIn_ret ?_
      refine blkR (thenR ?_)
      refine ret1 Tryz.results116 (rv_tmp (v := .bool _) rfl) ?_
      refine ⟨?_, hS.nil⟩
      unfold linkedP
      first
        | (rw [decide_eq_true (show 5 ≤ x.op ∧ x.op ≤ 8 by omega)]; rfl)
        | (rw [decide_eq_false (show ¬ (5 ≤ x.op ∧ x.op ≤ 8) by omega)]; rfl)
        | (exfalso; omega)
    ·
      intro hc7_4
      try simp only [Bool.and_eq_true, Bool.or_eq_true, Bool.not_eq_true', Bool.and_eq_false_imp, Bool.or_eq_false_iff, Bool.not_eq_false', decide_eq_true_eq, decide_eq_false_iff_not] at hc7_4
      refine wpIn_skip ?_
      refine blkN (thenN ?_)
      refine wpIn_seq ?_
      refine reg ?_
      refine qq hS (g_assignv (v := .bool _) rfl) ?_
      refine ol_nil (thenN ?_)
      refine wpIn_ret ?_
      refine ret1 Tryz.results116 (rv_tmp (v := .bool _) rfl) ?_
      refine ⟨?_, hS.nil⟩
      unfold linkedP
      first
        | (rw [decide_eq_true (show 5 ≤ x.op ∧ x.op ≤ 8 by omega)]; rfl)
        | (rw [decide_eq_false (show ¬ (5 ≤ x.op ∧ x.op ≤ 8) by omega)]; rfl)
        | (exfalso; omega)
  ·
    intro hc7
    try simp only [Bool.and_eq_true, Bool.or_eq_true, Bool.not_eq_true', Bool.and_eq_false_imp, Bool.or_eq_false_iff, Bool.not_eq_false', decide_eq_true_eq, decide_eq_false_iff_not] at hc7
    refine wpIn_seq ?_
    refine reg ?_
    refine qq hS (g_eql rfl rfl) ?_
    refine qq hS (g_assignv (v := .bool _) rfl) ?_
    refine ol_nil (thenN ?_)
    refine cond_s rfl ?_ ?_
    ·
      intro hc7_2
      try simp only [Bool.and_eq_true, Bool.or_eq_true, Bool.not_eq_true', Bool.and_eq_false_imp, Bool.or_eq_false_iff, Bool.not_eq_false', decide_eq_true_eq, decide_eq_false_iff_not] at hc7_2
      refine wpIn_skip ?_
      refine thenN ?_
      refine cond_s rfl ?_ ?_
      ·
        intro hc7_4
        try simp only [Bool.and_eq_true, Bool.or_eq_true, Bool.not_eq_true', Bool.and_eq_false_imp, Bool.or_eq_false_iff, Bool.not_eq_false', decide_eq_true_eq, decide_eq_false_iff_not] at hc7_4
        refine wpIn_seq ?_
        refine reg ?_
        refine qq hS (g_fieldAddr (o' := 4) Tryz.underlying97 rfl Tryz.sizeOf3 rfl rfl rfl) ?_
        refine qq hS (g_ldO1 0 Tryz.isAgg3 rfl rfl rfl) ?_
        refine qq hS (g_geq rfl rfl) ?_
        refine qq hS (g_movev (v := .bool _) rfl) ?_
        refine qu rfl rfl hS (fun hg => (g_fieldAddr (o' := 4) Tryz.underlying97 rfl Tryz.sizeOf3 rfl rfl rfl)) ?_
        intro u16 hu16 hn16
        refine qu rfl rfl hS (fun hg => (g_ldO1 0 Tryz.isAgg3 rfl (hu16 hg) rfl)) ?_
        intro u17 hu17 hn17
        refine qu rfl rfl hS (fun hg => (g_movev (v := .int .i64 _) rfl)) ?_
        intro u18 hu18 hn18
        refine qu rfl rfl hS (fun hg => (g_lss (hu17 hg) (hu18 hg))) ?_
        intro u19 hu19 hn19
        refine qq hS (g_and rfl rfl (fun hq => hu19 hq)) ?_
        refine qq hS (g_assignv (v := .bool _) rfl) ?_
        refine ol_nil (thenN ?_)
        refine wpIn_ret ?_
        refine blkR (thenR ?_)
        refine ret1 Tryz.results116 (rv_tmp (v := .bool _) rfl) ?_
        refine ⟨?_, hS.nil⟩
        unfold linkedP
        first
          | (rw [decide_eq_true (show 5 ≤ x.op ∧ x.op ≤ 8 by omega)]; rfl)
          | (rw [decide_eq_false (show ¬ (5 ≤ x.op ∧ x.op ≤ 8) by omega)]; rfl)
          | (exfalso; omega)
      ·
        intro hc7_4
        try simp only [Bool.and_eq_true, Bool.or_eq_true, Bool.not_eq_true', Bool.and_eq_false_imp, Bool.or_eq_false_iff, Bool.not_eq_false', decide_eq_true_eq, decide_eq_false_iff_not] at hc7_4
        refine wpIn_skip ?_
        refine blkN (thenN ?_)
        refine wpIn_seq ?_
        refine reg ?_
        refine qq hS (g_assignv (v := .bool _) rfl) ?_
        refine ol_nil (thenN ?_)
        refine wpIn_ret ?_
        refine ret1 Tryz.results116 (rv_tmp (v := .bool _) rfl) ?_
        refine ⟨?_, hS.nil⟩
        unfold linkedP
        first
          | (rw [decide_eq_true (show 5 ≤ x.op ∧ x.op ≤ 8 by omega)]; rfl)
          | (rw [decide_eq_false (show ¬ (5 ≤ x.op ∧ x.op ≤ 8) by omega)]; rfl)
          | (exfalso; omega)
    ·
      intro hc7_2
      try simp only [Bool.and_eq_true, Bool.or_eq_true, Bool.not_eq_true', Bool.and_eq_false_imp, Bool.or_eq_false_iff, Bool.not_eq_false', decide_eq_true_eq, decide_eq_false_iff_not] at hc7_2
      refine wpIn_seq ?_
      refine reg ?_
      refine qq hS (g_eql rfl rfl) ?_
      refine qq hS (g_assignv (v := .bool _) rfl) ?_
      refine ol_nil (thenN ?_)
      refine cond_s rfl ?_ ?_
      ·
        intro hc7_3
        try simp only [Bool.and_eq_true, Bool.or_eq_true, Bool.not_eq_true', Bool.and_eq_false_imp, Bool.or_eq_false_iff, Bool.not_eq_false', decide_eq_true_eq, decide_eq_false_iff_not] at hc7_3
        refine wpIn_skip ?_
        refine thenN ?_
        refine cond_s rfl ?_ ?_
        ·
          intro hc7_4
          try simp only [Bool.and_eq_true, Bool.or_eq_true, Bool.not_eq_true', Bool.and_eq_false_imp, Bool.or_eq_false_iff, Bool.not_eq_false', decide_eq_true_eq, decide_eq_false_iff_not] at hc7_4
          refine wpIn_seq ?_
          refine reg ?_
          refine qq hS (g_fieldAddr (o' := 4) Tryz.underlying97 rfl Tryz.sizeOf3 rfl rfl rfl) ?_
          refine qq hS (g_ldO1 0 Tryz.isAgg3 rfl rfl rfl) ?_
          refine qq hS (g_geq rfl rfl) ?_
          refine qq hS (g_movev (v := .bool _) rfl) ?_
          refine qu rfl rfl hS (fun hg => (g_fieldAddr (o' := 4) Tryz.underlying97 rfl Tryz.sizeOf3 rfl rfl rfl)) ?_
          intro u16 hu16 hn16
          refine qu rfl rfl hS (fun hg => (g_ldO1 0 Tryz.isAgg3 rfl (hu16 hg) rfl)) ?_
          intro u17 hu17 hn17
          refine qu rfl rfl hS (fun hg => (g_movev (v := .int .i64 _) rfl)) ?_
          intro u18 hu18 hn18
          refine qu rfl rfl hS (fun hg => (g_lss (hu17 hg) (hu18 hg))) ?_
          intro u19 hu19 hn19
          refine qq hS (g_and rfl rfl (fun hq => hu19 hq)) ?_
          refine qq hS (g_assignv (v := .bool _) rfl) ?_
          refine ol_nil (thenN ?_)
          refine wpIn_ret ?_
          refine blkR (thenR ?_)
          refine ret1 Tryz.results116 (rv_tmp (v := .bool _) rfl) ?_
          refine ⟨?_, hS.nil⟩
          unfold linkedP
          first
            | (rw [decide_eq_true (show 5 ≤ x.op ∧ x.op ≤ 8 by omega)]; rfl)
            | (rw [decide_eq_false (show ¬ (5 ≤ x.op ∧ x.op ≤ 8) by omega)]; rfl)
            | (exfalso; omega)
        ·
          intro hc7_4
          try simp only [Bool.and_eq_true, Bool.or_eq_true, Bool.not_eq_true', Bool.and_eq_false_imp, Bool.or_eq_false_iff, Bool.not_eq_false', decide_eq_true_eq, decide_eq_false_iff_not] at hc7_4
          refine wpIn_skip ?_
          refine blkN (thenN ?_)
          refine wpIn_seq ?_
          refine reg ?_
          refine qq hS (g_assignv (v := .bool _) rfl) ?_
          refine ol_nil (thenN ?_)
          refine wpIn_ret ?_
          refine ret1 Tryz.results116 (rv_tmp (v := .bool _) rfl) ?_
          refine ⟨?_, hS.nil⟩
          unfold linkedP
          first
            | (rw [decide_eq_true (show 5 ≤ x.op ∧ x.op ≤ 8 by omega)]; rfl)
            | (rw [decide_eq_false (show ¬ (5 ≤ x.op ∧ x.op ≤ 8) by omega)]; rfl)
            | (exfalso; omega)
      ·
        intro hc7_3
        try simp only [Bool.and_eq_true, Bool.or_eq_true, Bool.not_eq_true', Bool.and_eq_false_imp, Bool.or_eq_false_iff, Bool.not_eq_false', decide_eq_true_eq, decide_eq_false_iff_not] at hc7_3
        refine reg ?_
        refine qq hS (g_eql rfl rfl) ?_
        refine qq hS (g_assignv (v := .bool _) rfl) ?_
        refine ol_nil (thenN ?_)
        refine cond_s rfl ?_ ?_
        ·
          intro hc7_4
          try simp only [Bool.and_eq_true, Bool.or_eq_true, Bool.not_eq_true', Bool.and_eq_false_imp, Bool.or_eq_false_iff, Bool.not_eq_false', decide_eq_true_eq, decide_eq_false_iff_not] at hc7_4
          refine wpIn_seq ?_
          refine reg ?_
          refine qq hS (g_fieldAddr (o' := 4) Tryz.underlying97 rfl Tryz.sizeOf3 rfl rfl rfl) ?_
          refine qq hS (g_ldO1 0 Tryz.isAgg3 rfl rfl rfl) ?_
          refine qq hS (g_geq rfl rfl) ?_
          refine qq hS (g_movev (v := .bool _) rfl) ?_
          refine qu rfl rfl hS (fun hg => (g_fieldAddr (o' := 4) Tryz.underlying97 rfl Tryz.sizeOf3 rfl rfl rfl)) ?_
          intro u16 hu16 hn16
          refine qu rfl rfl hS (fun hg => (g_ldO1 0 Tryz.isAgg3 rfl (hu16 hg) rfl)) ?_
          intro u17 hu17 hn17
          refine qu rfl rfl hS (fun hg => (g_movev (v := .int .i64 _) rfl)) ?_
          intro u18 hu18 hn18
          refine qu rfl rfl hS (fun hg => (g_lss (hu17 hg) (hu18 hg))) ?_
          intro u19 hu19 hn19
          refine qq hS (g_and rfl rfl (fun hq => hu19 hq)) ?_
          refine qq hS (g_assignv (v := .bool _) rfl) ?_
          refine ol_nil (thenN ?_)
          refine wpIn_ret ?_
          refine blkR (thenR ?_)
          refine ret1 Tryz.results116 (rv_tmp (v := .bool _) rfl) ?_
          refine ⟨?_, hS.nil⟩
          unfold linkedP
          first
            | (rw [decide_eq_true (show 5 ≤ x.op ∧ x.op ≤ 8 by omega)]; rfl)
            | (rw [decide_eq_false (show ¬ (5 ≤ x.op ∧ x.op ≤ 8) by omega)]; rfl)
            | (exfalso; omega)
        ·
          intro hc7_4
          try simp only [Bool.and_eq_true, Bool.or_eq_true, Bool.not_eq_true', Bool.and_eq_false_imp, Bool.or_eq_false_iff, Bool.not_eq_false', decide_eq_true_eq, decide_eq_false_iff_not] at hc7_4
          refine wpIn_skip ?_
          refine blkN (thenN ?_)
          refine wpIn_seq ?_
          refine reg ?_
          refine qq hS (g_assignv (v := .bool _) rfl) ?_
          refine ol_nil (thenN ?_)
          refine wpIn_ret ?_
          refine ret1 Tryz.results116 (rv_tmp (v := .bool _) rfl) ?_
          refine ⟨?_, hS.nil⟩
          unfold linkedP
          first
            | (rw [decide_eq_true (show 5 ≤ x.op ∧ x.op ≤ 8 by omega)]; rfl)
            | (rw [decide_eq_false (show ¬ (5 ≤ x.op ∧ x.op ≤ 8) by omega)]; rfl)
            | (exfalso; omega)

theorem field_c (op : Int) (w0 : World) (I0 : Imm) (hI : Sat I0 w0) : Ctr Tryz.prog 77 [.int .i64 op] w0 (fun v w' => v = .int .u32 (2 ^ fieldM op - 1) ∧ Ext w0 I0 w' I0) := by
  refine fn (n := 9) Tryz.func77 rfl rfl rfl ?_
  have hS := St.start hI
  refine wpIn_seq ?_
  refine reg ?_
  refine qq hS (g_assignv (v := .int .u32 _) rfl) ?_
  refine ol_nil (thenN ?_)
  refine wpIn_seq ?_
  refine wpIn_seq ?_
  refine reg ?_
  refine qq hS (g_movev (v := .int .i64 _) rfl) ?_
  refine qq hS (g_eql rfl rfl) ?_
  refine qq hS (g_movev (v := .bool _) rfl) ?_
  refine qu rfl rfl hS (fun hg => (g_movev (v := .int .i64 _) rfl)) ?_
  intro u6 hu6 hn6
  refine qu rfl rfl hS (fun hg => (g_eql (hu6 hg) rfl)) ?_
  intro u7 hu7 hn7
  refine qq hS (g_or rfl rfl (fun hq => hu7 hq)) ?_
  refine ol_nil (thenN ?_)
  refine cond_s rfl ?_ ?_
  ·
    intro hc8
    clear hu6 hn6 hu7 hn7
    try simp only [Bool.and_eq_true, Bool.or_eq_true, Bool.not_eq_true', Bool.and_eq_false_imp, Bool.or_eq_false_iff, Bool.not_eq_false', decide_eq_true_eq, decide_eq_false_iff_not] at hc8
    have e : (2 : Int) ^ fieldM op - 1 = 16777215 := by rw [two_mask, if_pos hc8]
    refine wpIn_seq ?_
    refine reg ?_
    refine qq hS (g_assignv (v := .int .u32 _) rfl) ?_
    refine ol_nil (thenN ?_)
    refine wpIn_ret ?_
    refine thenR ?_
    refine ret1 Tryz.results77 (rv_tmp (v := .int .u32 _) rfl) ?_
    exact ⟨by rw [e], hS.nil⟩
  ·
    intro hc8
    clear hu6 hn6 hu7 hn7
    try simp only [Bool.and_eq_true, Bool.or_eq_true, Bool.not_eq_true', Bool.and_eq_false_imp, Bool.or_eq_false_iff, Bool.not_eq_false', decide_eq_true_eq, decide_eq_false_iff_not] at hc8
    have e : (2 : Int) ^ fieldM op - 1 = 65535 := by rw [two_mask, if_neg (by omega)]
    refine wpIn_skip ?_
    refine thenN ?_
    refine wpIn_seq ?_
    refine reg ?_
    refine qq hS (g_assignv (v := .int .u32 _) rfl) ?_
    refine ol_nil (thenN ?_)
    refine wpIn_ret ?_
    refine ret1 Tryz.results77 (rv_tmp (v := .int .u32 _) rfl) ?_
    exact ⟨by rw [e], hS.nil⟩

theorem links_c (ad : Option Addr) (m cap : Nat) (w0 : World) (I0 : Imm) (hI : Sat I0 w0) :
    Ctr Tryz.prog 72 [.slice ad m cap] w0 (fun v w' => ∃ I' b, v = .func (.func 114) #[] [.pointer (some ⟨b, 0, none⟩)].toArray ∧ Ext w0 I0 w' I' ∧ atI I' ⟨b, 0, none⟩ [.slice ad m cap]) := by
  refine fn (n := 4) Tryz.func72 rfl rfl rfl ?_
  have hS := St.start hI
  refine wpIn_seq ?_
  refine reg ?_
  refine qe (d_box (cs := [.slice _ _ _]) hS rfl) ?_
  clear hS
  rintro _ w_1 ⟨b1, rfl, hS⟩
  refine qq hS (g_assign _) ?_
  refine ol_nil (thenN ?_)
  refine wpIn_seq ?_
  refine reg ?_
  refine qq hS (g_makeFuncL ml0 (ml rfl ml0)) ?_
  refine qq hS (g_assign _) ?_
  refine ol_nil (thenN ?_)
  refine wpIn_ret ?_
  refine ret1 Tryz.results72 (rv_tmp rfl) ?_
  obtain ⟨I2, hS2, hI2, hb1⟩ := hS.freeze1
  exact ⟨I2, b1, rfl, hS2, hb1⟩

set_option maxHeartbeats 1000000 in
theorem links1_it (ws : List Int) (b cap : Nat) (ad : Option Addr) (I0 : Imm) (hb : atI I0 ⟨b, 0, none⟩ [.slice ad ws.length cap]) (hl : RFl I0 1 u32C (.slice ad ws.length cap) ws) (hw : Wrds ws) (hn : ws.length ≤ 1073741824) :
    IterC Tryz.prog 114 [.pointer (some ⟨b, 0, none⟩)] (lkA ws (lks ws)) (lks ws).length I0 := by
  intro lp J Jx w1 I1 hst hyc hsat hsub hJ0
  replace hb := hb.mono hsub
  replace hl := hl.mono hsub
  refine fn (n := 30) Tryz.func114 rfl rfl rfl ?_
  have hS := St.start hsat
  refine wpIn_seq ?_
  refine reg ?_
  refine qq hS (g_ldB1 (c := 0) Tryz.isAgg72 hb rfl rfl) ?_
  refine qq hS (g_lenI rfl Tryz.underlying72 hl rfl) ?_
  refine qq hS (g_movev (v := .int .i64 _) rfl) ?_
  refine ol_nil (thenN ?_)
  refine wpIn_block ?_
  refine loop (fun (k : Nat) σ w => okS σ [(0, .func (.yield lp) #[] #[]), (1, .pointer (some ⟨b, 0, none⟩)), (6, .slice ad ws.length cap), (7, .int .i64 ws.length), (8, .int .i64 k)] ∧ ∃ I, St [] w I I w [] ∧ k ≤ ws.length ∧ Inl.Sub I1 I ∧ J (plc k (lnk ws)).length I w) (fun k => ws.length - k) (0) ?_ ?_
  ·
    exact ⟨⟨rfl, rfl, rfl, rfl, rfl, trivial⟩, _, St.start hS.imm, by simp, Inl.Sub.refl _, hJ0⟩
  ·
    rintro k σ w_l ⟨hs, I, hS, hk0, hsub1, hJ⟩
    rw [← upds_self hs]; clear hs
    refine wpIn_seq ?_
    refine reg ?_
    refine qq hS (g_lss rfl rfl) ?_
    refine ol_nil (thenN ?_)
    refine wpIn_seq ?_
    refine cond_s rfl ?_ ?_
    ·
      intro hc9
      try simp only [Bool.and_eq_true, Bool.or_eq_true, Bool.not_eq_true', Bool.and_eq_false_imp, Bool.or_eq_false_iff, Bool.not_eq_false', decide_eq_true_eq, decide_eq_false_iff_not] at hc9
      obtain ⟨y, hyi⟩ : ∃ y, ws[k]? = some y := ⟨_, List.getElem?_eq_getElem (by omega)⟩
      have hkl : k < ws.length := by omega
      have hyA := (hl.mono hsub1).at hyi
      have hyb := hw y (List.mem_of_getElem? hyi)
      have hyI : decI y (4 * (k : Int)) = instAt ws k := by unfold instAt; rw [getN_at hyi]
      refine wpIn_skip ?_
      refine thenN ?_
      refine wpIn_seq ?_
      refine wpIn_block ?_
      refine wpIn_seq ?_
      refine reg ?_
      refine qq hS (g_movev (v := .int .i64 _) rfl) ?_
      refine qq hS (g_ixI Tryz.underlying72 Tryz.sizeOf93 (hl.mono hsub1) rfl rfl (by omega) (by omega)) ?_
      refine qq hS (g_ldE1 Tryz.isAgg93 hyA rfl rfl) ?_
      refine qq hS (g_assignv (v := .int .i64 _) rfl) ?_
      refine qq hS (g_assignv (v := .int .u32 _) rfl) ?_
      refine ol_nil (thenN ?_)
      refine wpIn_seq ?_
      refine reg ?_
      refine qq hS (g_movev (v := .int .u32 _) rfl) ?_
      refine qq hS (g_movev (v := .int .i64 _) rfl) ?_
      refine qq hS (g_mul rfl rfl (by omega) (by omega)) ?_
      refine qe (d_call Tryz.call115 rfl (dec_at ws k y _ I hS.imm hyi hyb (by omega))) ?_
      rintro _ w_1 ⟨rfl, hE⟩
      replace hS := hS.callE hE
      refine qe (d_alloc (cs := [.int .i64 _, .int .i64 _, .int .i64 _, .int .i64 _, .int .i64 _]) hS Tryz.zeroValue97 rfl) ?_
      clear hS
      rintro _ w_2 ⟨b5, rfl, hS⟩
      refine qe (d_store 0 hS Tryz.sizeOf97 rfl rfl rfl (vs := [.int .i64 _, .int .i64 _, .int .i64 _, .int .i64 _, .int .i64 _]) rfl rfl rfl (Nat.le_of_ble_eq_true rfl) (cs' := [_, _, _, _, _]) rfl) ?_
      clear hS
      rintro _ w_3 ⟨rfl, hS⟩
      refine ol_nil (thenN ?_)
      refine wpIn_seq ?_
      refine reg ?_
      refine qq hS (g_ldO 0 (vs := [.int .i64 _, .int .i64 _, .int .i64 _, .int .i64 _, .int .i64 _]) Tryz.sizeOf97 Tryz.isAgg97 rfl rfl rfl rfl) ?_
      refine qq hS (g_ldB1 (c := 0) Tryz.isAgg72 (hb.mono hsub1) rfl rfl) ?_
      refine qq hS (g_lenS rfl Tryz.underlying72 rfl) ?_
      refine qq hS (g_mul rfl rfl (by omega) (by omega)) ?_
      refine qe (d_call Tryz.call116 rfl (linked_c (instAt ws k) (4 * (ws.length : Int)) _ I hS.imm)) ?_
      rintro _ w_4 ⟨rfl, hE⟩
      replace hS := hS.callE hE
      refine qq hS (g_movev (v := .bool _) rfl) ?_
      refine qu rfl rfl hS (fun hg => (g_move _)) ?_
      intro u23 hu23 hn23
      refine qu rfl rfl hS (fun hg => (g_movev (v := .int .i64 _) rfl)) ?_
      intro u24 hu24 hn24
      refine qu rfl rfl hS (fun hg => (g_ldO 0 (vs := [.int .i64 _, .int .i64 _, .int .i64 _, .int .i64 _, .int .i64 _]) Tryz.sizeOf97 Tryz.isAgg97 rfl rfl rfl rfl)) ?_
      intro u25 hu25 hn25
      refine gvu rfl rfl (fun hg => (d_yieldC (hu23 hg) (Eq.trans (ml (hu24 hg) (ml (hu25 hg) ml0)) (lkA_at (plc_at hg hkl)).symm) hyc (plc_lt hg hkl) hS.imm (hst _ _ _ _ _ hJ hS.nil))) ?_
      rintro w26 u26 hor
      have hx : ∃ I2 bb, St [] w26 I2 I2 w26 [] ∧ Inl.Sub I I2 ∧ (lnk ws k = true → u26 = .bool bb) ∧ (lnk ws k = true → bb = true → J (plc (k + 1) (lnk ws)).length I2 w26) ∧ (lnk ws k = true → bb = false → Jx (plc k (lnk ws)).length I2 w26) ∧ (lnk ws k = false → J (plc (k + 1) (lnk ws)).length I2 w26) := by
        rcases hor with ⟨hg, bb, I2, h1, h2, h3, h4, h5⟩ | ⟨hg, h1, h2⟩
        · replace hg : lnk ws k = true := hg
          refine ⟨I2, bb, St.start h2, h3, fun _ => h1, fun h e => ?_, fun _ => h5, fun h => by rw [hg] at h; cases h⟩
          rw [plc_one h]; exact h4 e
        · subst h2
          replace hg : ¬ lnk ws k = true := hg
          refine ⟨I, true, St.start hS.imm, Inl.Sub.refl _, fun h => absurd h hg, fun h => absurd h hg, fun h => absurd h hg, fun h => ?_⟩
          rw [plc_none h]; exact hst _ _ _ _ _ hJ hS.nil
      clear hS hor
      obtain ⟨I2, bb, hS, hsub2, hu26, hyt, hyf, hyn⟩ := hx
      refine qu rfl rfl hS (fun hg => (g_not (hu26 hg))) ?_
      intro u27 hu27 hn27
      refine qq hS (g_and rfl rfl (fun hq => hu27 hq)) ?_
      refine ol_nil (thenN ?_)
      refine cond_s rfl ?_ ?_
      ·
        intro hc28
        clear hu23 hn23 hu24 hn24 hu25 hn25 hu26 hu27 hn27
        simp only [Bool.and_eq_true, Bool.not_eq_true'] at hc28
        have hc1 : lnk ws k = true := hc28.1
        have hfin := hyf hc1 hc28.2
        refine wpIn_ret ?_
        refine blkR (thenR (thenR (blkR ?_)))
        refine ret0 Tryz.results114  ?_
        exact ⟨_, hS.imm, hsub1.trans hsub2, .inr ⟨(plc k (lnk ws)).length, plc_lt hc1 hkl, hfin⟩⟩
      ·
        intro hc28
        clear hu23 hn23 hu24 hn24 hu25 hn25 hu26 hu27 hn27
        have hJ2 : J (plc (k + 1) (lnk ws)).length I2 w26 := by
          cases hf : lnk ws k with
          | true =>
            have hf' : linkedP (instAt ws k) (4 * (ws.length : Int)) = true := hf
            rw [hf', Bool.true_and] at hc28
            exact hyt hf (by simpa using hc28)
          | false => exact hyn hf
        refine wpIn_skip ?_
        refine blkN (thenN ?_)
        refine reg ?_
        refine qq hS (g_add rfl rfl (by omega) (by omega)) ?_
        refine qq hS (g_movev (v := .int .i64 _) rfl) ?_
        exact ⟨k + 1, _, rfl, ⟨⟨rfl, rfl, rfl, rfl, rfl, trivial⟩, _, hS.sel [], by omega, hsub1.trans hsub2, hJ2⟩, by omega⟩
    ·
      intro hc9
      try simp only [Bool.and_eq_true, Bool.or_eq_true, Bool.not_eq_true', Bool.and_eq_false_imp, Bool.or_eq_false_iff, Bool.not_eq_false', decide_eq_true_eq, decide_eq_false_iff_not] at hc9
      have hk : k = ws.length := by omega
      subst hk
      refine wpIn_exit ?_
      refine thenE (thenE (blkE ?_))
      refine end0 Tryz.results114  ?_
      exact ⟨_, hS.imm, hsub1, .inl hJ⟩

theorem find_c (ad : Option Addr) (cap i b : Nat) (n : Int) (l : List Int) (w0 : World) (I0 : Imm) (hI : Sat I0 w0) (hb : atI I0 ⟨b, 0, none⟩ [.slice ad l.length cap]) (hl : RFl I0 1 intC (.slice ad l.length cap) l) (hs : SrtAt l n i) (hbig : l.length ≤ 65536) :
    Ctr Tryz.prog 75 [.int .i64 n, .pointer (some ⟨b, 0, none⟩)] w0 (fun v w' => v = .int .u32 i ∧ Ext w0 I0 w' I0) := by
  have hil := (List.getElem?_eq_some_iff.1 hs.at_).1
  refine fn (n := 14) Tryz.func75 rfl rfl rfl ?_
  have hS := St.start hI
  refine wpIn_seq ?_
  refine reg ?_
  refine qq hS (g_assignv (v := .int .u32 _) rfl) ?_
  refine ol_nil (thenN ?_)
  refine wpIn_seq ?_
  refine reg ?_
  refine qq hS (g_ldB1 (c := 0) Tryz.isAgg74 hb rfl rfl) ?_
  refine qq hS (g_movev (v := .int .i64 _) rfl) ?_
  refine qe (d_call Tryz.call76 rfl (bsearch_c ad cap i n l _ I0 hS.imm hl hs (by omega))) ?_
  rintro _ w_1 ⟨rfl, hE⟩
  replace hS := hS.callE hE
  refine qq hS (g_move _) ?_
  refine qq hS (g_extract (v := .int .i64 _) rfl rfl) ?_
  refine qq hS (g_extract (v := .bool _) rfl rfl) ?_
  refine qq hS (g_assignv (v := .int .i64 _) rfl) ?_
  refine qq hS (g_assignv (v := .bool _) rfl) ?_
  refine ol_nil (thenN ?_)
  refine wpIn_seq ?_
  refine reg ?_
  refine qq hS (g_movev (v := .int .i64 _) rfl) ?_
  refine qq hS (g_convK (c := (i : Int)) Tryz.underlying3 Tryz.underlying93 rfl (by rw [IntKind.wrap_u32]; omega)) ?_
  refine qq hS (g_assignv (v := .int .u32 _) rfl) ?_
  refine ol_nil (thenN ?_)
  refine wpIn_ret ?_
  refine ret1 Tryz.results75 (rv_tmp (v := .int .u32 _) rfl) ?_
  exact ⟨rfl, hS.nil⟩

end Go.Proofs.YtaklmbhfmpdinaaGreatDoor


namespace Go.Proofs.YtaklmbhfmpdinaaGreatDoor
open Go Go.RowKit Go.Inl
set_option linter.unusedSimpArgs false
set_option linter.unusedVariables false
theorem tgts_at {ws : List Int} {k i : Nat} (h : (lks ws)[k]? = some i) : (tgts ws)[k]? = some (instAt ws i).n := by unfold tgts; rw [List.getElem?_map, h]; rfl
theorem tgts_all (ws : List Int) : (tgts ws).take (lks ws).length = tgts ws := List.take_of_length_le (by unfold tgts; rw [List.length_map]; exact Nat.le_refl _)
theorem tgts_eqlen (ws : List Int) : (tgts ws).length = (lks ws).length := by unfold tgts; rw [List.length_map]
theorem word_mod {y : Int} {m : Nat} (h : 0 ≤ y) : 0 ≤ y % 2 ^ m ∧ y % 2 ^ m ≤ y ∧ (y - y % 2 ^ m) % 2 ^ m = 0 := by
  have h2 : (0 : Int) < 2 ^ m := by have := Nat.one_le_two_pow (n := m); exact_mod_cast this
  have h3 := Int.emod_add_mul_ediv y (2 ^ m)
  have h4 : 0 ≤ 2 ^ m * (y / 2 ^ m) := Int.mul_nonneg (by omega) (Int.ediv_nonneg h (by omega))
  refine ⟨Int.emod_nonneg _ (by omega), by omega, ?_⟩
  exact Int.emod_eq_zero_of_dvd ⟨y / 2 ^ m, by omega⟩

set_option maxHeartbeats 2000000 in
theorem lift_c (ad : Option Addr) (cap n : Nat) (b : List Int) (w0 : World) (I0 : Imm) (hI : Sat I0 w0) (hl : RBytes I0 (.slice ad b.length cap) b) (hb : Byts b) (hn : b.length = 4 * n) (hn1 : n ≤ 16384) :
    Ctr Tryz.prog 33 [.slice ad b.length cap] w0 (fun v w' => ∃ I' a0 c0 a1 c1 a2 c2, v = .tuple #[.agg #[.slice a0 n c0, .slice a1 n c1, .slice a2 (labelsP (wordsN b n)).length c2], .int .i64 0] ∧ Ext w0 I0 w' I' ∧
      RFl I' 1 u32C (.slice a0 n c0) (liftP (wordsN b n)).words ∧ RFl I' 1 boolC (.slice a1 n c1) (liftP (wordsN b n)).marks ∧ RFl I' 1 intC (.slice a2 (labelsP (wordsN b n)).length c2) (liftP (wordsN b n)).labels) := by
  have hwl := wordsN_len b n
  have hwr := wordsN_wrds hb n
  have hwn : (((wordsN b n).length : Nat) : Int) = n := by rw [hwl]
  have hll := lks_len (wordsN b n)
  have hlen := labelsP_len (wordsN b n)
  rw [hwl] at hll hlen
  refine fnM (n := 78) Tryz.func33 rfl rfl rfl ?_
  have hS := St.start hI
  refine wpIn_seq ?_
  refine reg ?_
  refine qe (d_alloc (cs := [.slice _ _ _, .slice _ _ _, .slice _ _ _]) hS Tryz.zeroValue76 rfl) ?_
  clear hS
  rintro _ w_1 ⟨b2, rfl, hS⟩
  refine qq hS (g_assignv (v := .int .i64 _) rfl) ?_
  refine ol_nil (thenN ?_)
  refine wpIn_seq ?_
  refine reg ?_
  refine qq hS (g_move _) ?_
  refine qe (d_call Tryz.call71 rfl (words_c ad cap n b _ _ hS.imm hl hb hn (by omega))) ?_
  rintro _ w_2 ⟨I_f, a15, c15, rfl, hE, h15⟩
  replace hS := hS.callE hE
  replace hl := hl.mono hE.ext
  refine qq hS (g_move _) ?_
  refine qq hS (g_extract rfl rfl) ?_
  refine qq hS (g_extract (v := .int .i64 _) rfl rfl) ?_
  refine qe (d_alloc (cs := [.slice _ _ _]) hS Tryz.zeroValue72 rfl) ?_
  clear hS
  rintro _ w_3 ⟨b4, rfl, hS⟩
  refine qe (d_store 0 hS Tryz.sizeOf72 rfl rfl rfl (vs := [.slice _ _ _]) rfl rfl rfl (Nat.le_of_ble_eq_true rfl) (cs' := [_]) rfl) ?_
  clear hS
  rintro _ w_4 ⟨rfl, hS⟩
  refine qq hS (g_assignv (v := .int .i64 _) rfl) ?_
  refine ol_nil (thenN ?_)
  refine wpIn_seq ?_
  refine wpIn_seq ?_
  refine reg ?_
  refine qq hS (g_movev (v := .int .i64 _) rfl) ?_
  refine qq hS (g_neqF rfl rfl rfl) ?_
  refine qq hS (g_movev (v := .bool _) rfl) ?_
  refine qqs rfl rfl hS (g_move _) ?_
  refine qqs rfl rfl hS (g_lenI rfl Tryz.underlying22 hl rfl) ?_
  refine qqs rfl rfl hS (g_toV (g_gtr rfl rfl) (congrArg Value.bool (decide_eq_false (show ¬ (65536 : Int) < (b.length : Int) by omega)))) ?_
  refine qq hS (g_or (b := false) rfl rfl (fun _ => rfl)) ?_
  refine ol_nil (thenN ?_)
  refine cond_f (rfl) ?_
  refine wpIn_skip ?_
  refine thenN ?_
  refine wpIn_seq ?_
  refine reg ?_
  refine qe (d_alloc (cs := [.slice _ _ _]) hS Tryz.zeroValue74 rfl) ?_
  clear hS
  rintro _ w_5 ⟨b6, rfl, hS⟩
  refine ol_nil (thenN ?_)
  refine wpIn_seq ?_
  refine wpIn_seq ?_
  refine reg ?_
  refine qq hS (g_ldO1 1 Tryz.isAgg72 rfl rfl rfl) ?_
  refine qe (d_call Tryz.call72 rfl (links_c _ _ _ _ _ hS.imm)) ?_
  rintro _ w_6 ⟨I_f, b27, rfl, hE, h27⟩
  replace hS := hS.callE hE
  replace hl := hl.mono hE.ext
  replace h15 := h15.mono hE.ext
  refine ol_nil (thenN ?_)
  refine wpIn_block ?_
  replace hS := hS.nilRow 3 1
  refine range_wp (N := (lks (wordsN b n)).length) (arg := lkA (wordsN b n) (lks (wordsN b n))) (fun k I L => RFl I 1 u32C (.slice a15 n c15) (wordsN b n) ∧ ∃ a c, L = [.row (.slice a k c) 3 1 k (flat intC ((tgts (wordsN b n)).take k)), .cel b6 74 [.slice a k c], .cel b4 72 [.slice a15 n c15], .cel b2 76 [.slice none 0 0, .slice none 0 0, .slice none 0 0]]) (fun k c I L => False) hS rfl Tryz.call114 (links1_it (wordsN b n) b27 c15 a15 _ (by rw [hwl]; exact h27) (by rw [hwl]; exact h15) hwr (by omega)) (fun _ => rfl) ?_ (⟨h15, none, 0, rfl⟩) ?_ ?_ ?_
  ·
    rintro k I I' L ⟨h1, h⟩ hs
    exact ⟨h1.mono hs, h⟩
  ·
    rintro k l D oR oB I1 w1 L1 X1 hk ⟨h15, a, c, rfl⟩ hS
    obtain ⟨i, hi⟩ : ∃ i, (lks (wordsN b n))[k]? = some i := ⟨_, List.getElem?_eq_getElem hk⟩
    rw [lkA_at hi]
    have htk := tgts_at hi
    show Code.wpIn _ _ _ _ _ (act _ [] (upd (upd _ 28 _) 29 _)) _
    refine reg ?_
    refine qe (d_alloc (cs := [.int .i64 _, .int .i64 _, .int .i64 _, .int .i64 _, .int .i64 _]) hS Tryz.zeroValue97 rfl) ?_
    clear hS
    rintro _ w_7 ⟨b8, rfl, hS⟩
    refine qe (d_store 0 hS Tryz.sizeOf97 rfl rfl rfl (vs := [.int .i64 _, .int .i64 _, .int .i64 _, .int .i64 _, .int .i64 _]) rfl rfl rfl (Nat.le_of_ble_eq_true rfl) (cs' := [_, _, _, _, _]) rfl) ?_
    clear hS
    rintro _ w_8 ⟨rfl, hS⟩
    refine ol_nil ?_
    refine thenN ⟨_, _, _, rfl, (hS.ord [1, 2, 0, 3, 4, 5, 6]), ?_⟩
    intro w_b hS
    refine wpIn_block ?_
    refine reg ?_
    refine qq hS (g_ldO1 4 Tryz.isAgg74 rfl rfl rfl) ?_
    refine qq hS (g_fieldAddr (o' := 4) Tryz.underlying97 rfl Tryz.sizeOf3 rfl rfl rfl) ?_
    refine qq hS (g_ldO1 2 Tryz.isAgg3 rfl rfl rfl) ?_
    refine qe (d_lit (vs := [.int .i64 _]) (cs := [.int .i64 _]) hS Tryz.underlying74 Tryz.sizeOf3 Tryz.zeroValue3 rfl rfl rfl rfl (fun v hv => by simp only [List.mem_cons, List.not_mem_nil, or_false] at hv; subst hv; rfl) rfl) ?_
    clear hS
    rintro _ w_9 ⟨b33, rfl, hS⟩
    refine qe (i_appendO 4 0 hS rfl Tryz.underlying74 info3 rfl rfl rfl rfl rfl rfl rfl rfl (by omega) (by omega)) ?_
    clear hS
    rintro _ w_10 ⟨a34, p34, rfl, hS⟩
    refine qe (d_store 5 hS Tryz.sizeOf74 rfl rfl rfl (vs := [.slice _ _ _]) rfl rfl rfl (Nat.le_of_ble_eq_true rfl) (cs' := [_]) rfl) ?_
    clear hS
    rintro _ w_11 ⟨rfl, hS⟩
    refine ol_nil (blkN ?_)
    refine ⟨_, _, (hS.sel [false, true, true, false, true, true, true, true]), h15, a34, p34, ?_⟩
    rw [take_snoc htk, flat_append, flat_one]; rfl
  ·
    rintro D0 I1 w1 L1 ⟨h15, a, c, rfl⟩ hS
    rw [tgts_all] at hS
    refine blkN (thenN ?_)
    refine wpIn_seq ?_
    refine reg ?_
    refine qq hS (g_ldO1 2 Tryz.isAgg74 rfl rfl rfl) ?_
    refine qe (d_call Tryz.call73 rfl (sort_row 1 sortOk hS rfl (by rw [tgts_eqlen]) (by omega))) ?_
    clear hS
    rintro _ w_12 ⟨rfl, hS⟩
    refine ol_nil (thenN ?_)
    refine wpIn_seq ?_
    refine reg ?_
    refine qq hS (g_ldO1 2 Tryz.isAgg74 rfl rfl rfl) ?_
    refine qe (d_call Tryz.call74 rfl (show Ctr _ _ _ _ (fun v w' => v = .slice a (labelsP (wordsN b n)).length c ∧ St _ _ _ _ w' (List.set _ 1 (.row (.slice a (labelsP (wordsN b n)).length c) 3 1 (labelsP (wordsN b n)).length (flat intC (labelsP (wordsN b n)))))) from compact_row 1 compOk hS rfl (by rw [List.length_mergeSort, tgts_eqlen]) (by omega))) ?_
    clear hS
    rintro _ w_13 ⟨rfl, hS⟩
    refine qe (d_store 2 hS Tryz.sizeOf74 rfl rfl rfl (vs := [.slice _ _ _]) rfl rfl rfl (Nat.le_of_ble_eq_true rfl) (cs' := [_]) rfl) ?_
    clear hS
    rintro _ w_14 ⟨rfl, hS⟩
    refine ol_nil (thenN ?_)
    refine wpIn_seq ?_
    have hF := St.freezeRow (u := .slice a (labelsP (wordsN b n)).length c) (m := (labelsP (wordsN b n)).length) (xs := labelsP (wordsN b n)) intC_len (by exact hS.ord [1, 0, 2, 3, 4]) (rfl)
    clear hS
    obtain ⟨I_hlab, hS, hI_hlab, hlab⟩ := hF
    replace h15 := h15.mono hI_hlab
    have hF := hS.freezeAt 1 rfl
    clear hS
    obtain ⟨I_h6, hS, hI_h6, h6⟩ := hF
    replace h15 := h15.mono hI_h6
    replace hlab := hlab.mono hI_h6
    refine reg ?_
    refine qq hS (g_makeFuncL ml0 (ml rfl ml0)) ?_
    refine qe (d_alloc (cs := [_]) hS Tryz.zeroValue150 rfl) ?_
    clear hS
    rintro _ w_15 ⟨b9, rfl, hS⟩
    refine qe (d_store 0 hS Tryz.sizeOf150 rfl rfl rfl (vs := [_]) rfl rfl rfl (Nat.le_of_ble_eq_true rfl) (cs' := [_]) rfl) ?_
    clear hS
    rintro _ w_16 ⟨rfl, hS⟩
    refine ol_nil (thenN ?_)
    refine meet (fun σ w => ∃ I b42 b45 b9 b10, okS σ [(2, .pointer (some ⟨b2, 0, none⟩)), (4, .pointer (some ⟨b4, 0, none⟩)), (6, .pointer (some ⟨b6, 0, none⟩)), (9, .pointer (some ⟨b9, 0, none⟩)), (10, .pointer (some ⟨b10, 0, none⟩))] ∧ St [] w0 I0 I w [.obj D0 (.deferred (some [])), .cel b10 76 [.slice (some ⟨b42, 0, none⟩) n n, .slice (some ⟨b45, 0, none⟩) n n, .slice a (labelsP (wordsN b n)).length c], .cel b9 150 [.func (.func 75) #[] #[.pointer (some ⟨b6, 0, none⟩)]], .cel b4 72 [.slice a15 n c15], .cel b2 76 [.slice none 0 0, .slice none 0 0, .slice none 0 0], .cel b42 93 (flat u32C (List.replicate n 0)), .cel b45 4 (flat boolC (List.replicate n false))] ∧ (RFl I 1 u32C (.slice a15 n c15) (wordsN b n) ∧ atI I ⟨b6, 0, none⟩ [.slice a (labelsP (wordsN b n)).length c] ∧ RFl I 1 intC (.slice a (labelsP (wordsN b n)).length c) (labelsP (wordsN b n)))) ?_ ?_
    ·
      refine draw (.cons 0 .held (.cons 1 .pure (.cons 3 .held (.cons 4 .pure (.cons 6 .held (.fork3 2 (.fork 5 (.cons 7 .pure (.cons 8 .eff (.cons 9 .bar .nil))) 8 (.cons 5 .eff (.cons 7 .pure (.cons 9 .bar .nil)))) 5 (.fork 2 (.cons 7 .pure (.cons 8 .eff (.cons 9 .bar .nil))) 8 (.cons 2 .eff (.cons 7 .pure (.cons 9 .bar .nil)))) 8 (.fork 2 (.cons 5 .eff (.cons 7 .pure (.cons 9 .bar .nil))) 5 (.cons 2 .eff (.cons 7 .pure (.cons 9 .bar .nil)))))))))) mixed (by kernel_rfl) hS ?_
      intro w_17 hS
      refine sh rfl (g_ldO1 2 Tryz.isAgg72 rfl rfl rfl) ?_
      refine sp rfl (g_lenI rfl Tryz.underlying72 h15 rfl) ?_
      refine sh rfl (g_ldO1 2 Tryz.isAgg72 rfl rfl rfl) ?_
      refine sp rfl (g_lenI rfl Tryz.underlying72 h15 rfl) ?_
      refine sh rfl (g_ldB1 (c := 0) Tryz.isAgg74 h6 rfl rfl) ?_
      refine sk3 ?_ ?_ ?_
      ·
        have hS0 := hS
        refine se rfl (d_makeF u32C_len 0 n hS Tryz.underlying72 info93 rfl rfl rfl rfl hwn (by omega) rfl) ?_
        rintro _ w_18 ⟨b42, rfl, hS⟩
        refine ⟨_, _, hS0.le (Sub.refl _) (List.sublist_cons_self _ _), hS, ?_⟩
        refine sk ?_ ?_
        ·
          have hS0 := hS
          refine se rfl (d_makeF boolC_len false n hS Tryz.underlying73 info4 rfl rfl rfl rfl hwn (by omega) rfl) ?_
          rintro _ w_19 ⟨b45, rfl, hS⟩
          refine ⟨_, _, hS0.le (Sub.refl _) (List.sublist_cons_self _ _), hS, ?_⟩
          refine sp rfl (g_buildv (pl := [(0, 1), (1, 1), (2, 1)]) (cs := [.slice _ _ _, .slice _ _ _, .slice _ _ _]) Tryz.zeroValue76 Tryz.underlying76 (fun w => by simp [Tryz.sizeOf72, Tryz.sizeOf73, Tryz.sizeOf74]) (mp rfl (mp rfl (mp rfl mp0))) rfl) ?_
          have hS0 := hS
          refine se rfl (d_alloc (cs := [.slice _ _ _, .slice _ _ _, .slice _ _ _]) hS Tryz.zeroValue76 rfl) ?_
          rintro _ w_20 ⟨b10, rfl, hS⟩
          refine ⟨_, _, hS0.le (Sub.refl _) (List.sublist_cons_self _ _), hS, ?_⟩
          refine sb rfl (d_store 0 hS Tryz.sizeOf76 rfl rfl rfl (vs := [.slice _ _ _, .slice _ _ _, .slice _ _ _]) rfl rfl rfl (Nat.le_of_ble_eq_true rfl) (cs' := [_, _, _]) rfl) ?_
          rintro _ w_21 ⟨rfl, hS⟩
          refine ⟨_, _, hS, ?_⟩
          refine sn (thenN ?_)
          exact ⟨_, rfl, _, b42, b45, b9, b10, ⟨rfl, rfl, rfl, rfl, rfl, trivial⟩, (hS.ord [4, 0, 3, 5, 6, 2, 1]), h15, h6, hlab⟩
        ·
          have hS0 := hS
          refine se rfl (d_alloc (cs := [.slice _ _ _, .slice _ _ _, .slice _ _ _]) hS Tryz.zeroValue76 rfl) ?_
          rintro _ w_22 ⟨b10, rfl, hS⟩
          refine ⟨_, _, hS0.le (Sub.refl _) (List.sublist_cons_self _ _), hS, ?_⟩
          have hS0 := hS
          refine se rfl (d_makeF boolC_len false n hS Tryz.underlying73 info4 rfl rfl rfl rfl hwn (by omega) rfl) ?_
          rintro _ w_23 ⟨b45, rfl, hS⟩
          refine ⟨_, _, hS0.le (Sub.refl _) (List.sublist_cons_self _ _), hS, ?_⟩
          refine sp rfl (g_buildv (pl := [(0, 1), (1, 1), (2, 1)]) (cs := [.slice _ _ _, .slice _ _ _, .slice _ _ _]) Tryz.zeroValue76 Tryz.underlying76 (fun w => by simp [Tryz.sizeOf72, Tryz.sizeOf73, Tryz.sizeOf74]) (mp rfl (mp rfl (mp rfl mp0))) rfl) ?_
          refine sb rfl (d_store 1 hS Tryz.sizeOf76 rfl rfl rfl (vs := [.slice _ _ _, .slice _ _ _, .slice _ _ _]) rfl rfl rfl (Nat.le_of_ble_eq_true rfl) (cs' := [_, _, _]) rfl) ?_
          rintro _ w_24 ⟨rfl, hS⟩
          refine ⟨_, _, hS, ?_⟩
          refine sn (thenN ?_)
          exact ⟨_, rfl, _, b42, b45, b9, b10, ⟨rfl, rfl, rfl, rfl, rfl, trivial⟩, (hS.ord [4, 1, 3, 5, 6, 2, 0]), h15, h6, hlab⟩
      ·
        have hS0 := hS
        refine se rfl (d_makeF boolC_len false n hS Tryz.underlying73 info4 rfl rfl rfl rfl hwn (by omega) rfl) ?_
        rintro _ w_25 ⟨b45, rfl, hS⟩
        refine ⟨_, _, hS0.le (Sub.refl _) (List.sublist_cons_self _ _), hS, ?_⟩
        refine sk ?_ ?_
        ·
          have hS0 := hS
          refine se rfl (d_makeF u32C_len 0 n hS Tryz.underlying72 info93 rfl rfl rfl rfl hwn (by omega) rfl) ?_
          rintro _ w_26 ⟨b42, rfl, hS⟩
          refine ⟨_, _, hS0.le (Sub.refl _) (List.sublist_cons_self _ _), hS, ?_⟩
          refine sp rfl (g_buildv (pl := [(0, 1), (1, 1), (2, 1)]) (cs := [.slice _ _ _, .slice _ _ _, .slice _ _ _]) Tryz.zeroValue76 Tryz.underlying76 (fun w => by simp [Tryz.sizeOf72, Tryz.sizeOf73, Tryz.sizeOf74]) (mp rfl (mp rfl (mp rfl mp0))) rfl) ?_
          have hS0 := hS
          refine se rfl (d_alloc (cs := [.slice _ _ _, .slice _ _ _, .slice _ _ _]) hS Tryz.zeroValue76 rfl) ?_
          rintro _ w_27 ⟨b10, rfl, hS⟩
          refine ⟨_, _, hS0.le (Sub.refl _) (List.sublist_cons_self _ _), hS, ?_⟩
          refine sb rfl (d_store 0 hS Tryz.sizeOf76 rfl rfl rfl (vs := [.slice _ _ _, .slice _ _ _, .slice _ _ _]) rfl rfl rfl (Nat.le_of_ble_eq_true rfl) (cs' := [_, _, _]) rfl) ?_
          rintro _ w_28 ⟨rfl, hS⟩
          refine ⟨_, _, hS, ?_⟩
          refine sn (thenN ?_)
          exact ⟨_, rfl, _, b42, b45, b9, b10, ⟨rfl, rfl, rfl, rfl, rfl, trivial⟩, (hS.ord [4, 0, 3, 5, 6, 1, 2]), h15, h6, hlab⟩
        ·
          have hS0 := hS
          refine se rfl (d_alloc (cs := [.slice _ _ _, .slice _ _ _, .slice _ _ _]) hS Tryz.zeroValue76 rfl) ?_
          rintro _ w_29 ⟨b10, rfl, hS⟩
          refine ⟨_, _, hS0.le (Sub.refl _) (List.sublist_cons_self _ _), hS, ?_⟩
          have hS0 := hS
          refine se rfl (d_makeF u32C_len 0 n hS Tryz.underlying72 info93 rfl rfl rfl rfl hwn (by omega) rfl) ?_
          rintro _ w_30 ⟨b42, rfl, hS⟩
          refine ⟨_, _, hS0.le (Sub.refl _) (List.sublist_cons_self _ _), hS, ?_⟩
          refine sp rfl (g_buildv (pl := [(0, 1), (1, 1), (2, 1)]) (cs := [.slice _ _ _, .slice _ _ _, .slice _ _ _]) Tryz.zeroValue76 Tryz.underlying76 (fun w => by simp [Tryz.sizeOf72, Tryz.sizeOf73, Tryz.sizeOf74]) (mp rfl (mp rfl (mp rfl mp0))) rfl) ?_
          refine sb rfl (d_store 1 hS Tryz.sizeOf76 rfl rfl rfl (vs := [.slice _ _ _, .slice _ _ _, .slice _ _ _]) rfl rfl rfl (Nat.le_of_ble_eq_true rfl) (cs' := [_, _, _]) rfl) ?_
          rintro _ w_31 ⟨rfl, hS⟩
          refine ⟨_, _, hS, ?_⟩
          refine sn (thenN ?_)
          exact ⟨_, rfl, _, b42, b45, b9, b10, ⟨rfl, rfl, rfl, rfl, rfl, trivial⟩, (hS.ord [4, 1, 3, 5, 6, 0, 2]), h15, h6, hlab⟩
      ·
        have hS0 := hS
        refine se rfl (d_alloc (cs := [.slice _ _ _, .slice _ _ _, .slice _ _ _]) hS Tryz.zeroValue76 rfl) ?_
        rintro _ w_32 ⟨b10, rfl, hS⟩
        refine ⟨_, _, hS0.le (Sub.refl _) (List.sublist_cons_self _ _), hS, ?_⟩
        refine sk ?_ ?_
        ·
          have hS0 := hS
          refine se rfl (d_makeF u32C_len 0 n hS Tryz.underlying72 info93 rfl rfl rfl rfl hwn (by omega) rfl) ?_
          rintro _ w_33 ⟨b42, rfl, hS⟩
          refine ⟨_, _, hS0.le (Sub.refl _) (List.sublist_cons_self _ _), hS, ?_⟩
          have hS0 := hS
          refine se rfl (d_makeF boolC_len false n hS Tryz.underlying73 info4 rfl rfl rfl rfl hwn (by omega) rfl) ?_
          rintro _ w_34 ⟨b45, rfl, hS⟩
          refine ⟨_, _, hS0.le (Sub.refl _) (List.sublist_cons_self _ _), hS, ?_⟩
          refine sp rfl (g_buildv (pl := [(0, 1), (1, 1), (2, 1)]) (cs := [.slice _ _ _, .slice _ _ _, .slice _ _ _]) Tryz.zeroValue76 Tryz.underlying76 (fun w => by simp [Tryz.sizeOf72, Tryz.sizeOf73, Tryz.sizeOf74]) (mp rfl (mp rfl (mp rfl mp0))) rfl) ?_
          refine sb rfl (d_store 2 hS Tryz.sizeOf76 rfl rfl rfl (vs := [.slice _ _ _, .slice _ _ _, .slice _ _ _]) rfl rfl rfl (Nat.le_of_ble_eq_true rfl) (cs' := [_, _, _]) rfl) ?_
          rintro _ w_35 ⟨rfl, hS⟩
          refine ⟨_, _, hS, ?_⟩
          refine sn (thenN ?_)
          exact ⟨_, rfl, _, b42, b45, b9, b10, ⟨rfl, rfl, rfl, rfl, rfl, trivial⟩, (hS.ord [4, 2, 3, 5, 6, 1, 0]), h15, h6, hlab⟩
        ·
          have hS0 := hS
          refine se rfl (d_makeF boolC_len false n hS Tryz.underlying73 info4 rfl rfl rfl rfl hwn (by omega) rfl) ?_
          rintro _ w_36 ⟨b45, rfl, hS⟩
          refine ⟨_, _, hS0.le (Sub.refl _) (List.sublist_cons_self _ _), hS, ?_⟩
          have hS0 := hS
          refine se rfl (d_makeF u32C_len 0 n hS Tryz.underlying72 info93 rfl rfl rfl rfl hwn (by omega) rfl) ?_
          rintro _ w_37 ⟨b42, rfl, hS⟩
          refine ⟨_, _, hS0.le (Sub.refl _) (List.sublist_cons_self _ _), hS, ?_⟩
          refine sp rfl (g_buildv (pl := [(0, 1), (1, 1), (2, 1)]) (cs := [.slice _ _ _, .slice _ _ _, .slice _ _ _]) Tryz.zeroValue76 Tryz.underlying76 (fun w => by simp [Tryz.sizeOf72, Tryz.sizeOf73, Tryz.sizeOf74]) (mp rfl (mp rfl (mp rfl mp0))) rfl) ?_
          refine sb rfl (d_store 2 hS Tryz.sizeOf76 rfl rfl rfl (vs := [.slice _ _ _, .slice _ _ _, .slice _ _ _]) rfl rfl rfl (Nat.le_of_ble_eq_true rfl) (cs' := [_, _, _]) rfl) ?_
          rintro _ w_38 ⟨rfl, hS⟩
          refine ⟨_, _, hS, ?_⟩
          refine sn (thenN ?_)
          exact ⟨_, rfl, _, b42, b45, b9, b10, ⟨rfl, rfl, rfl, rfl, rfl, trivial⟩, (hS.ord [4, 2, 3, 5, 6, 0, 1]), h15, h6, hlab⟩
    ·
      rintro σ w_j ⟨I, b42, b45, b9, b10, hs, hS, h15, h6, hlab⟩
      rw [← upds_self hs]
      refine wpIn_seq ?_
      refine reg ?_
      refine qq hS (g_fieldAddr (o' := 0) Tryz.underlying76 rfl Tryz.sizeOf72 rfl rfl rfl) ?_
      refine qq hS (g_ldO1 1 Tryz.isAgg72 rfl rfl rfl) ?_
      refine qq hS (g_ldO1 3 Tryz.isAgg72 rfl rfl rfl) ?_
      refine qe (d_copyF 5 (xs := List.replicate n 0) (ys := (wordsN b n)) u32C_len (fun _ => rfl) hS Tryz.underlying72 info93 rfl (by simp) (by simp [hwl]) (by rw [hwl]; exact h15) rfl (by rw [hwl]; rfl)) ?_
      clear hS
      rintro _ w_39 ⟨rfl, hS⟩
      replace hS := hS.asRow (k := 5) (sz := 1) (m := n) rfl (by rw [flat_length u32C_len, hwl]) (by unfold maxLen; omega)
      replace hS := hS.asRow (k := 6) (sz := 1) (m := n) rfl (by rw [flat_length boolC_len, List.length_replicate]) (by unfold maxLen; omega)
      refine ol_nil (thenN ?_)
      refine wpIn_seq ?_
      refine wpIn_seq ?_
      refine reg ?_
      refine qq hS (g_ldO1 3 Tryz.isAgg72 rfl rfl rfl) ?_
      refine qe (d_call Tryz.call72 rfl (links_c _ _ _ _ _ hS.imm)) ?_
      rintro _ w_40 ⟨I_f, b53, rfl, hE, h53⟩
      replace hS := hS.callE hE
      replace h15 := h15.mono hE.ext
      replace h6 := h6.mono hE.ext
      replace hlab := hlab.mono hE.ext
      refine ol_nil (thenN ?_)
      refine wpIn_block ?_
      refine range_wpG (N := (lks (wordsN b n)).length) (arg := lkA (wordsN b n) (lks (wordsN b n))) (fun k I L => (RFl I 1 u32C (.slice a15 n c15) (wordsN b n) ∧ atI I ⟨b6, 0, none⟩ [.slice a (labelsP (wordsN b n)).length c] ∧ RFl I 1 intC (.slice a (labelsP (wordsN b n)).length c) (labelsP (wordsN b n))) ∧ L = [.row (.slice (some ⟨b42, 0, none⟩) n n) 93 1 n (flat u32C (liftW (wordsN b n) (labelsP (wordsN b n)) ((lks (wordsN b n)).take k))), .row (.slice (some ⟨b45, 0, none⟩) n n) 4 1 n (flat boolC (liftM n ((lks (wordsN b n)).take k))), .cel b10 76 [.slice (some ⟨b42, 0, none⟩) n n, .slice (some ⟨b45, 0, none⟩) n n, .slice a (labelsP (wordsN b n)).length c], .cel b9 150 [.func (.func 75) #[] #[.pointer (some ⟨b6, 0, none⟩)]], .cel b4 72 [.slice a15 n c15], .cel b2 76 [.slice none 0 0, .slice none 0 0, .slice none 0 0], .obj D0 (.deferred (some []))]) (fun k c I L => False) (hS.ord [5, 6, 1, 2, 3, 4, 0]) rfl Tryz.call114 (links1_it (wordsN b n) b53 c15 a15 _ (by rw [hwl]; exact h53) (by rw [hwl]; exact h15) hwr (by omega)) (fun _ => rfl) ?_ (⟨⟨h15, h6, hlab⟩, rfl⟩) ?_ ?_ ?_
      ·
        rintro k I I' L ⟨⟨h1, h2, h3⟩, h⟩ hs
        exact ⟨⟨h1.mono hs, h2.mono hs, h3.mono hs⟩, h⟩
      ·
        rintro k l D oR oB I1 w1 L1 X1 hk ⟨⟨h15, h6, hlab⟩, rfl⟩ hS
        obtain ⟨i, hi⟩ : ∃ i, (lks (wordsN b n))[k]? = some i := ⟨_, List.getElem?_eq_getElem hk⟩
        rw [lkA_at hi]
        have him := List.mem_of_getElem? hi
        obtain ⟨hiw, hil⟩ := lks_mem.1 him
        rw [hwl] at hiw
        obtain ⟨y, hyi⟩ : ∃ y, (wordsN b n)[i]? = some y := ⟨_, List.getElem?_eq_getElem (by rw [hwl]; exact hiw)⟩
        have hyb := hwr y (List.mem_of_getElem? hyi)
        have hym := word_mod (m := fieldM (instAt (wordsN b n) i).op) hyb.1
        have hmt : (instAt (wordsN b n) i).n ∈ labelsP (wordsN b n) := labelsP_mem.2 (mem_tgts him)
        have hia := idxP_at hmt
        have hsrt := srt_at (labelsP_sorted (wordsN b n)) hia
        have hix := (List.getElem?_eq_some_iff.1 hia).1
        have hf1 : fieldM (instAt (wordsN b n) i).op = 24 ∨ fieldM (instAt (wordsN b n) i).op = 16 := by unfold fieldM; split <;> simp
        have hf2 : Nat.ble (fieldM (instAt (wordsN b n) i).op) IntKind.u32.bits = true := by rcases hf1 with h | h <;> rw [h] <;> rfl
        have hf3 : ((idxP (labelsP (wordsN b n)) (instAt (wordsN b n) i).n : Nat) : Int) < 2 ^ fieldM (instAt (wordsN b n) i).op := by rcases hf1 with h | h <;> rw [h] <;> omega
        have hsum : y - y % 2 ^ fieldM (instAt (wordsN b n) i).op + ((idxP (labelsP (wordsN b n)) (instAt (wordsN b n) i).n : Nat) : Int) < 4294967296 := by rcases hf1 with h | h <;> rw [h] <;> rw [h] at hf3 <;> omega
        have hnum : numAt (wordsN b n) (labelsP (wordsN b n)) i = y - y % 2 ^ fieldM (instAt (wordsN b n) i).op + (idxP (labelsP (wordsN b n)) (instAt (wordsN b n) i).n : Nat) := by unfold numAt numP; rw [getN_at hyi]
        obtain ⟨xw, hxw⟩ : ∃ x, (liftW (wordsN b n) (labelsP (wordsN b n)) ((lks (wordsN b n)).take k))[i]? = some x := ⟨_, List.getElem?_eq_getElem (by rw [liftW_len, hwl]; exact hiw)⟩
        obtain ⟨xm, hxm⟩ : ∃ x, (liftM n ((lks (wordsN b n)).take k))[i]? = some x := ⟨_, List.getElem?_eq_getElem (by rw [liftM_len]; exact hiw)⟩
        show Code.wpIn _ _ _ _ _ (act _ [] (upd (upd _ 54 _) 55 _)) _
        refine wpIn_seq ?_
        refine reg ?_
        refine qq hS (g_assignv (v := .int .i64 _) rfl) ?_
        refine ol_nil (thenN ?_)
        refine reg ?_
        refine qe (d_alloc (cs := [.int .i64 _, .int .i64 _, .int .i64 _, .int .i64 _, .int .i64 _]) hS Tryz.zeroValue97 rfl) ?_
        clear hS
        rintro _ w_41 ⟨b12, rfl, hS⟩
        refine qe (d_store 0 hS Tryz.sizeOf97 rfl rfl rfl (vs := [.int .i64 _, .int .i64 _, .int .i64 _, .int .i64 _, .int .i64 _]) rfl rfl rfl (Nat.le_of_ble_eq_true rfl) (cs' := [_, _, _, _, _]) rfl) ?_
        clear hS
        rintro _ w_42 ⟨rfl, hS⟩
        refine ol_nil ?_
        refine thenN ⟨_, _, _, rfl, (hS.ord [1, 2, 0, 3, 4, 5, 6, 7, 8, 9]), ?_⟩
        intro w_b hS
        refine wpIn_block ?_
        refine wpIn_seq ?_
        refine draw (.cons 0 .pure (.cons 1 .held (.cons 2 .pure (.cons 3 .held (.cons 4 .pure (.cons 5 .pure (.cons 6 .held (.cons 7 .pure (.cons 8 .held (.cons 11 .held (.cons 12 .pure (.cons 13 .held (.cons 9 .eff (.cons 10 .pure (.cons 14 .eff (.cons 15 .pure (.cons 16 .held (.cons 17 .bar .nil)))))))))))))))))) mixed (by kernel_rfl) hS ?_
        intro w_43 hS
        refine sp rfl (g_fieldAddr (o' := 0) Tryz.underlying76 rfl Tryz.sizeOf72 rfl rfl rfl) ?_
        refine sh rfl (g_ldO1 5 Tryz.isAgg72 rfl rfl rfl) ?_
        refine sp rfl (g_movev (v := .int .i64 _) rfl) ?_
        refine sh rfl (g_ldO1 7 Tryz.isAgg72 rfl rfl rfl) ?_
        refine sp rfl (g_movev (v := .int .i64 _) rfl) ?_
        refine sp rfl (g_ixI Tryz.underlying72 Tryz.sizeOf93 h15 rfl rfl (by omega) (by omega)) ?_
        refine sh rfl (g_ldE1 Tryz.isAgg93 (h15.at hyi) rfl rfl) ?_
        refine sp rfl (g_fieldAddr (o' := 0) Tryz.underlying97 rfl Tryz.sizeOf3 rfl rfl rfl) ?_
        refine sh rfl (g_ldO1 2 Tryz.isAgg3 rfl rfl rfl) ?_
        refine sh rfl (g_ldO1 6 Tryz.isAgg150 rfl rfl rfl) ?_
        refine sp rfl (g_fieldAddr (o' := 4) Tryz.underlying97 rfl Tryz.sizeOf3 rfl rfl rfl) ?_
        refine sh rfl (g_ldO1 2 Tryz.isAgg3 rfl rfl rfl) ?_
        have hS0 := hS
        refine se rfl (d_call Tryz.call77 rfl (field_c (instAt (wordsN b n) i).op _ _ hS.imm)) ?_
        rintro _ w_44 ⟨rfl, hE⟩
        replace hS := hS.call hE
        refine ⟨_, _, hS0.le hE.ext (List.Sublist.refl _), hS, ?_⟩
        refine sp rfl (g_andNotM (m := fieldM (instAt (wordsN b n) i).op) (c := y - y % 2 ^ fieldM (instAt (wordsN b n) i).op) rfl rfl rfl hf2 hyb.1 (Int.lt_of_lt_of_le hyb.2 (Int.le_refl _)) (by rw [IntKind.wrap_u32]; omega)) ?_
        have hS0 := hS
        refine se rfl (d_callv Tryz.call75 rfl rfl (find_c a c (idxP (labelsP (wordsN b n)) (instAt (wordsN b n) i).n) b6 (instAt (wordsN b n) i).n (labelsP (wordsN b n)) _ _ hS.imm h6 hlab hsrt (by omega))) ?_
        rintro _ w_45 ⟨rfl, hE⟩
        replace hS := hS.call hE
        refine ⟨_, _, hS0.le hE.ext (List.Sublist.refl _), hS, ?_⟩
        refine sp rfl (g_orD (m := fieldM (instAt (wordsN b n) i).op) (c := numAt (wordsN b n) (labelsP (wordsN b n)) i) rfl rfl (by omega) (Int.lt_of_lt_of_le (show _ < 4294967296 by omega) (Int.le_refl _)) hym.2.2 (by omega) hf3 (Int.lt_of_lt_of_le (show _ < 4294967296 by omega) (Int.le_refl _)) (by rw [IntKind.wrap_u32, hnum]; omega)) ?_
        refine sh rfl (g_ixR 3 Tryz.underlying72 Tryz.sizeOf93 rfl rfl rfl (by omega) (by omega)) ?_
        refine sb rfl (d_storeRow 3 u32C_len (numAt (wordsN b n) (labelsP (wordsN b n)) i) hS (by rw [liftW_len, hwl]) hxw Tryz.sizeOf93 rfl rfl rfl (vs := [.int .u32 _]) rfl rfl rfl rfl rfl) ?_
        rintro _ w_46 ⟨rfl, hS⟩
        refine ⟨_, _, hS, ?_⟩
        refine sn (thenN ?_)
        refine reg ?_
        refine qq hS (g_fieldAddr (o' := 1) Tryz.underlying76 rfl Tryz.sizeOf73 rfl rfl rfl) ?_
        refine qq hS (g_ldO1 5 Tryz.isAgg73 rfl rfl rfl) ?_
        refine qq hS (g_movev (v := .int .i64 _) rfl) ?_
        refine qq hS (g_ixR 4 Tryz.underlying73 Tryz.sizeOf4 rfl rfl rfl (by omega) (by omega)) ?_
        refine qe (d_storeRow 4 boolC_len true hS (by rw [liftM_len]) hxm Tryz.sizeOf4 rfl rfl rfl (vs := [.bool _]) rfl rfl rfl rfl rfl) ?_
        clear hS
        rintro _ w_47 ⟨rfl, hS⟩
        refine ol_nil (blkN ?_)
        refine ⟨_, _, (hS.sel [true, true, false, true, true, true, true, true, true, true]), ⟨h15, h6, hlab⟩, ?_⟩
        rw [take_snoc hi, liftW_snoc, liftM_snoc]; rfl
      ·
        rintro D I1 w1 L1 ⟨⟨h15, h6, hlab⟩, rfl⟩ hS
        refine blkN (thenN ?_)
        refine wpIn_seq ?_
        refine reg ?_
        refine qq hS (g_ldO 3 (vs := [.slice _ _ _, .slice _ _ _, .slice _ _ _]) Tryz.sizeOf76 Tryz.isAgg76 rfl rfl rfl rfl) ?_
        refine qe (d_store 6 hS Tryz.sizeOf76 rfl rfl rfl (vs := [.slice _ _ _, .slice _ _ _, .slice _ _ _]) rfl rfl rfl (Nat.le_of_ble_eq_true rfl) (cs' := [_, _, _]) rfl) ?_
        clear hS
        rintro _ w_48 ⟨rfl, hS⟩
        refine qq hS (g_assignv (v := .int .i64 _) rfl) ?_
        refine ol_nil (thenN ?_)
        refine wpIn_ret ?_
        refine retDD2 Tryz.results33 hS (k := 0) (k0 := 7) rfl rfl (by decide) (fun w_r hS => ⟨_, _, (rv_cel 6 hS Tryz.sizeOf76 Tryz.isAgg76 rfl rfl rfl), (rv_tmp (v := .int .i64 _) rfl), ?_⟩)
        rw [List.take_length] at hS
        obtain ⟨I1, hS1, hI1, hd1⟩ := St.freezeRow u32C_len (xs := liftW (wordsN b n) (labelsP (wordsN b n)) (lks (wordsN b n))) (hS.ord [1, 2]) (by rw [liftW_len, hwl])
        obtain ⟨I2, hS2, hI2, hd2⟩ := St.freezeRow boolC_len (xs := liftM n (lks (wordsN b n))) hS1 (by rw [liftM_len])
        exact ⟨I2, _, _, _, _, _, _, rfl, hS2.nil, hd1.mono hI2, by unfold liftP; rw [hwl]; exact hd2, (hlab.mono hI1).mono hI2⟩
      ·
        rintro D k c I1 w1 L1 hk h hS
        exact h.elim
  ·
    rintro D k c I1 w1 L1 hk h hS
    exact h.elim

end Go.Proofs.YtaklmbhfmpdinaaGreatDoor


namespace Go.Proofs.YtaklmbhfmpdinaaGreatDoor
open Go Go.RowKit Go.Inl
set_option linter.unusedSimpArgs false
set_option linter.unusedVariables false
theorem encode_n {x : InstL} {at_ : Int} (w0 : World) (I0 : Imm) (hI : Sat I0 w0) (h : Inl.encI x at_ = none) (hx0 : -1099511627776 ≤ x.n) (hx1 : x.n ≤ 1099511627776) (ha0 : -1099511627776 ≤ at_) (ha1 : at_ ≤ 1099511627776) :
    Ctr Tryz.prog 84 [instV x, .int .i64 at_] w0 (fun v w' => v = .tuple #[.int .u32 0, .int .i64 20] ∧ Ext w0 I0 w' I0) := by
  have := encode_c x at_ w0 I0 hI hx0 hx1 ha0 ha1; rw [h] at this; exact this
theorem encode_s {x : InstL} {at_ wv : Int} (w0 : World) (I0 : Imm) (hI : Sat I0 w0) (h : Inl.encI x at_ = some wv) (hx0 : -1099511627776 ≤ x.n) (hx1 : x.n ≤ 1099511627776) (ha0 : -1099511627776 ≤ at_) (ha1 : at_ ≤ 1099511627776) :
    Ctr Tryz.prog 84 [instV x, .int .i64 at_] w0 (fun v w' => v = .tuple #[.int .u32 wv, .int .i64 0] ∧ Ext w0 I0 w' I0) := by
  have := encode_c x at_ w0 I0 hI hx0 hx1 ha0 ha1; rw [h] at this; exact this
/-- The parts of lifted code, in memory that stands still. -/
structure RLf (I : Imm) (a0 : Option Addr) (c0 : Nat) (a1 : Option Addr) (c1 : Nat) (a2 : Option Addr) (c2 : Nat) (x : LiftL) : Prop where
  w : RFl I 1 u32C (.slice a0 x.words.length c0) x.words
  m : RFl I 1 boolC (.slice a1 x.marks.length c1) x.marks
  l : RFl I 1 intC (.slice a2 x.labels.length c2) x.labels
theorem RLf.mono {I J : Imm} {a0 : Option Addr} {c0 : Nat} {a1 : Option Addr} {c1 : Nat} {a2 : Option Addr} {c2 : Nat} {x : LiftL} (h : RLf I a0 c0 a1 c1 a2 c2 x) (hs : Inl.Sub I J) : RLf J a0 c0 a1 c1 a2 c2 x := ⟨h.w.mono hs, h.m.mono hs, h.l.mono hs⟩
def Labs (l : List Int) : Prop := ∀ n ∈ l, -1099511627776 ≤ n ∧ n ≤ 1099511627776
theorem lower_none1 {x : LiftL} (h : 16384 < x.words.length ∨ x.marks.length ≠ x.words.length) : lowR x = ([], 30) := lowR_none (by unfold lowerP; rw [if_pos h])
theorem lower_none2 {x : LiftL} (h : ¬ (16384 < x.words.length ∨ x.marks.length ≠ x.words.length)) (hb : lowBad x = true) : lowR x = ([], 30) := lowR_none (by unfold lowerP; rw [if_neg h, if_pos hb])
theorem lower_none3 {x : LiftL} (h : ¬ (16384 < x.words.length ∨ x.marks.length ≠ x.words.length)) (hb : lowBad x = false) (he : liftEq (liftP (lowW x)) x = false) : lowR x = ([], 30) :=
  lowR_none (by unfold lowerP; rw [if_neg h, if_neg (by rw [hb]; decide), if_neg (by rw [he]; decide)])
theorem lower_some {x : LiftL} (h : ¬ (16384 < x.words.length ∨ x.marks.length ≠ x.words.length)) (hb : lowBad x = false) (he : liftEq (liftP (lowW x)) x = true) : lowR x = (bytesP (lowW x), 0) :=
  lowR_some (by unfold lowerP; rw [if_neg h, if_neg (by rw [hb]; decide), if_pos he])
theorem unnumP_m {x : LiftL} {i : Nat} (h : x.marks.getD i false = true) : unnumP x i = unnum x i (x.words.getD i 0) := by unfold unnumP; rw [if_pos h]
theorem unnumP_u {x : LiftL} {i : Nat} (h : x.marks.getD i false = false) : unnumP x i = some (x.words.getD i 0) := by unfold unnumP; rw [if_neg (by rw [h]; decide)]
theorem badN_t {x : LiftL} {w : Int} (h : opOf w < 5 ∨ 8 < opOf w ∨ (x.labels.length : Int) ≤ idxOf w) : badN x w = true := by unfold badN; simp only [Bool.or_eq_true, decide_eq_true_eq]; exact h
theorem badN_f {x : LiftL} {w : Int} (h0 : ¬ opOf w < 5) (h1 : ¬ 8 < opOf w) (h2 : ¬ (x.labels.length : Int) ≤ idxOf w) : badN x w = false := by unfold badN; rw [decide_eq_false h0, decide_eq_false h1, decide_eq_false h2]; rfl
theorem unnum_bad {x : LiftL} {i : Nat} {w : Int} (h : badN x w = true) : unnum x i w = none := by unfold unnum; rw [if_pos h]
theorem unnum_ok {x : LiftL} {i : Nat} {w : Int} (h : badN x w = false) : unnum x i w = Inl.encI (instOf x w) (4 * (i : Int)) := by unfold unnum; rw [if_neg (by rw [h]; decide)]
theorem instOf_hi {x : LiftL} {w n : Int} (h : 7 ≤ opOf w) (hn : x.labels[(idxOf w).toNat]? = some n) : instOf x w = ⟨opOf w, w / 65536 % 256, 0, 0, n⟩ := by unfold instOf; rw [if_pos h, List.getD_eq_getElem?_getD, hn]; rfl
theorem instOf_lo {x : LiftL} {w n : Int} (h : ¬ 7 ≤ opOf w) (hn : x.labels[(idxOf w).toNat]? = some n) : instOf x w = ⟨opOf w, 0, 0, 0, n⟩ := by unfold instOf; rw [if_neg h, List.getD_eq_getElem?_getD, hn]; rfl
theorem idxOf_b (w : Int) : 0 ≤ idxOf w ∧ idxOf w < 16777216 := by
  unfold idxOf fieldM
  split <;> omega
theorem getDb_at {l : List Bool} {i : Nat} {x d : Bool} (h : l[i]? = some x) : l.getD i d = x := by rw [List.getD_eq_getElem?_getD, h]; rfl
theorem g_eqNilNil {P : Program} {n : Nat} {σ : Nat → Value} {S : World → Prop} {t t' ty e : TypeId} {x y : Operand} (hT : P.underlying t = some (.slice e)) (hx : ev n σ x = .slice none 0 0) (hy : ev n σ y = .slice none 0 0) : Gives P (ev n σ) S (.binOp .eql t x y t') ty (.bool true) := fun w _ => by
  have h0 := run_equal_slice_nil (P := P) w t e none 0 0 hT
  have h1 : (binOp .eql t (.slice none 0 0) (.slice none 0 0)).run P w = .ok (.bool true) w := by
    simp only [binOp]
    simp [h0]
  simp only [execOp, hx, hy, Sem.run_bind, eqGuard, h1]
  simp [Result.andThen, h1]

theorem cloneW_n (w0 : World) (I0 : Imm) (hI : Sat I0 w0) :
    Ctr Tryz.prog 83 [.slice none 0 0] w0 (fun v w' => v = .slice none 0 0 ∧ Ext w0 I0 w' I0) := by
  refine fn (n := 8) Tryz.func83 rfl rfl rfl ?_
  have hS := St.start hI
  refine wpIn_seq ?_
  refine reg ?_
  refine qq hS (g_assign _) ?_
  refine ol_nil (thenN ?_)
  refine wpIn_seq ?_
  refine wpIn_seq ?_
  refine reg ?_
  refine qq hS (g_move _) ?_
  refine qq hS (g_eqNilNil Tryz.underlying72 rfl rfl) ?_
  refine ol_nil (thenN ?_)
  refine cond_t (rfl) ?_
  refine wpIn_seq ?_
  refine reg ?_
  refine qq hS (g_assign _) ?_
  refine ol_nil (thenN ?_)
  refine wpIn_ret ?_
  refine thenR ?_
  refine ret1 Tryz.results83 (rv_tmp rfl) ?_
  exact ⟨rfl, hS.nil⟩

theorem lift_e (ad : Option Addr) (cap : Nat) (ws : List Int) (w0 : World) (I0 : Imm) (hI : Sat I0 w0) (hl : RBytes I0 (.slice ad (4 * ws.length) cap) (bytesP ws)) (hw : Wrds ws) (hn1 : ws.length ≤ 16384) :
    Ctr Tryz.prog 33 [.slice ad (4 * ws.length) cap] w0 (fun v w' => ∃ I' a0 c0 a1 c1 a2 c2, v = .tuple #[.agg #[.slice a0 (liftP ws).words.length c0, .slice a1 (liftP ws).marks.length c1, .slice a2 (liftP ws).labels.length c2], .int .i64 0] ∧ Ext w0 I0 w' I' ∧ RLf I' a0 c0 a1 c1 a2 c2 (liftP ws)) := by
  rw [← bytesP_len ws] at hl ⊢
  refine (lift_c ad cap ws.length (bytesP ws) w0 I0 hI hl (bytesP_byts ws) (bytesP_len ws) hn1).mono ?_
  rintro v w' ⟨I', a0, c0, a1, c1, a2, c2, hv, hE, h1, h2, h3⟩
  rw [wordsN_bytes hw] at hv h1 h2 h3
  have e1 : (liftP ws).words.length = ws.length := liftW_len _ _ _
  have e2 : (liftP ws).marks.length = ws.length := liftM_len _ _
  have e3 : (liftP ws).labels.length = (labelsP ws).length := rfl
  refine ⟨I', a0, c0, a1, c1, a2, c2, ?_, hE, ?_, ?_, ?_⟩
  · rw [e1, e2, e3]; exact hv
  · rw [e1]; exact h1
  · rw [e2]; exact h2
  · rw [e3]; exact h3

theorem bytes_E (ad : Option Addr) (cap n : Nat) (l : List Int) (w0 : World) (I0 : Imm) (hI : Sat I0 w0) (hl : RFl I0 1 u32C (.slice ad n cap) l) (hw : Wrds l) (hn : n = l.length) (hn1 : n ≤ 1073741824) :
    Ctr Tryz.prog 80 [.slice ad n cap] w0 (fun v w' => ∃ I' a c, v = .slice a (4 * l.length) c ∧ Ext w0 I0 w' I' ∧ RBytes I' (.slice a (4 * l.length) c) (bytesP l)) := by
  subst hn; exact bytes_c ad cap l w0 I0 hI hl hw hn1

theorem cloneW_g (ad : Option Addr) (cap : Nat) (l : List Int) (w0 : World) (I0 : Imm) (hI : Sat I0 w0) (hl : RFl I0 1 u32C (.slice ad l.length cap) l) (hn : l.length ≤ 1073741824) :
    Ctr Tryz.prog 83 [.slice ad l.length cap] w0 (fun v w' => ∃ a c, v = .slice a l.length c ∧ St [] w0 I0 I0 w' [.row (.slice a l.length c) 93 1 l.length (flat u32C l)]) := by
  cases ad with
  | some ad => exact cloneW_o ad cap l w0 I0 hI hl hn
  | none =>
    rcases hl with ⟨⟨a, c, hv, _, hc⟩, hz⟩ | ⟨b, o, c, hv, _⟩
    · subst hz
      simp only [Value.slice.injEq] at hv
      obtain ⟨rfl, _, rfl⟩ := hv
      obtain rfl := hc rfl
      exact (cloneW_n w0 I0 hI).mono fun v w' ⟨hv, hE⟩ => ⟨none, 0, hv, St.nilRow hE 93 1⟩
    · simp at hv

theorem lfeq_c (x y : LiftL) (a0 a1 a2 a0y a1y a2y : Option Addr) (c0 c1 c2 c0y c1y c2y : Nat) (w0 : World) (I0 : Imm) (hI : Sat I0 w0) (hx : RLf I0 a0 c0 a1 c1 a2 c2 x) (hy : RLf I0 a0y c0y a1y c1y a2y c2y y) :
    Ctr Tryz.prog 85 [.agg #[.slice a0 x.words.length c0, .slice a1 x.marks.length c1, .slice a2 x.labels.length c2], .agg #[.slice a0y y.words.length c0y, .slice a1y y.marks.length c1y, .slice a2y y.labels.length c2y]] w0 (fun v w' => v = .bool (liftEq x y) ∧ Ext w0 I0 w' I0) := by
  refine fn (n := 24) Tryz.func85 rfl rfl rfl ?_
  have hS := St.start hI
  refine wpIn_seq ?_
  refine reg ?_
  refine qe (d_box (cs := [.slice _ _ _, .slice _ _ _, .slice _ _ _]) hS rfl) ?_
  clear hS
  rintro _ w_1 ⟨b2, rfl, hS⟩
  refine qe (d_box (cs := [.slice _ _ _, .slice _ _ _, .slice _ _ _]) hS rfl) ?_
  clear hS
  rintro _ w_2 ⟨b3, rfl, hS⟩
  refine qq hS (g_assignv (v := .bool _) rfl) ?_
  refine ol_nil (thenN ?_)
  refine wpIn_seq ?_
  refine reg ?_
  refine qq hS (g_fieldAddr (o' := 0) Tryz.underlying76 rfl Tryz.sizeOf72 rfl rfl rfl) ?_
  refine qq hS (g_ldO1 1 Tryz.isAgg72 rfl rfl rfl) ?_
  refine qq hS (g_fieldAddr (o' := 0) Tryz.underlying76 rfl Tryz.sizeOf72 rfl rfl rfl) ?_
  refine qq hS (g_ldO1 0 Tryz.isAgg72 rfl rfl rfl) ?_
  refine qe (d_call Tryz.call124 rfl (eqW_c _ _ _ _ x.words y.words _ I0 hS.imm hx.w hy.w)) ?_
  rintro _ w_3 ⟨rfl, hE⟩
  replace hS := hS.callE hE
  refine qq hS (g_movev (v := .bool _) rfl) ?_
  refine qu rfl rfl hS (fun hg => (g_fieldAddr (o' := 1) Tryz.underlying76 rfl Tryz.sizeOf73 rfl rfl rfl)) ?_
  intro u11 hu11 hn11
  refine qu rfl rfl hS (fun hg => (g_ldO1 1 Tryz.isAgg73 rfl (hu11 hg) rfl)) ?_
  intro u12 hu12 hn12
  refine qu rfl rfl hS (fun hg => (g_fieldAddr (o' := 1) Tryz.underlying76 rfl Tryz.sizeOf73 rfl rfl rfl)) ?_
  intro u13 hu13 hn13
  refine qu rfl rfl hS (fun hg => (g_ldO1 0 Tryz.isAgg73 rfl (hu13 hg) rfl)) ?_
  intro u14 hu14 hn14
  refine cvu rfl rfl hS (fun hg => (d_call Tryz.call125 (ml (hu12 hg) (ml (hu14 hg) ml0)) (eqB_c _ _ _ _ x.marks y.marks _ I0 hS.imm hx.m hy.m))) ?_
  intro w_5 u15 hS hu15 hn15
  refine qq hS (g_and rfl rfl (fun hq => hu15 hq)) ?_
  refine qq hS (g_movev (v := .bool _) rfl) ?_
  refine qu rfl rfl hS (fun hg => (g_fieldAddr (o' := 2) Tryz.underlying76 rfl Tryz.sizeOf74 rfl rfl rfl)) ?_
  intro u18 hu18 hn18
  refine qu rfl rfl hS (fun hg => (g_ldO1 1 Tryz.isAgg74 rfl (hu18 hg) rfl)) ?_
  intro u19 hu19 hn19
  refine qu rfl rfl hS (fun hg => (g_fieldAddr (o' := 2) Tryz.underlying76 rfl Tryz.sizeOf74 rfl rfl rfl)) ?_
  intro u20 hu20 hn20
  refine qu rfl rfl hS (fun hg => (g_ldO1 0 Tryz.isAgg74 rfl (hu20 hg) rfl)) ?_
  intro u21 hu21 hn21
  refine cvu rfl rfl hS (fun hg => (d_call Tryz.call126 (ml (hu19 hg) (ml (hu21 hg) ml0)) (eqI_c _ _ _ _ x.labels y.labels _ I0 hS.imm hx.l hy.l))) ?_
  intro w_7 u22 hS hu22 hn22
  refine qq hS (g_and rfl rfl (fun hq => hu22 hq)) ?_
  refine qq hS (g_assignv (v := .bool _) rfl) ?_
  refine ol_nil (thenN ?_)
  refine wpIn_ret ?_
  refine ret1 Tryz.results85 (rv_tmp (v := .bool _) rfl) ?_
  refine ⟨?_, hS.nil⟩
  unfold liftEq
  rw [← Bool.and_assoc]

set_option maxHeartbeats 2000000 in
theorem lowerL_c (x : LiftL) (a0 a1 a2 : Option Addr) (c0 c1 c2 : Nat) (B : List Int) (e : Int) (w0 : World) (I0 : Imm) (hI : Sat I0 w0) (hx : RLf I0 a0 c0 a1 c1 a2 c2 x) (hw : Wrds x.words) (hlb : Labs x.labels) (he : lowR x = (B, e)) :
    Ctr Tryz.prog 37 [.agg #[.slice a0 x.words.length c0, .slice a1 x.marks.length c1, .slice a2 x.labels.length c2]] w0 (fun v w' => ∃ I' a c, v = .tuple #[.slice a B.length c, .int .i64 e] ∧ Ext w0 I0 w' I' ∧ RBytes I' (.slice a B.length c) B) := by
  have hl0 := RSl.le hx.w
  have hl1 := RSl.le hx.m
  have hl2 := RSl.le hx.l
  simp only [maxLen] at hl0 hl1 hl2
  refine fn (n := 118) Tryz.func37 rfl rfl rfl ?_
  have hS := St.start hI
  refine wpIn_seq ?_
  refine reg ?_
  refine qe (d_box (cs := [.slice _ _ _, .slice _ _ _, .slice _ _ _]) hS rfl) ?_
  clear hS
  rintro _ w_1 ⟨b1, rfl, hS⟩
  refine qq hS (g_assign _) ?_
  refine qq hS (g_assignv (v := .int .i64 _) rfl) ?_
  refine ol_nil (thenN ?_)
  refine wpIn_seq ?_
  refine wpIn_seq ?_
  refine reg ?_
  refine qq hS (g_fieldAddr (o' := 0) Tryz.underlying76 rfl Tryz.sizeOf72 rfl rfl rfl) ?_
  refine qq hS (g_ldO1 0 Tryz.isAgg72 rfl rfl rfl) ?_
  refine qq hS (g_lenI rfl Tryz.underlying72 hx.w rfl) ?_
  refine qq hS (g_gtr rfl rfl) ?_
  refine qq hS (g_movev (v := .bool _) rfl) ?_
  refine qu rfl rfl hS (fun hg => (g_fieldAddr (o' := 1) Tryz.underlying76 rfl Tryz.sizeOf73 rfl rfl rfl)) ?_
  intro u19 hu19 hn19
  refine qu rfl rfl hS (fun hg => (g_ldO1 0 Tryz.isAgg73 rfl (hu19 hg) rfl)) ?_
  intro u20 hu20 hn20
  refine qu rfl rfl hS (fun hg => (g_lenI rfl Tryz.underlying73 hx.m (hu20 hg))) ?_
  intro u21 hu21 hn21
  refine qu rfl rfl hS (fun hg => (g_fieldAddr (o' := 0) Tryz.underlying76 rfl Tryz.sizeOf72 rfl rfl rfl)) ?_
  intro u22 hu22 hn22
  refine qu rfl rfl hS (fun hg => (g_ldO1 0 Tryz.isAgg72 rfl (hu22 hg) rfl)) ?_
  intro u23 hu23 hn23
  refine qu rfl rfl hS (fun hg => (g_lenI rfl Tryz.underlying72 hx.w (hu23 hg))) ?_
  intro u24 hu24 hn24
  refine qu rfl rfl hS (fun hg => (g_neq (hu21 hg) (hu24 hg))) ?_
  intro u25 hu25 hn25
  refine qq hS (g_or rfl rfl (fun hq => hu25 hq)) ?_
  refine ol_nil (thenN ?_)
  refine cond_s rfl ?_ ?_
  ·
    intro hc26
    clear hu19 hn19 hu20 hn20 hu21 hn21 hu22 hn22 hu23 hn23 hu24 hn24 hu25 hn25
    try simp only [Bool.and_eq_true, Bool.or_eq_true, Bool.not_eq_true', Bool.and_eq_false_imp, Bool.or_eq_false_iff, Bool.not_eq_false', decide_eq_true_eq, decide_eq_false_iff_not] at hc26
    have hb : 16384 < x.words.length ∨ x.marks.length ≠ x.words.length := by omega
    rw [lower_none1 hb] at he
    obtain ⟨rfl, rfl⟩ := Prod.mk.inj he
    refine wpIn_seq ?_
    refine reg ?_
    refine qq hS (g_assign _) ?_
    refine qq hS (g_assignv (v := .int .i64 _) rfl) ?_
    refine ol_nil (thenN ?_)
    refine wpIn_ret ?_
    refine thenR ?_
    refine ret2 Tryz.results37 (rv_tmp rfl) (rv_tmp (v := .int .i64 _) rfl) ?_
    first | exact ⟨_, none, 0, rfl, hS.nil, RFl.nil⟩ | exact ⟨_, a103, c103, by show Value.tuple #[.slice a103 (4 * (lowW x).length) c103, .int .i64 0] = _; rw [bytesP_len], hS.nil, by rw [bytesP_len]; exact h103⟩
  ·
    intro hc26
    clear hu19 hn19 hu20 hn20 hu21 hn21 hu22 hn22 hu23 hn23 hu24 hn24 hu25 hn25
    try simp only [Bool.and_eq_true, Bool.or_eq_true, Bool.not_eq_true', Bool.and_eq_false_imp, Bool.or_eq_false_iff, Bool.not_eq_false', decide_eq_true_eq, decide_eq_false_iff_not] at hc26
    have hb : ¬ (16384 < x.words.length ∨ x.marks.length ≠ x.words.length) := by omega
    have hml : x.marks.length = x.words.length := by omega
    have hwn : x.words.length ≤ 16384 := by omega
    refine wpIn_skip ?_
    refine thenN ?_
    refine wpIn_seq ?_
    refine reg ?_
    refine qq hS (g_fieldAddr (o' := 0) Tryz.underlying76 rfl Tryz.sizeOf72 rfl rfl rfl) ?_
    refine qq hS (g_ldO1 0 Tryz.isAgg72 rfl rfl rfl) ?_
    refine qe (d_call Tryz.call83 rfl (cloneW_g a0 c0 x.words _ I0 hS.imm hx.w (by omega))) ?_
    rintro _ w_2 ⟨a, c, rfl, hE⟩
    replace hS := hS.call hE
    refine qq hS (g_assign _) ?_
    refine ol_nil (thenN ?_)
    refine wpIn_seq ?_
    refine wpIn_seq ?_
    refine reg ?_
    refine qq hS (g_fieldAddr (o' := 1) Tryz.underlying76 rfl Tryz.sizeOf73 rfl rfl rfl) ?_
    refine qq hS (g_ldO1 1 Tryz.isAgg73 rfl rfl rfl) ?_
    refine qq hS (g_lenI rfl Tryz.underlying73 hx.m rfl) ?_
    refine qq hS (g_movev (v := .int .i64 _) rfl) ?_
    refine ol_nil (thenN ?_)
    refine wpIn_block ?_
    refine loop (fun (k : Nat) σ w => okS σ [(1, .pointer (some ⟨b1, 0, none⟩)), (4, .slice a x.words.length c), (31, .slice a1 x.marks.length c1), (32, .int .i64 x.marks.length), (33, .int .i64 k)] ∧ St [] w0 I0 I0 w [.row (.slice a x.words.length c) 93 1 x.words.length (flat u32C (lowK x k)), .cel b1 76 [.slice a0 x.words.length c0, .slice a1 x.marks.length c1, .slice a2 x.labels.length c2]] ∧ k ≤ x.words.length ∧ ∀ i, i < k → (unnumP x i).isSome = true) (fun k => x.words.length - k) (0) ?_ ?_
    ·
      exact ⟨⟨rfl, rfl, rfl, rfl, rfl, trivial⟩, by rw [lowK_0]; exact hS.sel [true, true], by omega, fun i hi => by omega⟩
    ·
      rintro k σ w_l ⟨hs, hS, hkx, hgood⟩
      rw [← upds_self hs]; clear hs
      refine wpIn_seq ?_
      refine reg ?_
      refine qq hS (g_lss rfl rfl) ?_
      refine ol_nil (thenN ?_)
      refine wpIn_seq ?_
      refine cond_s rfl ?_ ?_
      ·
        intro hc34
        try simp only [Bool.and_eq_true, Bool.or_eq_true, Bool.not_eq_true', Bool.and_eq_false_imp, Bool.or_eq_false_iff, Bool.not_eq_false', decide_eq_true_eq, decide_eq_false_iff_not] at hc34
        obtain ⟨m, hmi⟩ : ∃ m, x.marks[k]? = some m := ⟨_, List.getElem?_eq_getElem (by omega)⟩
        have hkw : k < x.words.length := by omega
        have hmg := getDb_at (d := false) hmi
        have hyk := lowK_at hkw
        have hyb := wrds_getD hw k
        obtain ⟨y, hyE⟩ : ∃ y, x.words.getD k 0 = y := ⟨_, rfl⟩
        rw [hyE] at hyk hyb
        have hyc := flat_get u32C_len (lowK x k) k y hyk 0 _ rfl
        have hob : 0 ≤ opOf y ∧ opOf y ≤ 255 := by unfold opOf; omega
        have hib := idxOf_b y
        have hf1 : fieldM (opOf y) = 24 ∨ fieldM (opOf y) = 16 := by unfold fieldM; split <;> simp
        have hf2 : Nat.ble (fieldM (opOf y)) IntKind.u32.bits = true := by rcases hf1 with h | h <;> rw [h] <;> rfl
        refine wpIn_skip ?_
        refine thenN ?_
        refine wpIn_seq ?_
        refine wpIn_block ?_
        refine wpIn_seq ?_
        refine reg ?_
        refine qq hS (g_movev (v := .int .i64 _) rfl) ?_
        refine qq hS (g_ixI Tryz.underlying73 Tryz.sizeOf4 hx.m rfl rfl (by omega) (by omega)) ?_
        refine qq hS (g_ldE1 Tryz.isAgg4 (hx.m.at hmi) rfl rfl) ?_
        refine qq hS (g_assignv (v := .int .i64 _) rfl) ?_
        refine qq hS (g_assignv (v := .bool _) rfl) ?_
        refine ol_nil (thenN ?_)
        refine wpIn_seq ?_
        refine wpIn_seq ?_
        refine reg ?_
        refine qq hS (g_movev (v := .bool _) rfl) ?_
        refine qq hS (g_not rfl) ?_
        refine ol_nil (thenN ?_)
        refine cond_s rfl ?_ ?_
        ·
          intro hc39
          simp only [Bool.not_eq_true', Bool.not_eq_false'] at hc39
          have hup : unnumP x k = some (x.words.getD k 0) := unnumP_u (by rw [hmg]; exact hc39)
          refine wpIn_exit ?_
          refine thenE (blkE ?_)
          refine thenN ?_
          refine reg ?_
          refine qq hS (g_add rfl rfl (by omega) (by omega)) ?_
          refine qq hS (g_movev (v := .int .i64 _) rfl) ?_
          first
            | exact ⟨k + 1, _, rfl, ⟨⟨rfl, rfl, rfl, rfl, rfl, trivial⟩, by rw [lowK_same hkw hup]; exact hS.sel [true, true], by omega, fun i hi => (Nat.lt_succ_iff_lt_or_eq.1 hi).elim (hgood i) (fun h => by subst h; rw [hup]; rfl)⟩, by omega⟩
            | exact ⟨k + 1, _, rfl, ⟨⟨rfl, rfl, rfl, rfl, rfl, trivial⟩, by rw [← lowK_set hkw (hum.trans he2)]; exact hS.sel [true, true], by omega, fun i hi => (Nat.lt_succ_iff_lt_or_eq.1 hi).elim (hgood i) (fun h => by subst h; rw [hum, he2]; rfl)⟩, by omega⟩
        ·
          intro hc39
          simp only [Bool.not_eq_true', Bool.not_eq_false'] at hc39
          have hum : unnumP x k = unnum x k y := by rw [← hyE]; exact unnumP_m (by rw [hmg]; exact hc39)
          refine wpIn_skip ?_
          refine thenN ?_
          refine wpIn_seq ?_
          refine reg ?_
          refine qq hS (g_move _) ?_
          refine qq hS (g_movev (v := .int .i64 _) rfl) ?_
          refine qq hS (g_ixR 0 Tryz.underlying72 Tryz.sizeOf93 rfl rfl rfl (by omega) (by omega)) ?_
          refine qq hS (g_ldR1 0 Tryz.isAgg93 rfl rfl hyc) ?_
          refine qq hS (g_shrV (s := 24) (c := opOf y) rfl rfl rfl rfl rfl) ?_
          refine qq hS (g_convi Tryz.underlying93 Tryz.underlying3 rfl (by omega) (by omega)) ?_
          refine qq hS (g_buildv (pl := [(0, 1), (1, 1), (2, 1), (3, 1), (4, 1)]) (cs := [.int .i64 _, .int .i64 _, .int .i64 _, .int .i64 _, .int .i64 _]) Tryz.zeroValue97 Tryz.underlying97 (fun w => by simp [Tryz.sizeOf3]) (mp (v := .int .i64 _) rfl mp0) rfl) ?_
          refine qe (d_alloc (cs := [.int .i64 _, .int .i64 _, .int .i64 _, .int .i64 _, .int .i64 _]) hS Tryz.zeroValue97 rfl) ?_
          clear hS
          rintro _ w_3 ⟨b7, rfl, hS⟩
          refine qe (d_store 0 hS Tryz.sizeOf97 rfl rfl rfl (vs := [.int .i64 _, .int .i64 _, .int .i64 _, .int .i64 _, .int .i64 _]) rfl rfl rfl (Nat.le_of_ble_eq_true rfl) (cs' := [_, _, _, _, _]) rfl) ?_
          clear hS
          rintro _ w_4 ⟨rfl, hS⟩
          refine ol_nil (thenN ?_)
          refine wpIn_seq ?_
          refine draw (.cons 0 .pure (.cons 1 .pure (.cons 2 .held (.cons 3 .held (.cons 4 .pure (.cons 5 .held (.cons 6 .eff (.cons 7 .pure (.cons 8 .pure (.cons 9 .pure .nil)))))))))) mixed (by kernel_rfl) hS ?_
          intro w_5 hS
          refine sp rfl (g_move _) ?_
          refine sp rfl (g_movev (v := .int .i64 _) rfl) ?_
          refine sh rfl (g_ixR 1 Tryz.underlying72 Tryz.sizeOf93 rfl rfl rfl (by omega) (by omega)) ?_
          refine sh rfl (g_ldR1 1 Tryz.isAgg93 rfl rfl hyc) ?_
          refine sp rfl (g_fieldAddr (o' := 0) Tryz.underlying97 rfl Tryz.sizeOf3 rfl rfl rfl) ?_
          refine sh rfl (g_ldO1 0 Tryz.isAgg3 rfl rfl rfl) ?_
          have hS0 := hS
          refine se rfl (d_call Tryz.call77 rfl (field_c (opOf y) _ I0 hS.imm)) ?_
          rintro _ w_6 ⟨rfl, hE⟩
          replace hS := hS.call hE
          refine ⟨_, _, hS0.le hE.ext (List.Sublist.refl _), hS, ?_⟩
          refine sp rfl (g_andM (m := fieldM (opOf y)) (c := idxOf y) rfl rfl rfl hf2 (by rw [IntKind.wrap_u32]; show idxOf y % 4294967296 = _; omega)) ?_
          refine sp rfl (g_convi Tryz.underlying93 Tryz.underlying3 rfl (by omega) (by omega)) ?_
          refine sp rfl (g_assignv (v := .int .i64 _) rfl) ?_
          refine sn (thenN ?_)
          refine wpIn_seq ?_
          refine wpIn_seq ?_
          refine reg ?_
          refine qq hS (g_fieldAddr (o' := 0) Tryz.underlying97 rfl Tryz.sizeOf3 rfl rfl rfl) ?_
          refine qq hS (g_ldO1 0 Tryz.isAgg3 rfl rfl rfl) ?_
          refine qq hS (g_lss rfl rfl) ?_
          refine qq hS (g_movev (v := .bool _) rfl) ?_
          refine qu rfl rfl hS (fun hg => (g_fieldAddr (o' := 0) Tryz.underlying97 rfl Tryz.sizeOf3 rfl rfl rfl)) ?_
          intro u60 hu60 hn60
          refine qu rfl rfl hS (fun hg => (g_ldO1 0 Tryz.isAgg3 rfl (hu60 hg) rfl)) ?_
          intro u61 hu61 hn61
          refine qu rfl rfl hS (fun hg => (g_gtr (hu61 hg) rfl)) ?_
          intro u62 hu62 hn62
          refine qq hS (g_or rfl rfl (fun hq => hu62 hq)) ?_
          refine qq hS (g_movev (v := .bool _) rfl) ?_
          refine qu rfl rfl hS (fun hg => (g_movev (v := .int .i64 _) rfl)) ?_
          intro u65 hu65 hn65
          refine qu rfl rfl hS (fun hg => (g_fieldAddr (o' := 2) Tryz.underlying76 rfl Tryz.sizeOf74 rfl rfl rfl)) ?_
          intro u66 hu66 hn66
          refine qu rfl rfl hS (fun hg => (g_ldO1 2 Tryz.isAgg74 rfl (hu66 hg) rfl)) ?_
          intro u67 hu67 hn67
          refine qu rfl rfl hS (fun hg => (g_lenI rfl Tryz.underlying74 hx.l (hu67 hg))) ?_
          intro u68 hu68 hn68
          refine qu rfl rfl hS (fun hg => (g_geq (hu65 hg) (hu68 hg))) ?_
          intro u69 hu69 hn69
          refine qq hS (g_or rfl rfl (fun hq => hu69 hq)) ?_
          refine ol_nil (thenN ?_)
          refine cond_s rfl ?_ ?_
          ·
            intro hc70
            clear hu60 hn60 hu61 hn61 hu62 hn62 hu65 hn65 hu66 hn66 hu67 hn67 hu68 hn68 hu69 hn69
            try simp only [Bool.and_eq_true, Bool.or_eq_true, Bool.not_eq_true', Bool.and_eq_false_imp, Bool.or_eq_false_iff, Bool.not_eq_false', decide_eq_true_eq, decide_eq_false_iff_not] at hc70
            have hbn : badN x y = true := badN_t (by omega)
            have hlow := lowBad_t hkw (hum.trans (unnum_bad hbn))
            rw [lower_none2 hb hlow] at he
            obtain ⟨rfl, rfl⟩ := Prod.mk.inj he
            refine wpIn_seq ?_
            refine reg ?_
            refine qq hS (g_assign _) ?_
            refine qq hS (g_assignv (v := .int .i64 _) rfl) ?_
            refine ol_nil (thenN ?_)
            refine wpIn_ret ?_
            refine thenR (blkR (thenR (thenR (blkR (thenR ?_)))))
            refine ret2 Tryz.results37 (rv_tmp rfl) (rv_tmp (v := .int .i64 _) rfl) ?_
            first | exact ⟨_, none, 0, rfl, hS.nil, RFl.nil⟩ | exact ⟨_, a103, c103, by show Value.tuple #[.slice a103 (4 * (lowW x).length) c103, .int .i64 0] = _; rw [bytesP_len], hS.nil, by rw [bytesP_len]; exact h103⟩
          ·
            intro hc70
            clear hu60 hn60 hu61 hn61 hu62 hn62 hu65 hn65 hu66 hn66 hu67 hn67 hu68 hn68 hu69 hn69
            try simp only [Bool.and_eq_true, Bool.or_eq_true, Bool.not_eq_true', Bool.and_eq_false_imp, Bool.or_eq_false_iff, Bool.not_eq_false', decide_eq_true_eq, decide_eq_false_iff_not] at hc70
            have hbn : badN x y = false := badN_f (by omega) (by omega) (by omega)
            obtain ⟨nn, hni⟩ : ∃ n, x.labels[(idxOf y).toNat]? = some n := ⟨_, List.getElem?_eq_getElem (by omega)⟩
            have hnm := hlb nn (List.mem_of_getElem? hni)
            rw [unnum_ok hbn] at hum
            refine wpIn_skip ?_
            refine thenN ?_
            refine wpIn_seq ?_
            refine wpIn_seq ?_
            refine reg ?_
            refine qq hS (g_fieldAddr (o' := 0) Tryz.underlying97 rfl Tryz.sizeOf3 rfl rfl rfl) ?_
            refine qq hS (g_ldO1 0 Tryz.isAgg3 rfl rfl rfl) ?_
            refine qq hS (g_geq rfl rfl) ?_
            refine ol_nil (thenN ?_)
            refine cond_s rfl ?_ ?_
            ·
              intro hc73
              try simp only [Bool.and_eq_true, Bool.or_eq_true, Bool.not_eq_true', Bool.and_eq_false_imp, Bool.or_eq_false_iff, Bool.not_eq_false', decide_eq_true_eq, decide_eq_false_iff_not] at hc73
              have hin := instOf_hi hc73 hni
              refine reg ?_
              refine qq hS (g_move _) ?_
              refine qq hS (g_movev (v := .int .i64 _) rfl) ?_
              refine qq hS (g_ixR 1 Tryz.underlying72 Tryz.sizeOf93 rfl rfl rfl (by omega) (by omega)) ?_
              refine qq hS (g_ldR1 1 Tryz.isAgg93 rfl rfl hyc) ?_
              refine qq hS (g_shrV (s := 16) (c := y / 65536) rfl rfl rfl rfl rfl) ?_
              refine qq hS (g_andM (m := 8) (c := y / 65536 % 256) rfl rfl rfl rfl (by rw [IntKind.wrap_u32]; omega)) ?_
              refine qq hS (g_convi Tryz.underlying93 Tryz.underlying3 rfl (by omega) (by omega)) ?_
              refine qq hS (g_fieldAddr (o' := 1) Tryz.underlying97 rfl Tryz.sizeOf3 rfl rfl rfl) ?_
              refine qe (d_store 0 hS Tryz.sizeOf3 rfl rfl rfl (vs := [.int .i64 _]) rfl rfl rfl (Nat.le_of_ble_eq_true rfl) (cs' := [_, _, _, _, _]) rfl) ?_
              clear hS
              rintro _ w_7 ⟨rfl, hS⟩
              refine ol_nil (thenN ?_)
              refine wpIn_seq ?_
              refine reg ?_
              refine qq hS (g_fieldAddr (o' := 2) Tryz.underlying76 rfl Tryz.sizeOf74 rfl rfl rfl) ?_
              refine qq hS (g_ldO1 2 Tryz.isAgg74 rfl rfl rfl) ?_
              refine qq hS (g_movev (v := .int .i64 _) rfl) ?_
              refine qq hS (g_ixI Tryz.underlying74 Tryz.sizeOf3 hx.l rfl rfl (by omega) (by omega)) ?_
              refine qq hS (g_ldE1 Tryz.isAgg3 (hx.l.at hni) rfl rfl) ?_
              refine qq hS (g_fieldAddr (o' := 4) Tryz.underlying97 rfl Tryz.sizeOf3 rfl rfl rfl) ?_
              refine qe (d_store 0 hS Tryz.sizeOf3 rfl rfl rfl (vs := [.int .i64 _]) rfl rfl rfl (Nat.le_of_ble_eq_true rfl) (cs' := [_, _, _, _, _]) rfl) ?_
              clear hS
              rintro _ w_8 ⟨rfl, hS⟩
              refine ol_nil (thenN ?_)
              refine wpIn_seq ?_
              have hnb : -1099511627776 ≤ (instOf x y).n ∧ (instOf x y).n ≤ 1099511627776 := by rw [hin]; exact hnm
              have hes : Inl.encI (instOf x y) (4 * (k : Int)) = none ∨ ∃ wv, Inl.encI (instOf x y) (4 * (k : Int)) = some wv := by cases Inl.encI (instOf x y) (4 * (k : Int)); exact .inl rfl; exact .inr ⟨_, rfl⟩
              refine hes.elim (fun he2 => ?_) (fun he2 => ?_)
              ·
                rw [hin] at hnb
                refine reg ?_
                refine qq hS (g_ldO 0 (vs := [.int .i64 _, .int .i64 _, .int .i64 _, .int .i64 _, .int .i64 _]) Tryz.sizeOf97 Tryz.isAgg97 rfl rfl rfl rfl) ?_
                refine qq hS (g_movev (v := .int .i64 _) rfl) ?_
                refine qq hS (g_mul rfl rfl (by omega) (by omega)) ?_
                refine qe (d_call Tryz.call84 rfl (encode_n _ I0 hS.imm (by rw [← hin]; exact he2) hnb.1 hnb.2 (by omega) (by omega))) ?_
                rintro _ w_9 ⟨rfl, hE⟩
                replace hS := hS.callE hE
                refine qq hS (g_move _) ?_
                refine qq hS (g_extract (v := .int .u32 _) rfl rfl) ?_
                refine qq hS (g_extract (v := .int .i64 _) rfl rfl) ?_
                refine qq hS (g_assignv (v := .int .u32 _) rfl) ?_
                refine qq hS (g_assignv (v := .int .i64 _) rfl) ?_
                refine ol_nil (thenN ?_)
                refine wpIn_seq ?_
                refine wpIn_seq ?_
                refine reg ?_
                refine qq hS (g_movev (v := .int .i64 _) rfl) ?_
                refine qq hS (g_neqT rfl rfl (by decide)) ?_
                refine ol_nil (thenN ?_)
                refine cond_t (rfl) ?_
                refine wpIn_seq ?_
                have hlow := lowBad_t hkw (hum.trans he2)
                rw [lower_none2 hb hlow] at he
                obtain ⟨rfl, rfl⟩ := Prod.mk.inj he
                refine reg ?_
                refine qq hS (g_assign _) ?_
                refine qq hS (g_assignv (v := .int .i64 _) rfl) ?_
                refine ol_nil (thenN ?_)
                refine wpIn_ret ?_
                refine thenR (blkR (thenR (thenR (blkR (thenR ?_)))))
                refine ret2 Tryz.results37 (rv_tmp rfl) (rv_tmp (v := .int .i64 _) rfl) ?_
                first | exact ⟨_, none, 0, rfl, hS.nil, RFl.nil⟩ | exact ⟨_, a103, c103, by show Value.tuple #[.slice a103 (4 * (lowW x).length) c103, .int .i64 0] = _; rw [bytesP_len], hS.nil, by rw [bytesP_len]; exact h103⟩
              ·
                obtain ⟨wv, he2⟩ := he2
                rw [hin] at hnb
                refine reg ?_
                refine qq hS (g_ldO 0 (vs := [.int .i64 _, .int .i64 _, .int .i64 _, .int .i64 _, .int .i64 _]) Tryz.sizeOf97 Tryz.isAgg97 rfl rfl rfl rfl) ?_
                refine qq hS (g_movev (v := .int .i64 _) rfl) ?_
                refine qq hS (g_mul rfl rfl (by omega) (by omega)) ?_
                refine qe (d_call Tryz.call84 rfl (encode_s _ I0 hS.imm (by rw [← hin]; exact he2) hnb.1 hnb.2 (by omega) (by omega))) ?_
                rintro _ w_10 ⟨rfl, hE⟩
                replace hS := hS.callE hE
                refine qq hS (g_move _) ?_
                refine qq hS (g_extract (v := .int .u32 _) rfl rfl) ?_
                refine qq hS (g_extract (v := .int .i64 _) rfl rfl) ?_
                refine qq hS (g_assignv (v := .int .u32 _) rfl) ?_
                refine qq hS (g_assignv (v := .int .i64 _) rfl) ?_
                refine ol_nil (thenN ?_)
                refine wpIn_seq ?_
                refine wpIn_seq ?_
                refine reg ?_
                refine qq hS (g_movev (v := .int .i64 _) rfl) ?_
                refine qq hS (g_neqF rfl rfl rfl) ?_
                refine ol_nil (thenN ?_)
                refine cond_f (rfl) ?_
                refine wpIn_skip ?_
                refine thenN ?_
                refine reg ?_
                refine qq hS (g_move _) ?_
                refine qq hS (g_movev (v := .int .i64 _) rfl) ?_
                refine qq hS (g_movev (v := .int .u32 _) rfl) ?_
                refine qq hS (g_ixR 1 Tryz.underlying72 Tryz.sizeOf93 rfl rfl rfl (by omega) (by omega)) ?_
                refine qe (d_storeRow 1 u32C_len wv hS (by rw [lowK_len (by omega)]) hyk Tryz.sizeOf93 rfl rfl rfl (vs := [.int .u32 _]) rfl rfl rfl rfl rfl) ?_
                clear hS
                rintro _ w_11 ⟨rfl, hS⟩
                refine ol_nil (blkN (thenN ?_))
                refine reg ?_
                refine qq hS (g_add rfl rfl (by omega) (by omega)) ?_
                refine qq hS (g_movev (v := .int .i64 _) rfl) ?_
                first
                  | exact ⟨k + 1, _, rfl, ⟨⟨rfl, rfl, rfl, rfl, rfl, trivial⟩, by rw [lowK_same hkw hup]; exact hS.sel [false, true, true], by omega, fun i hi => (Nat.lt_succ_iff_lt_or_eq.1 hi).elim (hgood i) (fun h => by subst h; rw [hup]; rfl)⟩, by omega⟩
                  | exact ⟨k + 1, _, rfl, ⟨⟨rfl, rfl, rfl, rfl, rfl, trivial⟩, by rw [← lowK_set hkw (hum.trans he2)]; exact hS.sel [false, true, true], by omega, fun i hi => (Nat.lt_succ_iff_lt_or_eq.1 hi).elim (hgood i) (fun h => by subst h; rw [hum, he2]; rfl)⟩, by omega⟩
            ·
              intro hc73
              try simp only [Bool.and_eq_true, Bool.or_eq_true, Bool.not_eq_true', Bool.and_eq_false_imp, Bool.or_eq_false_iff, Bool.not_eq_false', decide_eq_true_eq, decide_eq_false_iff_not] at hc73
              have hin := instOf_lo hc73 hni
              refine wpIn_skip ?_
              refine thenN ?_
              refine wpIn_seq ?_
              refine reg ?_
              refine qq hS (g_fieldAddr (o' := 2) Tryz.underlying76 rfl Tryz.sizeOf74 rfl rfl rfl) ?_
              refine qq hS (g_ldO1 2 Tryz.isAgg74 rfl rfl rfl) ?_
              refine qq hS (g_movev (v := .int .i64 _) rfl) ?_
              refine qq hS (g_ixI Tryz.underlying74 Tryz.sizeOf3 hx.l rfl rfl (by omega) (by omega)) ?_
              refine qq hS (g_ldE1 Tryz.isAgg3 (hx.l.at hni) rfl rfl) ?_
              refine qq hS (g_fieldAddr (o' := 4) Tryz.underlying97 rfl Tryz.sizeOf3 rfl rfl rfl) ?_
              refine qe (d_store 0 hS Tryz.sizeOf3 rfl rfl rfl (vs := [.int .i64 _]) rfl rfl rfl (Nat.le_of_ble_eq_true rfl) (cs' := [_, _, _, _, _]) rfl) ?_
              clear hS
              rintro _ w_12 ⟨rfl, hS⟩
              refine ol_nil (thenN ?_)
              refine wpIn_seq ?_
              have hnb : -1099511627776 ≤ (instOf x y).n ∧ (instOf x y).n ≤ 1099511627776 := by rw [hin]; exact hnm
              have hes : Inl.encI (instOf x y) (4 * (k : Int)) = none ∨ ∃ wv, Inl.encI (instOf x y) (4 * (k : Int)) = some wv := by cases Inl.encI (instOf x y) (4 * (k : Int)); exact .inl rfl; exact .inr ⟨_, rfl⟩
              refine hes.elim (fun he2 => ?_) (fun he2 => ?_)
              ·
                rw [hin] at hnb
                refine reg ?_
                refine qq hS (g_ldO 0 (vs := [.int .i64 _, .int .i64 _, .int .i64 _, .int .i64 _, .int .i64 _]) Tryz.sizeOf97 Tryz.isAgg97 rfl rfl rfl rfl) ?_
                refine qq hS (g_movev (v := .int .i64 _) rfl) ?_
                refine qq hS (g_mul rfl rfl (by omega) (by omega)) ?_
                refine qe (d_call Tryz.call84 rfl (encode_n _ I0 hS.imm (by rw [← hin]; exact he2) hnb.1 hnb.2 (by omega) (by omega))) ?_
                rintro _ w_13 ⟨rfl, hE⟩
                replace hS := hS.callE hE
                refine qq hS (g_move _) ?_
                refine qq hS (g_extract (v := .int .u32 _) rfl rfl) ?_
                refine qq hS (g_extract (v := .int .i64 _) rfl rfl) ?_
                refine qq hS (g_assignv (v := .int .u32 _) rfl) ?_
                refine qq hS (g_assignv (v := .int .i64 _) rfl) ?_
                refine ol_nil (thenN ?_)
                refine wpIn_seq ?_
                refine wpIn_seq ?_
                refine reg ?_
                refine qq hS (g_movev (v := .int .i64 _) rfl) ?_
                refine qq hS (g_neqT rfl rfl (by decide)) ?_
                refine ol_nil (thenN ?_)
                refine cond_t (rfl) ?_
                refine wpIn_seq ?_
                have hlow := lowBad_t hkw (hum.trans he2)
                rw [lower_none2 hb hlow] at he
                obtain ⟨rfl, rfl⟩ := Prod.mk.inj he
                refine reg ?_
                refine qq hS (g_assign _) ?_
                refine qq hS (g_assignv (v := .int .i64 _) rfl) ?_
                refine ol_nil (thenN ?_)
                refine wpIn_ret ?_
                refine thenR (blkR (thenR (thenR (blkR (thenR ?_)))))
                refine ret2 Tryz.results37 (rv_tmp rfl) (rv_tmp (v := .int .i64 _) rfl) ?_
                first | exact ⟨_, none, 0, rfl, hS.nil, RFl.nil⟩ | exact ⟨_, a103, c103, by show Value.tuple #[.slice a103 (4 * (lowW x).length) c103, .int .i64 0] = _; rw [bytesP_len], hS.nil, by rw [bytesP_len]; exact h103⟩
              ·
                obtain ⟨wv, he2⟩ := he2
                rw [hin] at hnb
                refine reg ?_
                refine qq hS (g_ldO 0 (vs := [.int .i64 _, .int .i64 _, .int .i64 _, .int .i64 _, .int .i64 _]) Tryz.sizeOf97 Tryz.isAgg97 rfl rfl rfl rfl) ?_
                refine qq hS (g_movev (v := .int .i64 _) rfl) ?_
                refine qq hS (g_mul rfl rfl (by omega) (by omega)) ?_
                refine qe (d_call Tryz.call84 rfl (encode_s _ I0 hS.imm (by rw [← hin]; exact he2) hnb.1 hnb.2 (by omega) (by omega))) ?_
                rintro _ w_14 ⟨rfl, hE⟩
                replace hS := hS.callE hE
                refine qq hS (g_move _) ?_
                refine qq hS (g_extract (v := .int .u32 _) rfl rfl) ?_
                refine qq hS (g_extract (v := .int .i64 _) rfl rfl) ?_
                refine qq hS (g_assignv (v := .int .u32 _) rfl) ?_
                refine qq hS (g_assignv (v := .int .i64 _) rfl) ?_
                refine ol_nil (thenN ?_)
                refine wpIn_seq ?_
                refine wpIn_seq ?_
                refine reg ?_
                refine qq hS (g_movev (v := .int .i64 _) rfl) ?_
                refine qq hS (g_neqF rfl rfl rfl) ?_
                refine ol_nil (thenN ?_)
                refine cond_f (rfl) ?_
                refine wpIn_skip ?_
                refine thenN ?_
                refine reg ?_
                refine qq hS (g_move _) ?_
                refine qq hS (g_movev (v := .int .i64 _) rfl) ?_
                refine qq hS (g_movev (v := .int .u32 _) rfl) ?_
                refine qq hS (g_ixR 1 Tryz.underlying72 Tryz.sizeOf93 rfl rfl rfl (by omega) (by omega)) ?_
                refine qe (d_storeRow 1 u32C_len wv hS (by rw [lowK_len (by omega)]) hyk Tryz.sizeOf93 rfl rfl rfl (vs := [.int .u32 _]) rfl rfl rfl rfl rfl) ?_
                clear hS
                rintro _ w_15 ⟨rfl, hS⟩
                refine ol_nil (blkN (thenN ?_))
                refine reg ?_
                refine qq hS (g_add rfl rfl (by omega) (by omega)) ?_
                refine qq hS (g_movev (v := .int .i64 _) rfl) ?_
                first
                  | exact ⟨k + 1, _, rfl, ⟨⟨rfl, rfl, rfl, rfl, rfl, trivial⟩, by rw [lowK_same hkw hup]; exact hS.sel [false, true, true], by omega, fun i hi => (Nat.lt_succ_iff_lt_or_eq.1 hi).elim (hgood i) (fun h => by subst h; rw [hup]; rfl)⟩, by omega⟩
                  | exact ⟨k + 1, _, rfl, ⟨⟨rfl, rfl, rfl, rfl, rfl, trivial⟩, by rw [← lowK_set hkw (hum.trans he2)]; exact hS.sel [false, true, true], by omega, fun i hi => (Nat.lt_succ_iff_lt_or_eq.1 hi).elim (hgood i) (fun h => by subst h; rw [hum, he2]; rfl)⟩, by omega⟩
      ·
        intro hc34
        try simp only [Bool.and_eq_true, Bool.or_eq_true, Bool.not_eq_true', Bool.and_eq_false_imp, Bool.or_eq_false_iff, Bool.not_eq_false', decide_eq_true_eq, decide_eq_false_iff_not] at hc34
        have hk : k = x.marks.length := by omega
        subst hk
        refine wpIn_exit ?_
        refine thenE (thenE (blkE ?_))
        refine thenN ?_
        refine wpIn_seq ?_
        have hlow : lowBad x = false := lowBad_f (fun i hi => hgood i (by omega))
        have hww := lowW_wrds hw
        rw [show lowK x x.marks.length = lowK x x.words.length by rw [hml]] at hS
        have hF := St.freezeRow (u := .slice a x.words.length c) (m := x.words.length) (xs := lowW x) u32C_len (by rw [← lowK_all x]; exact hS.ord [0, 1]) ((lowW_len x).symm)
        clear hS
        obtain ⟨I_hws, hS, hI_hws, hws⟩ := hF
        replace hx := hx.mono hI_hws
        refine reg ?_
        refine qq hS (g_move _) ?_
        refine qe (d_call Tryz.call80 rfl (bytes_E a c x.words.length (lowW x) _ _ hS.imm hws hww (lowW_len x).symm (by omega))) ?_
        rintro _ w_16 ⟨I_f, a103, c103, rfl, hE, h103⟩
        replace hS := hS.callE hE
        replace hx := hx.mono hE.ext
        replace hws := hws.mono hE.ext
        refine qq hS (g_assign _) ?_
        refine ol_nil (thenN ?_)
        refine wpIn_seq ?_
        refine wpIn_seq ?_
        refine reg ?_
        refine qq hS (g_move _) ?_
        refine qe (d_call Tryz.call33 rfl (lift_e a103 c103 (lowW x) _ _ hS.imm h103 hww (by rw [lowW_len]; omega))) ?_
        rintro _ w_17 ⟨I_f, a0y, c0y, a1y, c1y, a2y, c2y, rfl, hE, h106⟩
        replace hS := hS.callE hE
        replace hx := hx.mono hE.ext
        replace hws := hws.mono hE.ext
        replace h103 := h103.mono hE.ext
        refine qq hS (g_move _) ?_
        refine qq hS (g_extract rfl rfl) ?_
        refine qq hS (g_extract (v := .int .i64 _) rfl rfl) ?_
        refine qe (d_alloc (cs := [.slice _ _ _, .slice _ _ _, .slice _ _ _]) hS Tryz.zeroValue76 rfl) ?_
        clear hS
        rintro _ w_18 ⟨b12, rfl, hS⟩
        refine qe (d_store 0 hS Tryz.sizeOf76 rfl rfl rfl (vs := [.slice _ _ _, .slice _ _ _, .slice _ _ _]) rfl rfl rfl (Nat.le_of_ble_eq_true rfl) (cs' := [_, _, _]) rfl) ?_
        clear hS
        rintro _ w_19 ⟨rfl, hS⟩
        refine qq hS (g_assignv (v := .int .i64 _) rfl) ?_
        refine ol_nil (thenN ?_)
        refine wpIn_seq ?_
        refine reg ?_
        refine qq hS (g_movev (v := .int .i64 _) rfl) ?_
        refine qq hS (g_neqF rfl rfl rfl) ?_
        refine qq hS (g_movev (v := .bool _) rfl) ?_
        refine qqs rfl rfl hS (g_ldO 0 (vs := [.slice _ _ _, .slice _ _ _, .slice _ _ _]) Tryz.sizeOf76 Tryz.isAgg76 rfl rfl rfl rfl) ?_
        refine qqs rfl rfl hS (g_ldO 1 (vs := [.slice _ _ _, .slice _ _ _, .slice _ _ _]) Tryz.sizeOf76 Tryz.isAgg76 rfl rfl rfl rfl) ?_
        refine qes rfl rfl (d_call Tryz.call85 rfl (lfeq_c (liftP (lowW x)) x _ _ _ _ _ _ _ _ _ _ _ _ _ _ hS.imm h106 hx)) ?_
        rintro _ w_20 ⟨rfl, hE⟩
        replace hS := hS.callE hE
        refine qqs rfl rfl hS (g_not rfl) ?_
        refine qq hS (g_or (b := !liftEq (liftP (lowW x)) x) rfl rfl (fun _ => rfl)) ?_
        refine ol_nil (thenN ?_)
        refine cond_s rfl ?_ ?_
        ·
          intro hc116
          try simp only [Bool.and_eq_true, Bool.or_eq_true, Bool.not_eq_true', Bool.and_eq_false_imp, Bool.or_eq_false_iff, Bool.not_eq_false', decide_eq_true_eq, decide_eq_false_iff_not] at hc116
          have heq : liftEq (liftP (lowW x)) x = false := by simpa using hc116
          rw [lower_none3 hb hlow heq] at he
          obtain ⟨rfl, rfl⟩ := Prod.mk.inj he
          refine wpIn_seq ?_
          refine reg ?_
          refine qq hS (g_assign _) ?_
          refine qq hS (g_assignv (v := .int .i64 _) rfl) ?_
          refine ol_nil (thenN ?_)
          refine wpIn_ret ?_
          refine thenR ?_
          refine ret2 Tryz.results37 (rv_tmp rfl) (rv_tmp (v := .int .i64 _) rfl) ?_
          first | exact ⟨_, none, 0, rfl, hS.nil, RFl.nil⟩ | exact ⟨_, a103, c103, by show Value.tuple #[.slice a103 (4 * (lowW x).length) c103, .int .i64 0] = _; rw [bytesP_len], hS.nil, by rw [bytesP_len]; exact h103⟩
        ·
          intro hc116
          try simp only [Bool.and_eq_true, Bool.or_eq_true, Bool.not_eq_true', Bool.and_eq_false_imp, Bool.or_eq_false_iff, Bool.not_eq_false', decide_eq_true_eq, decide_eq_false_iff_not] at hc116
          have heq : liftEq (liftP (lowW x)) x = true := by simpa using hc116
          rw [lower_some hb hlow heq] at he
          obtain ⟨rfl, rfl⟩ := Prod.mk.inj he
          refine wpIn_skip ?_
          refine thenN ?_
          refine wpIn_seq ?_
          refine reg ?_
          refine qq hS (g_move _) ?_
          refine qq hS (g_assign _) ?_
          refine qq hS (g_assignv (v := .int .i64 _) rfl) ?_
          refine ol_nil (thenN ?_)
          refine wpIn_ret ?_
          refine ret2 Tryz.results37 (rv_tmp rfl) (rv_tmp (v := .int .i64 _) rfl) ?_
          first | exact ⟨_, none, 0, rfl, hS.nil, RFl.nil⟩ | exact ⟨_, a103, c103, by show Value.tuple #[.slice a103 (4 * (lowW x).length) c103, .int .i64 0] = _; rw [bytesP_len], hS.nil, by rw [bytesP_len]; exact h103⟩

end Go.Proofs.YtaklmbhfmpdinaaGreatDoor


namespace Go.Proofs.YtaklmbhfmpdinaaGreatDoor
open Go Go.RowKit Go.Inl
set_option linter.unusedSimpArgs false
set_option linter.unusedVariables false
theorem rsl_cap {α : Type} {I : Imm} {sz : Nat} {R : List Value → α → Prop} {ad : Option Addr} {n cap : Nat} {xs : List α} (h : RSl I sz R (.slice ad n cap) xs) : xs.length ≤ cap := by
  rcases h with ⟨_, rfl⟩ | ⟨b, o, c, hv, h2, _⟩
  · exact Nat.zero_le _
  · simp only [Value.slice.injEq] at hv; omega
theorem tdiv4_b {m : Int} (h0 : -4398046511104 ≤ m) (h1 : m ≤ 4398046511104) : -4398046511104 ≤ m.tdiv 4 ∧ m.tdiv 4 ≤ 4398046511104 := by
  rcases Int.le_total 0 m with h | h
  · rw [Int.tdiv_eq_ediv_of_nonneg h]; omega
  · obtain ⟨c, rfl⟩ : ∃ c, m = -c := ⟨-m, by omega⟩
    rw [Int.neg_tdiv, Int.tdiv_eq_ediv_of_nonneg (by omega)]; omega
def twoP (n : Int) : List Int := [n / 256 % 256, n % 256]
theorem twoP_byts (n : Int) : Byts (twoP n) := by
  intro y hy
  simp only [twoP, List.mem_cons, List.not_mem_nil, or_false] at hy
  rcases hy with rfl | rfl <;> omega
def lastL (l : List Int) (k : Nat) : Int := if k = 0 then 0 else l.getD (k - 1) 0
def dltP (l : List Int) (k : Nat) : List Int := twoP ((l.getD k 0 - lastL l k).tdiv 4)
def formL (l : List Int) (k : Nat) : List Int := (List.range k).flatMap (dltP l)
theorem formL_succ (l : List Int) (k : Nat) : formL l (k + 1) = formL l k ++ dltP l k := by unfold formL; rw [List.range_succ, List.flatMap_append]; simp
theorem formL_len (l : List Int) (k : Nat) : (formL l k).length = 2 * k := by
  induction k with
  | zero => rfl
  | succ k ih => rw [formL_succ, List.length_append, ih]; show _ + 2 = _; omega
def bitsU (c : List Bool) : Nat → Int
  | 0 => 0
  | k + 1 => bitsU c k + (if c.getD k false = true then 2 ^ k else 0)
theorem bitsU_b (c : List Bool) (k : Nat) : 0 ≤ bitsU c k ∧ bitsU c k < 2 ^ k := by
  induction k with
  | zero => exact ⟨Int.le_refl _, by show (0 : Int) < 1; decide⟩
  | succ k ih =>
    have h1 : (0 : Int) < 2 ^ k := by have := Nat.one_le_two_pow (n := k); exact_mod_cast this
    have e : (2 : Int) ^ (k + 1) = 2 ^ k + 2 ^ k := by rw [Int.pow_succ]; omega
    unfold bitsU
    split <;> omega
theorem pow_le8 {j : Nat} (h : j ≤ 7) : (2 : Int) ^ j ≤ 128 := by
  have := Nat.pow_le_pow_right (n := 2) (by omega) h
  exact_mod_cast this
def marksB (m : List Bool) (k : Nat) : List Int := (List.range k).map fun i => bitsU (chunk m i) (chunk m i).length
theorem marksB_succ (m : List Bool) (k : Nat) : marksB m (k + 1) = marksB m k ++ [bitsU (chunk m k) (chunk m k).length] := by unfold marksB; rw [List.range_succ, List.map_append]; rfl
theorem marksB_len (m : List Bool) (k : Nat) : (marksB m k).length = k := by simp [marksB]
def headF (x : LiftL) : List Int := twoP (x.words.length : Int) ++ twoP (x.labels.length : Int)
theorem headF_len (x : LiftL) : (headF x).length = 4 := rfl
def formP (x : LiftL) : List Int := headF x ++ formL x.labels x.labels.length ++ marksB x.marks ((x.marks.length + 7) / 8) ++ bytesP x.words
theorem formP_len (x : LiftL) : (formP x).length = 4 + 2 * x.labels.length + (x.marks.length + 7) / 8 + 4 * x.words.length := by
  unfold formP; rw [List.length_append, List.length_append, List.length_append, headF_len, formL_len, marksB_len, bytesP_len]
theorem lastL_succ (l : List Int) (k : Nat) : lastL l (k + 1) = l.getD k 0 := by unfold lastL; rw [if_neg (by omega)]; rfl
theorem labs_getD {l : List Int} (h : Labs l) (i : Nat) : -1099511627776 ≤ l.getD i 0 ∧ l.getD i 0 ≤ 1099511627776 := by
  rw [List.getD_eq_getElem?_getD]
  cases e : l[i]? with
  | none => simp
  | some y => exact h y (List.mem_of_getElem? e)
theorem lastL_b {l : List Int} (h : Labs l) (i : Nat) : -1099511627776 ≤ lastL l i ∧ lastL l i ≤ 1099511627776 := by
  unfold lastL; split
  · omega
  · exact labs_getD h _

theorem two_o (n : Int) (w0 : World) (I0 : Imm) (hI : Sat I0 w0) (h0 : -4611686018427387904 ≤ n) (h1 : n ≤ 4611686018427387904) :
    Ctr Tryz.prog 78 [.int .i64 n] w0 (fun v w' => ∃ b, v = .slice (some ⟨b, 0, none⟩) 2 2 ∧ St [] w0 I0 I0 w' [.cel b 5 [.int .u8 (n / 256 % 256), .int .u8 (n % 256)]]) := by
  refine fn (n := 9) Tryz.func78 rfl rfl rfl ?_
  have hS := St.start hI
  refine wpIn_seq ?_
  refine reg ?_
  refine qq hS (g_assign _) ?_
  refine ol_nil (thenN ?_)
  refine wpIn_seq ?_
  refine reg ?_
  refine qq hS (g_movev (v := .int .i64 _) rfl) ?_
  refine qq hS (g_shrV (s := 8) (c := n / 256) rfl rfl rfl rfl rfl) ?_
  refine qq hS (g_convK (c := n / 256 % 256) Tryz.underlying3 Tryz.underlying5 rfl (IntKind.wrap_u8 _)) ?_
  refine qq hS (g_movev (v := .int .i64 _) rfl) ?_
  refine qq hS (g_convK (c := n % 256) Tryz.underlying3 Tryz.underlying5 rfl (IntKind.wrap_u8 _)) ?_
  refine qe (d_lit (vs := [.int .u8 _, .int .u8 _]) (cs := [.int .u8 _, .int .u8 _]) hS Tryz.underlying22 Tryz.sizeOf5 Tryz.zeroValue5 rfl rfl rfl rfl (fun v hv => by simp only [List.mem_cons, List.not_mem_nil, or_false] at hv; rcases hv with rfl | rfl <;> rfl) rfl) ?_
  clear hS
  rintro _ w_1 ⟨b8, rfl, hS⟩
  refine qq hS (g_assign _) ?_
  refine ol_nil (thenN ?_)
  refine wpIn_ret ?_
  refine ret1 Tryz.results78 (rv_tmp rfl) ?_
  exact ⟨b8, rfl, hS⟩

theorem two_r (n : Int) (w0 : World) (I0 : Imm) (hI : Sat I0 w0) (h0 : -4611686018427387904 ≤ n) (h1 : n ≤ 4611686018427387904) :
    Ctr Tryz.prog 78 [.int .i64 n] w0 (fun v w' => ∃ a c, v = .slice a 2 c ∧ St [] w0 I0 I0 w' [.row (.slice a 2 c) 5 1 2 (flat byteC (twoP n))]) :=
  (two_o n w0 I0 hI h0 h1).mono fun v w' ⟨b, hv, hS⟩ => ⟨_, _, hv, hS.asRow (k := 0) (sz := 1) (m := 2) rfl rfl (by decide)⟩

set_option maxHeartbeats 2000000 in
theorem lform_c (x : LiftL) (a0 a1 a2 : Option Addr) (c0 c1 c2 : Nat) (w0 : World) (I0 : Imm) (hI : Sat I0 w0) (hx : RLf I0 a0 c0 a1 c1 a2 c2 x) (hw : Wrds x.words) (hlb : Labs x.labels) (hn0 : x.words.length ≤ 65536) (hn1 : x.marks.length ≤ 65536) (hn2 : x.labels.length ≤ 65536) :
    Ctr Tryz.prog 34 [.agg #[.slice a0 x.words.length c0, .slice a1 x.marks.length c1, .slice a2 x.labels.length c2]] w0 (fun v w' => ∃ I' a c, v = .slice a (formP x).length c ∧ Ext w0 I0 w' I' ∧ RBytes I' (.slice a (formP x).length c) (formP x)) := by
  refine fnM (n := 62) Tryz.func34 rfl rfl rfl ?_
  have hS := St.start hI
  refine wpIn_seq ?_
  refine reg ?_
  refine qe (d_box (cs := [.slice _ _ _, .slice _ _ _, .slice _ _ _]) hS rfl) ?_
  clear hS
  rintro _ w_1 ⟨b1, rfl, hS⟩
  refine qq hS (g_assign _) ?_
  refine ol_nil (thenN ?_)
  refine meet (fun σ w => ∃ b3 a c, okS σ [(1, .pointer (some ⟨b1, 0, none⟩)), (3, .pointer (some ⟨b3, 0, none⟩))] ∧ St [] w0 I0 I0 w [.row (.slice a (4) c) 5 1 (4) (flat byteC (headF x)), .cel b3 22 [.slice a (4) c], .cel b1 76 [.slice a0 x.words.length c0, .slice a1 x.marks.length c1, .slice a2 x.labels.length c2]]) ?_ ?_
  ·
    refine drawS [true] (.cons 0 .pure (.cons 1 .held (.cons 2 .pure (.cons 4 .pure (.cons 5 .held (.cons 6 .pure (.fork 3 (.fork 7 (.fork 8 (.cons 9 .eff (.cons 10 .eff .nil)) 9 (.cons 8 .eff (.cons 10 .eff .nil))) 9 (.cons 7 .eff (.cons 8 .eff (.cons 10 .eff .nil)))) 9 (.cons 3 .eff (.cons 7 .eff (.cons 8 .eff (.cons 10 .eff .nil))))))))))) mixed (by kernel_rfl) hS ?_
    intro w_2 hS
    refine sp rfl (g_fieldAddr (o' := 0) Tryz.underlying76 rfl Tryz.sizeOf72 rfl rfl rfl) ?_
    refine sh rfl (g_ldO1 0 Tryz.isAgg72 rfl rfl rfl) ?_
    refine sp rfl (g_lenI rfl Tryz.underlying72 hx.w rfl) ?_
    refine sp rfl (g_fieldAddr (o' := 2) Tryz.underlying76 rfl Tryz.sizeOf74 rfl rfl rfl) ?_
    refine sh rfl (g_ldO1 0 Tryz.isAgg74 rfl rfl rfl) ?_
    refine sp rfl (g_lenI rfl Tryz.underlying74 hx.l rfl) ?_
    refine sk ?_ ?_
    ·
      have hS0 := hS
      refine se rfl (d_call Tryz.call78 rfl (two_r (x.words.length : Int) _ _ hS.imm (by omega) (by omega))) ?_
      rintro _ w_3 ⟨a14, c14, rfl, hE⟩
      replace hS := hS.call hE
      refine ⟨_, _, (hS0.sel [true]).le hE.ext (List.Sublist.refl _), hS.sel [false, true], ?_⟩
      refine sk ?_ ?_
      ·
        have hS0 := hS
        refine se rfl (d_call Tryz.call78 rfl (two_o (x.labels.length : Int) _ _ hS.imm (by omega) (by omega))) ?_
        rintro _ w_4 ⟨b18, rfl, hE⟩
        replace hS := hS.call hE
        refine ⟨_, _, (hS0.sel [false, true]).le hE.ext (List.Sublist.refl _), hS.sel [false, false, true], ?_⟩
        refine sk ?_ ?_
        ·
          have hS0 := hS
          refine se rfl (i_appendO 1 0 (m' := 2) hS rfl Tryz.underlying22 info5 rfl rfl rfl rfl rfl rfl rfl rfl (by omega) (by omega)) ?_
          rintro _ w_5 ⟨a19, p19, rfl, hS⟩
          refine ⟨_, _, fun _ h => h, hS.sel [false, false, true], ?_⟩
          have hS0 := hS
          refine se rfl (d_alloc (cs := [.slice _ _ _]) hS Tryz.zeroValue22 rfl) ?_
          rintro _ w_6 ⟨b3, rfl, hS⟩
          refine ⟨_, _, fun _ h => h, hS.sel [false, false, false, true], ?_⟩
          have hS0 := hS
          refine se rfl (d_store 0 hS Tryz.sizeOf22 rfl rfl rfl (vs := [.slice _ _ _]) rfl rfl rfl (Nat.le_of_ble_eq_true rfl) (cs' := [_]) rfl) ?_
          rintro _ w_7 ⟨rfl, hS⟩
          refine ⟨_, _, fun _ h => h, hS.sel [false, false, false, true], ?_⟩
          refine sn (thenN ?_)
          exact ⟨_, rfl, b3, a19, p19, ⟨rfl, rfl, trivial⟩, by have h := (hS.ord [2, 0, 3]); rw [headF, flat_append]; exact h⟩
        ·
          have hS0 := hS
          refine se rfl (d_alloc (cs := [.slice _ _ _]) hS Tryz.zeroValue22 rfl) ?_
          rintro _ w_8 ⟨b3, rfl, hS⟩
          refine ⟨_, _, fun _ h => h, hS.sel [false, false, false, true], ?_⟩
          have hS0 := hS
          refine se rfl (i_appendO 2 1 (m' := 2) hS rfl Tryz.underlying22 info5 rfl rfl rfl rfl rfl rfl rfl rfl (by omega) (by omega)) ?_
          rintro _ w_9 ⟨a19, p19, rfl, hS⟩
          refine ⟨_, _, fun _ h => h, hS.sel [false, false, false, true], ?_⟩
          have hS0 := hS
          refine se rfl (d_store 0 hS Tryz.sizeOf22 rfl rfl rfl (vs := [.slice _ _ _]) rfl rfl rfl (Nat.le_of_ble_eq_true rfl) (cs' := [_]) rfl) ?_
          rintro _ w_10 ⟨rfl, hS⟩
          refine ⟨_, _, fun _ h => h, hS.sel [false, false, false, true], ?_⟩
          refine sn (thenN ?_)
          exact ⟨_, rfl, b3, a19, p19, ⟨rfl, rfl, trivial⟩, by have h := (hS.ord [2, 0, 3]); rw [headF, flat_append]; exact h⟩
      ·
        have hS0 := hS
        refine se rfl (d_alloc (cs := [.slice _ _ _]) hS Tryz.zeroValue22 rfl) ?_
        rintro _ w_11 ⟨b3, rfl, hS⟩
        refine ⟨_, _, fun _ h => h, hS.sel [false, false, true], ?_⟩
        have hS0 := hS
        refine se rfl (d_call Tryz.call78 rfl (two_o (x.labels.length : Int) _ _ hS.imm (by omega) (by omega))) ?_
        rintro _ w_12 ⟨b18, rfl, hE⟩
        replace hS := hS.call hE
        refine ⟨_, _, (hS0.sel [false, false, true]).le hE.ext (List.Sublist.refl _), hS.sel [false, false, false, true], ?_⟩
        have hS0 := hS
        refine se rfl (i_appendO 2 0 (m' := 2) hS rfl Tryz.underlying22 info5 rfl rfl rfl rfl rfl rfl rfl rfl (by omega) (by omega)) ?_
        rintro _ w_13 ⟨a19, p19, rfl, hS⟩
        refine ⟨_, _, fun _ h => h, hS.sel [false, false, false, true], ?_⟩
        have hS0 := hS
        refine se rfl (d_store 1 hS Tryz.sizeOf22 rfl rfl rfl (vs := [.slice _ _ _]) rfl rfl rfl (Nat.le_of_ble_eq_true rfl) (cs' := [_]) rfl) ?_
        rintro _ w_14 ⟨rfl, hS⟩
        refine ⟨_, _, fun _ h => h, hS.sel [false, false, false, true], ?_⟩
        refine sn (thenN ?_)
        exact ⟨_, rfl, b3, a19, p19, ⟨rfl, rfl, trivial⟩, by have h := (hS.ord [2, 1, 3]); rw [headF, flat_append]; exact h⟩
    ·
      have hS0 := hS
      refine se rfl (d_alloc (cs := [.slice _ _ _]) hS Tryz.zeroValue22 rfl) ?_
      rintro _ w_15 ⟨b3, rfl, hS⟩
      refine ⟨_, _, fun _ h => h, hS.sel [false, true], ?_⟩
      have hS0 := hS
      refine se rfl (d_call Tryz.call78 rfl (two_r (x.words.length : Int) _ _ hS.imm (by omega) (by omega))) ?_
      rintro _ w_16 ⟨a14, c14, rfl, hE⟩
      replace hS := hS.call hE
      refine ⟨_, _, (hS0.sel [false, true]).le hE.ext (List.Sublist.refl _), hS.sel [false, false, true], ?_⟩
      have hS0 := hS
      refine se rfl (d_call Tryz.call78 rfl (two_o (x.labels.length : Int) _ _ hS.imm (by omega) (by omega))) ?_
      rintro _ w_17 ⟨b18, rfl, hE⟩
      replace hS := hS.call hE
      refine ⟨_, _, (hS0.sel [false, false, true]).le hE.ext (List.Sublist.refl _), hS.sel [false, false, false, true], ?_⟩
      have hS0 := hS
      refine se rfl (i_appendO 1 0 (m' := 2) hS rfl Tryz.underlying22 info5 rfl rfl rfl rfl rfl rfl rfl rfl (by omega) (by omega)) ?_
      rintro _ w_18 ⟨a19, p19, rfl, hS⟩
      refine ⟨_, _, fun _ h => h, hS.sel [false, false, false, true], ?_⟩
      have hS0 := hS
      refine se rfl (d_store 2 hS Tryz.sizeOf22 rfl rfl rfl (vs := [.slice _ _ _]) rfl rfl rfl (Nat.le_of_ble_eq_true rfl) (cs' := [_]) rfl) ?_
      rintro _ w_19 ⟨rfl, hS⟩
      refine ⟨_, _, fun _ h => h, hS.sel [false, false, false, true], ?_⟩
      refine sn (thenN ?_)
      exact ⟨_, rfl, b3, a19, p19, ⟨rfl, rfl, trivial⟩, by have h := (hS.sel [false, true, true, true]); rw [headF, flat_append]; exact h⟩
  ·
    rintro σ w_j ⟨b3, a, c, hs, hS⟩
    rw [← upds_self hs]
    refine wpIn_seq ?_
    refine reg ?_
    refine qq hS (g_assignv (v := .int .i64 _) rfl) ?_
    refine ol_nil (thenN ?_)
    refine wpIn_seq ?_
    refine wpIn_seq ?_
    refine reg ?_
    refine qq hS (g_fieldAddr (o' := 2) Tryz.underlying76 rfl Tryz.sizeOf74 rfl rfl rfl) ?_
    refine qq hS (g_ldO1 2 Tryz.isAgg74 rfl rfl rfl) ?_
    refine qq hS (g_lenI rfl Tryz.underlying74 hx.l rfl) ?_
    refine qq hS (g_movev (v := .int .i64 _) rfl) ?_
    refine ol_nil (thenN ?_)
    refine wpIn_block ?_
    refine loop (fun (x1 : BtW) σ w => okS σ [(1, .pointer (some ⟨b1, 0, none⟩)), (3, .pointer (some ⟨b3, 0, none⟩)), (4, .int .i64 (lastL x.labels x1.k)), (21, .slice a2 x.labels.length c2), (22, .int .i64 x.labels.length), (23, .int .i64 x1.k)] ∧ St [] w0 I0 I0 w [.row (.slice x1.a (4 + 2 * x1.k) x1.c) 5 1 (4 + 2 * x1.k) (flat byteC (headF x ++ formL x.labels x1.k)), .cel b3 22 [.slice x1.a (4 + 2 * x1.k) x1.c], .cel b1 76 [.slice a0 x.words.length c0, .slice a1 x.marks.length c1, .slice a2 x.labels.length c2]] ∧ x1.k ≤ x.labels.length) (fun x1 => x.labels.length - x1.k) (⟨0, a, c⟩) ?_ ?_
    ·
      refine ⟨⟨rfl, rfl, rfl, rfl, rfl, rfl, trivial⟩, ?_, by dsimp only; omega⟩
      dsimp only
      rw [show formL x.labels 0 = [] from rfl, List.append_nil]
      exact hS.sel [true, true, true]
    ·
      rintro ⟨k, a, c⟩ σ w_l ⟨hs, hS, hk⟩
      dsimp only at hs hS hk ⊢
      rw [← upds_self hs]; clear hs
      refine wpIn_seq ?_
      refine reg ?_
      refine qq hS (g_lss rfl rfl) ?_
      refine ol_nil (thenN ?_)
      refine wpIn_seq ?_
      refine cond_s rfl ?_ ?_
      ·
        intro hc24
        try simp only [Bool.and_eq_true, Bool.or_eq_true, Bool.not_eq_true', Bool.and_eq_false_imp, Bool.or_eq_false_iff, Bool.not_eq_false', decide_eq_true_eq, decide_eq_false_iff_not] at hc24
        obtain ⟨n, hni⟩ : ∃ n, x.labels[k]? = some n := ⟨_, List.getElem?_eq_getElem (by omega)⟩
        have hlA := hx.l.at hni
        have hnb := hlb n (List.mem_of_getElem? hni)
        have hlst := lastL_b hlb k
        have hdl : dltP x.labels k = twoP ((n - lastL x.labels k).tdiv 4) := by unfold dltP; rw [getN_at hni]
        have htd := tdiv4_b (m := n - lastL x.labels k) (by omega) (by omega)
        have hln : lastL x.labels (k + 1) = n := by rw [lastL_succ, getN_at hni]
        refine wpIn_skip ?_
        refine thenN ?_
        refine wpIn_seq ?_
        refine wpIn_block ?_
        refine wpIn_seq ?_
        refine reg ?_
        refine qq hS (g_ixI Tryz.underlying74 Tryz.sizeOf3 hx.l rfl rfl (by omega) (by omega)) ?_
        refine qq hS (g_ldE1 Tryz.isAgg3 hlA rfl rfl) ?_
        refine qq hS (g_assignv (v := .int .i64 _) rfl) ?_
        refine ol_nil (thenN ?_)
        refine wpIn_seq ?_
        refine draw (.cons 0 .held (.cons 1 .pure (.cons 2 .pure (.cons 3 .pure (.cons 4 .pure (.cons 5 .eff (.cons 6 .bar (.cons 7 .bar .nil)))))))) mixed (by kernel_rfl) hS ?_
        intro w_20 hS
        refine sh rfl (g_ldO1 1 Tryz.isAgg22 rfl rfl rfl) ?_
        refine sp rfl (g_movev (v := .int .i64 _) rfl) ?_
        refine sp rfl (g_movev (v := .int .i64 _) rfl) ?_
        refine sp rfl (g_sub rfl rfl (by omega) (by omega)) ?_
        refine sp rfl (g_quoT (c := (n - lastL x.labels k).tdiv 4) rfl rfl (by decide) (by omega) (by omega) rfl) ?_
        have hS0 := hS
        refine se rfl (d_call Tryz.call78 rfl (two_o ((n - lastL x.labels k).tdiv 4) _ _ hS.imm (by omega) (by omega))) ?_
        rintro _ w_21 ⟨b32, rfl, hE⟩
        replace hS := hS.call hE
        refine ⟨_, _, hS0.le hE.ext (List.sublist_append_right _ _), hS, ?_⟩
        refine sb rfl (i_appendO 1 0 (m' := 2) hS rfl Tryz.underlying22 info5 rfl rfl rfl rfl rfl rfl rfl rfl (by omega) (by omega)) ?_
        rintro _ w_22 ⟨a33, p33, rfl, hS⟩
        refine ⟨_, _, hS, ?_⟩
        refine sb rfl (d_store 2 hS Tryz.sizeOf22 rfl rfl rfl (vs := [.slice _ _ _]) rfl rfl rfl (Nat.le_of_ble_eq_true rfl) (cs' := [_]) rfl) ?_
        rintro _ w_23 ⟨rfl, hS⟩
        refine ⟨_, _, hS, ?_⟩
        refine sn (thenN ?_)
        refine reg ?_
        refine qq hS (g_movev (v := .int .i64 _) rfl) ?_
        refine qq hS (g_assignv (v := .int .i64 _) rfl) ?_
        refine ol_nil (blkN (thenN ?_))
        refine reg ?_
        refine qq hS (g_add rfl rfl (by omega) (by omega)) ?_
        refine qq hS (g_movev (v := .int .i64 _) rfl) ?_
        refine ⟨⟨k + 1, a33, p33⟩, _, rfl, ⟨⟨rfl, rfl, congrArg (Value.int .i64) hln.symm, rfl, rfl, rfl, trivial⟩, ?_, by dsimp only; omega⟩, by dsimp only; omega⟩
        dsimp only
        rw [show 4 + 2 * (k + 1) = 4 + 2 * k + 2 by omega, formL_succ, hdl, ← List.append_assoc, flat_append]
        exact hS.sel [false, true, true, true]
      ·
        intro hc24
        try simp only [Bool.and_eq_true, Bool.or_eq_true, Bool.not_eq_true', Bool.and_eq_false_imp, Bool.or_eq_false_iff, Bool.not_eq_false', decide_eq_true_eq, decide_eq_false_iff_not] at hc24
        have hk : k = x.labels.length := by omega
        subst hk
        refine wpIn_exit ?_
        refine thenE (thenE (blkE ?_))
        refine thenN ?_
        refine wpIn_seq ?_
        refine wpIn_seq ?_
        have hcap := rsl_cap hx.m
        refine reg ?_
        refine qq hS (g_fieldAddr (o' := 1) Tryz.underlying76 rfl Tryz.sizeOf73 rfl rfl rfl) ?_
        refine qq hS (g_ldO1 2 Tryz.isAgg73 rfl rfl rfl) ?_
        refine qe (d_call Tryz.call79 rfl (chunk_c _ _ _ _ _ hS.imm)) ?_
        rintro _ w_24 ⟨I_f, b38, d38, rfl, hE, h38, h38b⟩
        replace hS := hS.callE hE
        replace hx := hx.mono hE.ext
        refine ol_nil (thenN ?_)
        refine wpIn_block ?_
        refine range_wp (N := (x.marks.length + 7) / 8) (arg := chunkA (.slice a1 x.marks.length c1) x.marks.length) (fun k I L => RLf I a0 c0 a1 c1 a2 c2 x ∧ ∃ a c, L = [.row (.slice a (4 + 2 * x.labels.length + k) c) 5 1 (4 + 2 * x.labels.length + k) (flat byteC (headF x ++ formL x.labels x.labels.length ++ marksB x.marks k)), .cel b3 22 [.slice a (4 + 2 * x.labels.length + k) c], .cel b1 76 [.slice a0 x.words.length c0, .slice a1 x.marks.length c1, .slice a2 x.labels.length c2]]) (fun k c I L => False) hS rfl Tryz.call121 (chunk1_it x.marks b38 d38 c1 a1 _ h38 h38b hx.m (by omega) hcap) (fun _ => rfl) ?_ (⟨hx, a, c, by rw [show marksB x.marks 0 = [] from rfl, List.append_nil]; rfl⟩) ?_ ?_ ?_
        ·
          rintro k I I' L ⟨h1, h⟩ hs
          exact ⟨h1.mono hs, h⟩
        ·
          rintro k l D oR oB I1 w1 L1 X1 hk ⟨hx, a, c, rfl⟩ hS
          have hcr := chunk_r hx.m (k := k) (by omega)
          have hcl := chunk_len x.marks k
          obtain ⟨cc, hcc⟩ : ∃ cc, chunk x.marks k = cc := ⟨_, rfl⟩
          rw [hcc] at hcr hcl
          obtain ⟨ac, kc, hcv, _⟩ := hcr.len
          have hch : cc.length ≤ 8 := by rw [hcl]; split <;> omega
          rw [show chunkA (.slice a1 x.marks.length c1) x.marks.length k = [.slice ac cc.length kc] from by unfold chunkA; rw [hcv]]
          rw [hcv] at hcr
          show Code.wpIn _ _ _ _ _ (act _ [] (upd _ 39 _)) _
          refine reg ?_
          refine qq hS (g_assign _) ?_
          refine ol_nil ?_
          refine thenN ⟨_, _, _, rfl, hS, ?_⟩
          intro w_b hS
          refine wpIn_block ?_
          refine wpIn_seq ?_
          refine reg ?_
          refine qq hS (g_assignv (v := .int .u8 _) rfl) ?_
          refine ol_nil (thenN ?_)
          refine wpIn_seq ?_
          refine wpIn_seq ?_
          refine reg ?_
          refine qq hS (g_move _) ?_
          refine qq hS (g_lenI rfl Tryz.underlying73 hcr rfl) ?_
          refine qq hS (g_movev (v := .int .i64 _) rfl) ?_
          refine ol_nil (thenN ?_)
          refine wpIn_block ?_
          refine loop (fun (j : Nat) σ w => okS σ [(1, .pointer (some ⟨b1, 0, none⟩)), (3, .pointer (some ⟨b3, 0, none⟩)), (8, .int .u8 (bitsU cc j)), (40, .slice ac cc.length kc), (41, .int .i64 cc.length), (42, .int .i64 j)] ∧ St X1 w1 I1 I1 w [.obj D (.deferred (some [])), .obj l oB, .row (.slice a (4 + 2 * x.labels.length + k) c) 5 1 (4 + 2 * x.labels.length + k) (flat byteC (headF x ++ formL x.labels x.labels.length ++ marksB x.marks k)), .cel b3 22 [.slice a (4 + 2 * x.labels.length + k) c], .cel b1 76 [.slice a0 x.words.length c0, .slice a1 x.marks.length c1, .slice a2 x.labels.length c2]] ∧ j ≤ cc.length) (fun j => cc.length - j) (0) ?_ ?_
          ·
            exact ⟨⟨rfl, rfl, rfl, rfl, rfl, rfl, trivial⟩, hS.sel [true, true, true, true, true], by omega⟩
          ·
            rintro j σ w_l ⟨hs, hS, hjc⟩
            rw [← upds_self hs]; clear hs
            refine wpIn_seq ?_
            refine reg ?_
            refine qq hS (g_lss rfl rfl) ?_
            refine ol_nil (thenN ?_)
            refine wpIn_seq ?_
            refine cond_s rfl ?_ ?_
            ·
              intro hc43
              try simp only [Bool.and_eq_true, Bool.or_eq_true, Bool.not_eq_true', Bool.and_eq_false_imp, Bool.or_eq_false_iff, Bool.not_eq_false', decide_eq_true_eq, decide_eq_false_iff_not] at hc43
              obtain ⟨m, hmi⟩ : ∃ m, cc[j]? = some m := ⟨_, List.getElem?_eq_getElem (by omega)⟩
              have hcA := hcr.at hmi
              have hmg := getDb_at (d := false) hmi
              have hj8 : j ≤ 7 := by omega
              have hp8 := pow_le8 hj8
              have hbb := bitsU_b cc j
              have hp0 : (0 : Int) < 2 ^ j := by omega
              refine wpIn_skip ?_
              refine thenN ?_
              refine wpIn_seq ?_
              refine wpIn_block ?_
              refine wpIn_seq ?_
              refine reg ?_
              refine qq hS (g_movev (v := .int .i64 _) rfl) ?_
              refine qq hS (g_ixI Tryz.underlying73 Tryz.sizeOf4 hcr rfl rfl (by omega) (by omega)) ?_
              refine qq hS (g_ldE1 Tryz.isAgg4 hcA rfl rfl) ?_
              refine qq hS (g_assignv (v := .int .i64 _) rfl) ?_
              refine qq hS (g_assignv (v := .bool _) rfl) ?_
              refine ol_nil (thenN ?_)
              refine wpIn_seq ?_
              refine reg ?_
              refine qq hS (g_movev (v := .bool _) rfl) ?_
              refine ol_nil (thenN ?_)
              refine cond_s rfl ?_ ?_
              ·
                intro hc47
                have hbs : bitsU cc (j + 1) = bitsU cc j + 2 ^ j := by show bitsU cc j + _ = _; rw [if_pos (by rw [hmg]; exact hc47)]
                refine reg ?_
                refine qq hS (g_movev (v := .int .u8 _) rfl) ?_
                refine qq hS (g_movev (v := .int .i64 _) rfl) ?_
                refine qq hS (g_shlV (s := j) (c := 2 ^ j) rfl rfl rfl (Nat.ble_eq_true_of_le (Nat.le_trans (show j ≤ 8 by omega) (Nat.le_refl 8))) (by rw [IntKind.wrap_u8]; omega)) ?_
                refine qq hS (g_orD' (m := j) (c := bitsU cc j + 2 ^ j) rfl rfl (by omega) (Int.lt_of_lt_of_le (show (2 : Int) ^ j < 256 by omega) (Int.le_refl _)) (Int.emod_self) (by omega) (by omega) (Int.lt_of_lt_of_le (show bitsU cc j < 256 by omega) (Int.le_refl _)) (by rw [IntKind.wrap_u8]; omega)) ?_
                refine qq hS (g_assignv (v := .int .u8 _) rfl) ?_
                refine ol_nil (blkN (thenN ?_))
                refine reg ?_
                refine qq hS (g_add rfl rfl (by omega) (by omega)) ?_
                refine qq hS (g_movev (v := .int .i64 _) rfl) ?_
                first
                  | exact ⟨j + 1, _, rfl, ⟨⟨rfl, rfl, congrArg (Value.int .u8) hbs.symm, rfl, rfl, rfl, trivial⟩, hS.sel [true, true, true, true, true], by omega⟩, by omega⟩
              ·
                intro hc47
                have hbs : bitsU cc (j + 1) = bitsU cc j := by show bitsU cc j + _ = _; rw [if_neg (by rw [hmg, hc47]; decide), Int.add_zero]
                refine wpIn_skip ?_
                refine blkN (thenN ?_)
                refine reg ?_
                refine qq hS (g_add rfl rfl (by omega) (by omega)) ?_
                refine qq hS (g_movev (v := .int .i64 _) rfl) ?_
                first
                  | exact ⟨j + 1, _, rfl, ⟨⟨rfl, rfl, congrArg (Value.int .u8) hbs.symm, rfl, rfl, rfl, trivial⟩, hS.sel [true, true, true, true, true], by omega⟩, by omega⟩
            ·
              intro hc43
              try simp only [Bool.and_eq_true, Bool.or_eq_true, Bool.not_eq_true', Bool.and_eq_false_imp, Bool.or_eq_false_iff, Bool.not_eq_false', decide_eq_true_eq, decide_eq_false_iff_not] at hc43
              have hj : j = cc.length := by omega
              subst hj
              refine wpIn_exit ?_
              refine thenE (thenE (blkE ?_))
              refine thenN ?_
              refine reg ?_
              refine qq hS (g_ldO1 3 Tryz.isAgg22 rfl rfl rfl) ?_
              refine qq hS (g_movev (v := .int .u8 _) rfl) ?_
              refine qe (d_lit (vs := [.int .u8 _]) (cs := [.int .u8 _]) hS Tryz.underlying22 Tryz.sizeOf5 Tryz.zeroValue5 rfl rfl rfl rfl (fun v hv => by simp only [List.mem_cons, List.not_mem_nil, or_false] at hv; subst hv; rfl) rfl) ?_
              clear hS
              rintro _ w_25 ⟨b55, rfl, hS⟩
              refine qe (i_appendO 3 0 hS rfl Tryz.underlying22 info5 rfl rfl rfl rfl rfl rfl rfl rfl (by omega) (by omega)) ?_
              clear hS
              rintro _ w_26 ⟨a56, p56, rfl, hS⟩
              refine qe (d_store 4 hS Tryz.sizeOf22 rfl rfl rfl (vs := [.slice _ _ _]) rfl rfl rfl (Nat.le_of_ble_eq_true rfl) (cs' := [_]) rfl) ?_
              clear hS
              rintro _ w_27 ⟨rfl, hS⟩
              refine ol_nil (blkN ?_)
              refine ⟨_, _, (hS.sel [false, true, true, true, true, true]), hx, a56, p56, ?_⟩
              rw [marksB_succ, hcc, ← List.append_assoc, flat_append byteC (headF x ++ formL x.labels x.labels.length ++ marksB x.marks k), flat_one]; rfl
        ·
          rintro D I1 w1 L1 ⟨hx, a, c, rfl⟩ hS
          refine blkN (thenN ?_)
          refine wpIn_seq ?_
          have hbpl := bytesP_len x.words
          refine draw (.cons 0 .held (.cons 1 .pure (.cons 2 .held (.cons 3 .eff (.cons 4 .bar (.cons 5 .pure .nil)))))) mixed (by kernel_rfl) hS ?_
          intro w_28 hS
          refine sh rfl (g_ldO1 2 Tryz.isAgg22 rfl rfl rfl) ?_
          refine sp rfl (g_fieldAddr (o' := 0) Tryz.underlying76 rfl Tryz.sizeOf72 rfl rfl rfl) ?_
          refine sh rfl (g_ldO1 3 Tryz.isAgg72 rfl rfl rfl) ?_
          have hS0 := hS
          refine se rfl (d_call Tryz.call80 rfl (bytes_c a0 c0 x.words _ _ hS.imm hx.w hw (by omega))) ?_
          rintro _ w_29 ⟨I_f, a60, c60, rfl, hE, h60⟩
          replace hS := hS.call hE
          replace hx := hx.mono hE.ext
          refine ⟨_, _, hS0.le hE.ext (List.Sublist.refl _), hS, ?_⟩
          refine sb rfl (i_appendF 1 hS rfl Tryz.underlying22 info5 rfl rfl rfl rfl byteC_len (fun _ => rfl) h60 rfl (by omega) (by omega)) ?_
          rintro _ w_30 ⟨a61, p61, rfl, hS⟩
          refine ⟨_, _, hS, ?_⟩
          refine sp rfl (g_assign _) ?_
          refine sn (thenN ?_)
          refine wpIn_ret ?_
          refine retD1 Tryz.results34 hS (k := 0) rfl (fun w_r hS => ⟨_, (rv_tmp rfl), ?_⟩)
          have hN : (formP x).length = (4 + 2 * x.labels.length + (x.marks.length + 7) / 8 + (bytesP x.words).length) := by rw [formP_len, bytesP_len]
          obtain ⟨I1_, hE1, hI1, hd1⟩ := row_freeze1 byteC_len (u := .slice a61 (4 + 2 * x.labels.length + (x.marks.length + 7) / 8 + (bytesP x.words).length) p61) (m := (4 + 2 * x.labels.length + (x.marks.length + 7) / 8 + (bytesP x.words).length)) (xs := formP x) (by rw [show formP x = (headF x ++ formL x.labels x.labels.length ++ marksB x.marks ((x.marks.length + 7) / 8)) ++ bytesP x.words from rfl, flat_append]; exact hS.sel [false, true, false, false]) hN.symm
          rw [hN]
          exact ⟨I1_, a61, p61, rfl, hE1, hd1⟩
        ·
          rintro D k c I1 w1 L1 hk h hS
          exact h.elim

end Go.Proofs.YtaklmbhfmpdinaaGreatDoor


namespace Go.Proofs.YtaklmbhfmpdinaaGreatDoor
open Go Go.RowKit Go.Inl
set_option linter.unusedSimpArgs false
set_option linter.unusedVariables false
def num2 (b : List Int) (i : Nat) : Int := b.getD i 0 * 256 + b.getD (i + 1) 0
theorem num2_b {b : List Int} (h : Byts b) (i : Nat) : 0 ≤ num2 b i ∧ num2 b i ≤ 65535 := by
  have h0 := byts_getD h i; have h1 := byts_getD h (i + 1)
  unfold num2; omega
def lastU (b : List Int) : Nat → Int
  | 0 => 0
  | k + 1 => lastU b k + 4 * num2 b (4 + 2 * k)
theorem lastU_b {b : List Int} (h : Byts b) (k : Nat) : 0 ≤ lastU b k ∧ lastU b k ≤ 262140 * k := by
  induction k with
  | zero => exact ⟨Int.le_refl _, by show (0 : Int) ≤ _; omega⟩
  | succ k ih => have := num2_b h (4 + 2 * k); unfold lastU; omega
def labsR (b : List Int) (k : Nat) : List Int := (List.range k).map fun i => lastU b (i + 1)
theorem labsR_succ (b : List Int) (k : Nat) : labsR b (k + 1) = labsR b k ++ [lastU b (k + 1)] := by unfold labsR; rw [List.range_succ, List.map_append]; rfl
theorem labsR_len (b : List Int) (k : Nat) : (labsR b k).length = k := by simp [labsR]
def markR (b : List Int) (m i : Nat) : Bool := decide (b.getD (m + i / 8) 0 / 2 ^ (i % 8) % 2 = 1)
def marksR (b : List Int) (m k : Nat) : List Bool := (List.range k).map (markR b m)
theorem marksR_succ (b : List Int) (m k : Nat) : marksR b m (k + 1) = marksR b m k ++ [markR b m k] := by unfold marksR; rw [List.range_succ, List.map_append]; rfl
theorem marksR_len (b : List Int) (m k : Nat) : (marksR b m k).length = k := by simp [marksR]
def nW (b : List Int) : Nat := (num2 b 0).toNat
def nL (b : List Int) : Nat := (num2 b 2).toNat
def atM (b : List Int) : Nat := 4 + 2 * nL b
def atW (b : List Int) : Nat := atM b + (nW b + 7) / 8
def readX (b : List Int) : LiftL := ⟨wordsN (b.drop (atW b)) (nW b), marksR b (atM b) (nW b), labsR b (nL b)⟩
def badF (b : List Int) : Bool := decide (b.length < 4) || !decide (b.length = atW b + 4 * nW b)
def readR (b : List Int) : LiftL × Int := if badF b = true then (LiftL.zero, 3) else if (lowR (readX b)).2 = 0 ∧ formP (readX b) = b then (readX b, 0) else (LiftL.zero, 3)
theorem readX_wrds {b : List Int} (h : Byts b) : Wrds (readX b).words := wordsN_wrds (fun y hy => h y (List.mem_of_mem_drop hy)) _
theorem readX_labs {b : List Int} (h : Byts b) (hn : nL b ≤ 65535) : Labs (readX b).labels := by
  intro n hn'
  obtain ⟨i, hi, rfl⟩ := List.mem_map.1 hn'
  have := lastU_b h (i + 1)
  have hi' := List.mem_range.1 hi
  omega
theorem nW_b {b : List Int} (h : Byts b) : (num2 b 0 = (nW b : Int)) ∧ nW b ≤ 65535 := by have := num2_b h 0; unfold nW; omega
theorem nL_b {b : List Int} (h : Byts b) : (num2 b 2 = (nL b : Int)) ∧ nL b ≤ 65535 := by have := num2_b h 2; unfold nL; omega
theorem readX_w (b : List Int) : (readX b).words.length = nW b := wordsN_len _ _
theorem readX_m (b : List Int) : (readX b).marks.length = nW b := marksR_len _ _ _
theorem readX_l (b : List Int) : (readX b).labels.length = nL b := labsR_len _ _
theorem readR_bad {b : List Int} (h : badF b = true) : readR b = (LiftL.zero, 3) := by unfold readR; rw [if_pos h]
theorem readR_no {b : List Int} (h : badF b = false) (h2 : ¬ ((lowR (readX b)).2 = 0 ∧ formP (readX b) = b)) : readR b = (LiftL.zero, 3) := by unfold readR; rw [if_neg (by rw [h]; decide), if_neg h2]
theorem readR_yes {b : List Int} (h : badF b = false) (h2 : (lowR (readX b)).2 = 0 ∧ formP (readX b) = b) : readR b = (readX b, 0) := by unfold readR; rw [if_neg (by rw [h]; decide), if_pos h2]
theorem RLf.zero (I : Imm) : RLf I none 0 none 0 none 0 LiftL.zero := ⟨RFl.nil, RFl.nil, RFl.nil⟩
theorem getD_get {l : List Int} {i : Nat} (h : i < l.length) : l[i]? = some (l.getD i 0) := by rw [List.getD_eq_getElem?_getD, List.getElem?_eq_getElem h]; rfl

theorem numL_c (b : List Int) (ad : Option Addr) (cap b1 i : Nat) (w0 : World) (I0 : Imm) (hI : Sat I0 w0) (h1 : atI I0 ⟨b1, 0, none⟩ [.slice ad b.length cap]) (hl : RBytes I0 (.slice ad b.length cap) b) (hb : Byts b) (hi : i + 1 < b.length) :
    Ctr Tryz.prog 81 [.int .i64 i, .pointer (some ⟨b1, 0, none⟩)] w0 (fun v w' => v = .int .i64 (num2 b i) ∧ Ext w0 I0 w' I0) := by
  have h0A := hl.at (getD_get (l := b) (i := i) (by omega))
  have h1A := hl.at (getD_get (l := b) (i := i + 1) hi)
  have hy0 := byts_getD hb i
  have hy1 := byts_getD hb (i + 1)
  have hle := RSl.le hl
  simp only [maxLen] at hle
  refine fn (n := 17) Tryz.func81 rfl rfl rfl ?_
  have hS := St.start hI
  refine wpIn_seq ?_
  refine reg ?_
  refine qq hS (g_assignv (v := .int .i64 _) rfl) ?_
  refine ol_nil (thenN ?_)
  refine wpIn_seq ?_
  refine draw (.cons 0 .held (.cons 1 .pure (.cons 2 .pure (.cons 3 .held (.cons 4 .pure (.cons 5 .pure (.cons 6 .held (.cons 7 .pure (.cons 8 .pure (.cons 9 .pure (.cons 10 .held (.cons 11 .pure (.cons 12 .pure (.cons 13 .pure .nil)))))))))))))) mixed (by kernel_rfl) hS ?_
  intro w_1 hS
  refine sh rfl (g_ldB1 (c := 0) Tryz.isAgg22 h1 rfl rfl) ?_
  refine sp rfl (g_movev (v := .int .i64 _) rfl) ?_
  refine sp rfl (g_ixI Tryz.underlying22 Tryz.sizeOf5 hl rfl rfl (by omega) (by omega)) ?_
  refine sh rfl (g_ldE1 Tryz.isAgg5 h0A rfl rfl) ?_
  refine sp rfl (g_convi Tryz.underlying5 Tryz.underlying3 rfl (by omega) (by omega)) ?_
  refine sp rfl (g_shlV (s := 8) (c := b.getD i 0 * 256) rfl rfl rfl rfl (by rw [IntKind.wrap_i64]; omega)) ?_
  refine sh rfl (g_ldB1 (c := 0) Tryz.isAgg22 h1 rfl rfl) ?_
  refine sp rfl (g_movev (v := .int .i64 _) rfl) ?_
  refine sp rfl (g_add rfl rfl (by omega) (by omega)) ?_
  refine sp rfl (g_ixI Tryz.underlying22 Tryz.sizeOf5 hl rfl rfl (by omega) (by omega)) ?_
  refine sh rfl (g_ldE1 Tryz.isAgg5 h1A rfl rfl) ?_
  refine sp rfl (g_convi Tryz.underlying5 Tryz.underlying3 rfl (by omega) (by omega)) ?_
  refine sp rfl (g_orD (m := 8) (c := num2 b i) rfl rfl (by omega) (Int.lt_of_lt_of_le (show b.getD i 0 * 256 < 4294967296 by omega) (by decide)) (by omega) (by omega) (by omega) (Int.lt_of_lt_of_le (show b.getD (i + 1) 0 < 4294967296 by omega) (by decide)) (by rw [IntKind.wrap_i64]; unfold num2; omega)) ?_
  refine sp rfl (g_assignv (v := .int .i64 _) rfl) ?_
  refine sn (thenN ?_)
  refine wpIn_ret ?_
  refine ret1 Tryz.results81 (rv_tmp (v := .int .i64 _) rfl) ?_
  exact ⟨rfl, hS.nil⟩

theorem words_E (ad : Option Addr) (cap n : Nat) (b : List Int) (w0 : World) (I0 : Imm) (hI : Sat I0 w0) {m : Nat} (hl : RBytes I0 (.slice ad m cap) b) (hb : Byts b) (hn : b.length = 4 * n) (hm : b.length = m) (hn1 : n ≤ 1073741824) :
    Ctr Tryz.prog 71 [.slice ad m cap] w0 (fun v w' => ∃ I' a c, v = .tuple #[.slice a n c, .int .i64 0] ∧ Ext w0 I0 w' I' ∧ RFl I' 1 u32C (.slice a n c) (wordsN b n)) := by
  subst hm; exact words_c ad cap n b w0 I0 hI hl hb hn hn1
theorem lowerL_E (x : LiftL) (a0 a1 a2 : Option Addr) (c0 c1 c2 : Nat) (B : List Int) (e : Int) (n0 n1 n2 : Nat) (w0 : World) (I0 : Imm) (hI : Sat I0 w0) (hx : RLf I0 a0 c0 a1 c1 a2 c2 x) (hw : Wrds x.words) (hlb : Labs x.labels) (he : lowR x = (B, e)) (e0 : n0 = x.words.length) (e1 : n1 = x.marks.length) (e2 : n2 = x.labels.length) :
    Ctr Tryz.prog 37 [.agg #[.slice a0 n0 c0, .slice a1 n1 c1, .slice a2 n2 c2]] w0 (fun v w' => ∃ I' a c, v = .tuple #[.slice a B.length c, .int .i64 e] ∧ Ext w0 I0 w' I' ∧ RBytes I' (.slice a B.length c) B) := by
  subst e0 e1 e2; exact lowerL_c x a0 a1 a2 c0 c1 c2 B e w0 I0 hI hx hw hlb he
theorem lform_E (x : LiftL) (a0 a1 a2 : Option Addr) (c0 c1 c2 : Nat) (n0 n1 n2 : Nat) (w0 : World) (I0 : Imm) (hI : Sat I0 w0) (hx : RLf I0 a0 c0 a1 c1 a2 c2 x) (hw : Wrds x.words) (hlb : Labs x.labels) (hn0 : n0 ≤ 65536) (hn1 : n1 ≤ 65536) (hn2 : n2 ≤ 65536) (e0 : n0 = x.words.length) (e1 : n1 = x.marks.length) (e2 : n2 = x.labels.length) :
    Ctr Tryz.prog 34 [.agg #[.slice a0 n0 c0, .slice a1 n1 c1, .slice a2 n2 c2]] w0 (fun v w' => ∃ I' a c, v = .slice a (formP x).length c ∧ Ext w0 I0 w' I' ∧ RBytes I' (.slice a (formP x).length c) (formP x)) := by
  subst e0 e1 e2; exact lform_c x a0 a1 a2 c0 c1 c2 w0 I0 hI hx hw hlb hn0 hn1 hn2

set_option maxHeartbeats 2000000 in
theorem lread_c (b : List Int) (ad : Option Addr) (cap : Nat) (x : LiftL) (e : Int) (w0 : World) (I0 : Imm) (hI : Sat I0 w0) (hl : RBytes I0 (.slice ad b.length cap) b) (hb : Byts b) (he : readR b = (x, e)) :
    Ctr Tryz.prog 36 [.slice ad b.length cap] w0 (fun v w' => ∃ I' a0 c0 a1 c1 a2 c2, v = .tuple #[.agg #[.slice a0 x.words.length c0, .slice a1 x.marks.length c1, .slice a2 x.labels.length c2], .int .i64 e] ∧ Ext w0 I0 w' I' ∧ RLf I' a0 c0 a1 c1 a2 c2 x) := by
  have hle := RSl.le hl
  simp only [maxLen] at hle
  obtain ⟨hnw, hnw1⟩ := nW_b hb
  obtain ⟨hnl, hnl1⟩ := nL_b hb
  have hxw := readX_wrds hb
  have hxl := readX_labs hb hnl1
  refine fn (n := 105) Tryz.func36 rfl rfl rfl ?_
  have hS := St.start hI
  refine wpIn_seq ?_
  refine reg ?_
  refine qe (d_box (cs := [.slice _ _ _]) hS rfl) ?_
  clear hS
  rintro _ w_1 ⟨b1, rfl, hS⟩
  refine qe (d_alloc (cs := [.slice _ _ _, .slice _ _ _, .slice _ _ _]) hS Tryz.zeroValue76 rfl) ?_
  clear hS
  rintro _ w_2 ⟨b2, rfl, hS⟩
  refine qq hS (g_assignv (v := .int .i64 _) rfl) ?_
  refine ol_nil (thenN ?_)
  refine wpIn_seq ?_
  refine wpIn_seq ?_
  refine reg ?_
  refine qq hS (g_ldO1 1 Tryz.isAgg22 rfl rfl rfl) ?_
  refine qq hS (g_lenI rfl Tryz.underlying22 hl rfl) ?_
  refine qq hS (g_lss rfl rfl) ?_
  refine ol_nil (thenN ?_)
  refine cond_s rfl ?_ ?_
  ·
    intro hc17
    try simp only [Bool.and_eq_true, Bool.or_eq_true, Bool.not_eq_true', Bool.and_eq_false_imp, Bool.or_eq_false_iff, Bool.not_eq_false', decide_eq_true_eq, decide_eq_false_iff_not] at hc17
    have hbf : badF b = true := by unfold badF; rw [decide_eq_true (by omega)]; rfl
    rw [readR_bad hbf] at he
    obtain ⟨rfl, rfl⟩ := Prod.mk.inj he
    refine wpIn_seq ?_
    refine reg ?_
    refine qq hS (g_buildv (pl := [(0, 1), (1, 1), (2, 1)]) (cs := [.slice _ _ _, .slice _ _ _, .slice _ _ _]) Tryz.zeroValue76 Tryz.underlying76 (fun w => by simp [Tryz.sizeOf72, Tryz.sizeOf73, Tryz.sizeOf74]) mp0 rfl) ?_
    refine qe (d_store 0 hS Tryz.sizeOf76 rfl rfl rfl (vs := [.slice _ _ _, .slice _ _ _, .slice _ _ _]) rfl rfl rfl (Nat.le_of_ble_eq_true rfl) (cs' := [_, _, _]) rfl) ?_
    clear hS
    rintro _ w_3 ⟨rfl, hS⟩
    refine qq hS (g_assignv (v := .int .i64 _) rfl) ?_
    refine ol_nil (thenN ?_)
    refine wpIn_ret ?_
    refine thenR ?_
    refine ret2 Tryz.results36 (rv_cel 0 hS Tryz.sizeOf76 Tryz.isAgg76 rfl rfl rfl) (rv_tmp (v := .int .i64 _) rfl) ?_
    first | exact ⟨_, none, 0, none, 0, none, 0, rfl, hS.nil, RLf.zero _⟩ | exact ⟨_, a85, c85, a, c, a2, c2, by rw [readX_w, readX_m, readX_l], hS.nil, hRL⟩
  ·
    intro hc17
    try simp only [Bool.and_eq_true, Bool.or_eq_true, Bool.not_eq_true', Bool.and_eq_false_imp, Bool.or_eq_false_iff, Bool.not_eq_false', decide_eq_true_eq, decide_eq_false_iff_not] at hc17
    refine wpIn_skip ?_
    refine thenN ?_
    refine wpIn_seq ?_
    have hF := hS.freezeAt 1 rfl
    clear hS
    obtain ⟨I_1, hS, hI_1, h1⟩ := hF
    replace hl := hl.mono hI_1
    refine reg ?_
    refine qq hS (g_makeFuncL ml0 (ml rfl ml0)) ?_
    refine qq hS (g_assign _) ?_
    refine ol_nil (thenN ?_)
    refine wpIn_seq ?_
    refine reg ?_
    refine qq hS (g_move _) ?_
    refine qe (d_callv Tryz.call81 rfl rfl (numL_c b ad cap b1 0 _ _ hS.imm h1 hl hb (by omega))) ?_
    rintro _ w_4 ⟨rfl, hE⟩
    replace hS := hS.callE hE
    refine qq hS (g_move _) ?_
    refine qe (d_callv Tryz.call81 rfl rfl (numL_c b ad cap b1 2 _ _ hS.imm h1 hl hb (by omega))) ?_
    rintro _ w_5 ⟨rfl, hE⟩
    replace hS := hS.callE hE
    refine qq hS (g_assignv (v := .int .i64 _) rfl) ?_
    refine qq hS (g_assignv (v := .int .i64 _) rfl) ?_
    refine ol_nil (thenN ?_)
    refine wpIn_seq ?_
    refine reg ?_
    refine qq hS (g_movev (v := .int .i64 _) rfl) ?_
    refine qq hS (g_mul rfl rfl (by omega) (by omega)) ?_
    refine qq hS (g_add rfl rfl (by omega) (by omega)) ?_
    refine qq hS (g_assignv (v := .int .i64 _) rfl) ?_
    refine ol_nil (thenN ?_)
    refine wpIn_seq ?_
    refine reg ?_
    refine qq hS (g_movev (v := .int .i64 _) rfl) ?_
    refine qq hS (g_movev (v := .int .i64 _) rfl) ?_
    refine qq hS (g_add rfl rfl (by omega) (by omega)) ?_
    refine qq hS (g_quo rfl rfl (by omega) (by omega) (by omega)) ?_
    refine qq hS (g_add rfl rfl (by omega) (by omega)) ?_
    refine qq hS (g_assignv (v := .int .i64 _) rfl) ?_
    refine ol_nil (thenN ?_)
    refine wpIn_seq ?_
    refine wpIn_seq ?_
    refine reg ?_
    refine qq hS (g_ldB1 (c := 0) Tryz.isAgg22 h1 rfl rfl) ?_
    refine qq hS (g_lenI rfl Tryz.underlying22 hl rfl) ?_
    refine qq hS (g_movev (v := .int .i64 _) rfl) ?_
    refine qq hS (g_movev (v := .int .i64 _) rfl) ?_
    refine qq hS (g_mul rfl rfl (by omega) (by omega)) ?_
    refine qq hS (g_add rfl rfl (by omega) (by omega)) ?_
    refine qq hS (g_neq rfl rfl) ?_
    refine ol_nil (thenN ?_)
    refine cond_s rfl ?_ ?_
    ·
      intro hc38
      simp only [Bool.not_eq_true', decide_eq_false_iff_not, Bool.not_eq_false', decide_eq_true_eq] at hc38
      have hbf : badF b = true := by unfold badF; rw [decide_eq_false (show ¬ b.length = atW b + 4 * nW b by unfold atW atM; omega), Bool.not_false, Bool.or_true]
      rw [readR_bad hbf] at he
      obtain ⟨rfl, rfl⟩ := Prod.mk.inj he
      refine wpIn_seq ?_
      refine reg ?_
      refine qq hS (g_buildv (pl := [(0, 1), (1, 1), (2, 1)]) (cs := [.slice _ _ _, .slice _ _ _, .slice _ _ _]) Tryz.zeroValue76 Tryz.underlying76 (fun w => by simp [Tryz.sizeOf72, Tryz.sizeOf73, Tryz.sizeOf74]) mp0 rfl) ?_
      refine qe (d_store 0 hS Tryz.sizeOf76 rfl rfl rfl (vs := [.slice _ _ _, .slice _ _ _, .slice _ _ _]) rfl rfl rfl (Nat.le_of_ble_eq_true rfl) (cs' := [_, _, _]) rfl) ?_
      clear hS
      rintro _ w_6 ⟨rfl, hS⟩
      refine qq hS (g_assignv (v := .int .i64 _) rfl) ?_
      refine ol_nil (thenN ?_)
      refine wpIn_ret ?_
      refine thenR ?_
      refine ret2 Tryz.results36 (rv_cel 0 hS Tryz.sizeOf76 Tryz.isAgg76 rfl rfl rfl) (rv_tmp (v := .int .i64 _) rfl) ?_
      first | exact ⟨_, none, 0, none, 0, none, 0, rfl, hS.nil, RLf.zero _⟩ | exact ⟨_, a85, c85, a, c, a2, c2, by rw [readX_w, readX_m, readX_l], hS.nil, hRL⟩
    ·
      intro hc38
      simp only [Bool.not_eq_true', decide_eq_false_iff_not, Bool.not_eq_false', decide_eq_true_eq] at hc38
      have hlenE : b.length = atW b + 4 * nW b := by unfold atW atM; omega
      have hbf : badF b = false := by unfold badF; rw [decide_eq_false (by omega), decide_eq_true hlenE]; rfl
      have hatM : atM b = 4 + 2 * nL b := rfl
      have hatW : atW b = atM b + (nW b + 7) / 8 := rfl
      refine wpIn_skip ?_
      refine thenN ?_
      refine wpIn_seq ?_
      refine reg ?_
      refine qe (d_alloc (cs := [.slice _ _ _, .slice _ _ _, .slice _ _ _]) hS Tryz.zeroValue76 rfl) ?_
      clear hS
      rintro _ w_7 ⟨b9, rfl, hS⟩
      refine ol_nil (thenN ?_)
      refine wpIn_seq ?_
      refine reg ?_
      refine qq hS (g_assignv (v := .int .i64 _) rfl) ?_
      refine ol_nil (thenN ?_)
      refine wpIn_seq ?_
      refine wpIn_seq ?_
      refine reg ?_
      refine qq hS (g_movev (v := .int .i64 _) rfl) ?_
      refine qq hS (g_movev (v := .int .i64 _) rfl) ?_
      refine ol_nil (thenN ?_)
      refine wpIn_block ?_
      refine loop (fun (x1 : BtW) σ w => okS σ [(1, .pointer (some ⟨b1, 0, none⟩)), (2, .pointer (some ⟨b2, 0, none⟩)), (4, .func (.func 81) #[] #[.pointer (some ⟨b1, 0, none⟩)]), (5, .int .i64 (num2 b 0)), (7, .int .i64 (atM b : Nat)), (8, .int .i64 (atW b : Nat)), (9, .pointer (some ⟨b9, 0, none⟩)), (10, .int .i64 (lastU b x1.k)), (40, .int .i64 (num2 b 2)), (41, .int .i64 x1.k)] ∧ St [] w0 I0 I_1 w [.row (.slice x1.a x1.k x1.c) 3 1 x1.k (flat intC (labsR b x1.k)), .cel b9 76 [.slice none 0 0, .slice none 0 0, .slice x1.a x1.k x1.c], .cel b2 76 [.slice none 0 0, .slice none 0 0, .slice none 0 0]] ∧ x1.k ≤ nL b) (fun x1 => nL b - x1.k) (⟨0, none, 0⟩) ?_ ?_
      ·
        exact ⟨⟨rfl, rfl, rfl, rfl, congrArg (Value.int .i64) (by omega), congrArg (Value.int .i64) (by omega), rfl, rfl, rfl, rfl, trivial⟩, (hS.sel [true, true]).nilRow _ _, by dsimp only; omega⟩
      ·
        rintro ⟨k, a2, c2⟩ σ w_l ⟨hs, hS, hk⟩
        dsimp only at hs hS hk ⊢
        rw [← upds_self hs]; clear hs
        refine wpIn_seq ?_
        refine reg ?_
        refine qq hS (g_lss rfl rfl) ?_
        refine ol_nil (thenN ?_)
        refine wpIn_seq ?_
        refine cond_s rfl ?_ ?_
        ·
          intro hc42
          try simp only [Bool.and_eq_true, Bool.or_eq_true, Bool.not_eq_true', Bool.and_eq_false_imp, Bool.or_eq_false_iff, Bool.not_eq_false', decide_eq_true_eq, decide_eq_false_iff_not] at hc42
          have hnk := num2_b hb (4 + 2 * k)
          have hlu := lastU_b hb k
          have hls : lastU b (k + 1) = lastU b k + 4 * num2 b (4 + 2 * k) := rfl
          refine wpIn_skip ?_
          refine thenN ?_
          refine wpIn_seq ?_
          refine wpIn_block ?_
          refine wpIn_seq ?_
          refine reg ?_
          refine qq hS (g_movev (v := .int .i64 _) rfl) ?_
          refine qq hS (g_assignv (v := .int .i64 _) rfl) ?_
          refine ol_nil (thenN ?_)
          refine wpIn_seq ?_
          refine reg ?_
          refine qq hS (g_movev (v := .int .i64 _) rfl) ?_
          refine qq hS (g_move _) ?_
          refine qq hS (g_movev (v := .int .i64 _) rfl) ?_
          refine qq hS (g_mul rfl rfl (by omega) (by omega)) ?_
          refine qq hS (g_add rfl rfl (by omega) (by omega)) ?_
          refine qe (d_callv Tryz.call81 rfl rfl (numL_c b ad cap b1 (4 + 2 * k) _ _ hS.imm h1 hl hb (by omega))) ?_
          rintro _ w_8 ⟨rfl, hE⟩
          replace hS := hS.callE hE
          refine qq hS (g_mul rfl rfl (by omega) (by omega)) ?_
          refine qq hS (g_add rfl rfl (by omega) (by omega)) ?_
          refine qq hS (g_assignv (v := .int .i64 _) rfl) ?_
          refine ol_nil (thenN ?_)
          refine reg ?_
          refine qq hS (g_fieldAddr (o' := 2) Tryz.underlying76 rfl Tryz.sizeOf74 rfl rfl rfl) ?_
          refine qq hS (g_ldO1 1 Tryz.isAgg74 rfl rfl rfl) ?_
          refine qq hS (g_movev (v := .int .i64 _) rfl) ?_
          refine qe (d_lit (vs := [.int .i64 _]) (cs := [.int .i64 _]) hS Tryz.underlying74 Tryz.sizeOf3 Tryz.zeroValue3 rfl rfl rfl rfl (fun v hv => by simp only [List.mem_cons, List.not_mem_nil, or_false] at hv; subst hv; rfl) rfl) ?_
          clear hS
          rintro _ w_9 ⟨b55, rfl, hS⟩
          refine qe (i_appendO 1 0 hS rfl Tryz.underlying74 info3 rfl rfl rfl rfl rfl rfl rfl rfl (by omega) (by omega)) ?_
          clear hS
          rintro _ w_10 ⟨a56, p56, rfl, hS⟩
          refine qq hS (g_fieldAddr (o' := 2) Tryz.underlying76 rfl Tryz.sizeOf74 rfl rfl rfl) ?_
          refine qe (d_store 2 hS Tryz.sizeOf74 rfl rfl rfl (vs := [.slice _ _ _]) rfl rfl rfl (Nat.le_of_ble_eq_true rfl) (cs' := [_, _, _]) rfl) ?_
          clear hS
          rintro _ w_11 ⟨rfl, hS⟩
          refine ol_nil (blkN (thenN ?_))
          refine reg ?_
          refine qq hS (g_add rfl rfl (by omega) (by omega)) ?_
          refine qq hS (g_movev (v := .int .i64 _) rfl) ?_
          refine ⟨⟨k + 1, a56, p56⟩, _, rfl, ⟨⟨rfl, rfl, rfl, rfl, rfl, rfl, rfl, rfl, rfl, rfl, trivial⟩, ?_, by dsimp only; omega⟩, by dsimp only; omega⟩
          dsimp only
          rw [labsR_succ, flat_append, flat_one]
          exact hS.sel [false, true, true, true]
        ·
          intro hc42
          try simp only [Bool.and_eq_true, Bool.or_eq_true, Bool.not_eq_true', Bool.and_eq_false_imp, Bool.or_eq_false_iff, Bool.not_eq_false', decide_eq_true_eq, decide_eq_false_iff_not] at hc42
          have hk : k = nL b := by omega
          subst hk
          refine wpIn_exit ?_
          refine thenE (thenE (blkE ?_))
          refine thenN ?_
          refine wpIn_seq ?_
          refine wpIn_seq ?_
          refine reg ?_
          refine qq hS (g_movev (v := .int .i64 _) rfl) ?_
          refine qq hS (g_movev (v := .int .i64 _) rfl) ?_
          refine ol_nil (thenN ?_)
          refine wpIn_block ?_
          refine loop (fun (x2 : BtW) σ w => okS σ [(1, .pointer (some ⟨b1, 0, none⟩)), (2, .pointer (some ⟨b2, 0, none⟩)), (7, .int .i64 (atM b : Nat)), (8, .int .i64 (atW b : Nat)), (9, .pointer (some ⟨b9, 0, none⟩)), (59, .int .i64 (num2 b 0)), (60, .int .i64 x2.k)] ∧ St [] w0 I0 I_1 w [.row (.slice x2.a x2.k x2.c) 4 1 x2.k (flat boolC (marksR b (atM b) x2.k)), .row (.slice a2 (nL b) c2) 3 1 (nL b) (flat intC (labsR b (nL b))), .cel b9 76 [.slice none 0 0, .slice x2.a x2.k x2.c, .slice a2 (nL b) c2], .cel b2 76 [.slice none 0 0, .slice none 0 0, .slice none 0 0]] ∧ x2.k ≤ nW b) (fun x2 => nW b - x2.k) (⟨0, none, 0⟩) ?_ ?_
          ·
            exact ⟨⟨rfl, rfl, rfl, rfl, rfl, rfl, rfl, trivial⟩, (hS.sel [true, true, true]).nilRow _ _, by dsimp only; omega⟩
          ·
            rintro ⟨k, a, c⟩ σ w_l ⟨hs, hS, hk⟩
            dsimp only at hs hS hk ⊢
            rw [← upds_self hs]; clear hs
            refine wpIn_seq ?_
            refine reg ?_
            refine qq hS (g_lss rfl rfl) ?_
            refine ol_nil (thenN ?_)
            refine wpIn_seq ?_
            refine cond_s rfl ?_ ?_
            ·
              intro hc61
              try simp only [Bool.and_eq_true, Bool.or_eq_true, Bool.not_eq_true', Bool.and_eq_false_imp, Bool.or_eq_false_iff, Bool.not_eq_false', decide_eq_true_eq, decide_eq_false_iff_not] at hc61
              have hmA := hl.at (getD_get (l := b) (i := atM b + k / 8) (by omega))
              have hmb := byts_getD hb (atM b + k / 8)
              refine wpIn_skip ?_
              refine thenN ?_
              refine wpIn_seq ?_
              refine wpIn_block ?_
              refine wpIn_seq ?_
              refine reg ?_
              refine qq hS (g_movev (v := .int .i64 _) rfl) ?_
              refine qq hS (g_assignv (v := .int .i64 _) rfl) ?_
              refine ol_nil (thenN ?_)
              refine draw (.cons 0 .pure (.cons 1 .held (.cons 2 .held (.cons 3 .pure (.cons 4 .pure (.cons 5 .pure (.cons 6 .pure (.cons 7 .pure (.cons 8 .held (.cons 9 .pure (.cons 10 .pure (.cons 11 .pure (.cons 12 .pure (.cons 13 .pure (.cons 14 .eff (.cons 15 .bar (.cons 16 .pure (.cons 17 .bar .nil)))))))))))))))))) mixed (by kernel_rfl) hS ?_
              intro w_12 hS
              refine sp rfl (g_fieldAddr (o' := 1) Tryz.underlying76 rfl Tryz.sizeOf73 rfl rfl rfl) ?_
              refine sh rfl (g_ldO1 2 Tryz.isAgg73 rfl rfl rfl) ?_
              refine sh rfl (g_ldB1 (c := 0) Tryz.isAgg22 h1 rfl rfl) ?_
              refine sp rfl (g_movev (v := .int .i64 _) rfl) ?_
              refine sp rfl (g_movev (v := .int .i64 _) rfl) ?_
              refine sp rfl (g_quo rfl rfl (by omega) (by omega) (by omega)) ?_
              refine sp rfl (g_add rfl rfl (by omega) (by omega)) ?_
              refine sp rfl (g_ixI Tryz.underlying22 Tryz.sizeOf5 hl rfl rfl (by omega) (by omega)) ?_
              refine sh rfl (g_ldE1 Tryz.isAgg5 hmA rfl rfl) ?_
              refine sp rfl (g_movev (v := .int .i64 _) rfl) ?_
              refine sp rfl (g_rem rfl rfl (by omega) (by omega)) ?_
              refine sp rfl (g_shrV (s := k % 8) (c := b.getD (atM b + k / 8) 0 / 2 ^ (k % 8)) rfl rfl (by omega) (Nat.ble_eq_true_of_le (Nat.le_trans (show k % 8 ≤ 8 by omega) (Nat.le_refl 8))) rfl) ?_
              refine sp rfl (g_andM (m := 1) (c := b.getD (atM b + k / 8) 0 / 2 ^ (k % 8) % 2) rfl rfl rfl rfl (by rw [IntKind.wrap_u8]; omega)) ?_
              refine sp rfl (g_toV (g_eql rfl rfl) (rfl : _ = Value.bool (markR b (atM b) k))) ?_
              have hS0 := hS
              refine se rfl (d_lit (vs := [.bool _]) (cs := [.bool _]) hS Tryz.underlying73 Tryz.sizeOf4 Tryz.zeroValue4 rfl rfl rfl rfl (fun v hv => by simp only [List.mem_cons, List.not_mem_nil, or_false] at hv; subst hv; rfl) rfl) ?_
              rintro _ w_13 ⟨b77, rfl, hS⟩
              refine ⟨_, _, hS0.le (Sub.refl _) (List.sublist_cons_self _ _), hS, ?_⟩
              refine sb rfl (i_appendO 1 0 hS rfl Tryz.underlying73 info4 rfl rfl rfl rfl rfl rfl rfl rfl (by omega) (by omega)) ?_
              rintro _ w_14 ⟨a78, p78, rfl, hS⟩
              refine ⟨_, _, hS, ?_⟩
              refine sp rfl (g_fieldAddr (o' := 1) Tryz.underlying76 rfl Tryz.sizeOf73 rfl rfl rfl) ?_
              refine sb rfl (d_store 3 hS Tryz.sizeOf73 rfl rfl rfl (vs := [.slice _ _ _]) rfl rfl rfl (Nat.le_of_ble_eq_true rfl) (cs' := [_, _, _]) rfl) ?_
              rintro _ w_15 ⟨rfl, hS⟩
              refine ⟨_, _, hS, ?_⟩
              refine sn (blkN (thenN ?_))
              refine reg ?_
              refine qq hS (g_add rfl rfl (by omega) (by omega)) ?_
              refine qq hS (g_movev (v := .int .i64 _) rfl) ?_
              refine ⟨⟨k + 1, a78, p78⟩, _, rfl, ⟨⟨rfl, rfl, rfl, rfl, rfl, rfl, rfl, trivial⟩, ?_, by dsimp only; omega⟩, by dsimp only; omega⟩
              dsimp only
              rw [marksR_succ, flat_append, flat_one]
              exact hS.sel [false, true, true, true, true]
            ·
              intro hc61
              try simp only [Bool.and_eq_true, Bool.or_eq_true, Bool.not_eq_true', Bool.and_eq_false_imp, Bool.or_eq_false_iff, Bool.not_eq_false', decide_eq_true_eq, decide_eq_false_iff_not] at hc61
              have hk : k = nW b := by omega
              subst hk
              refine wpIn_exit ?_
              refine thenE (thenE (blkE ?_))
              refine thenN ?_
              refine wpIn_seq ?_
              have hs84 := RSl.slL hl (atW b) (by omega)
              obtain ⟨a84, c84, hv84, _⟩ := hs84.len
              rw [hv84] at hs84
              have hbd : Byts (b.drop (atW b)) := fun y hy => hb y (List.mem_of_mem_drop hy)
              refine reg ?_
              refine qq hS (g_ldB1 (c := 0) Tryz.isAgg22 h1 rfl rfl) ?_
              refine qq hS (g_movev (v := .int .i64 _) rfl) ?_
              refine qq hS (g_toV (g_sliceLN (l0 := atW b) Tryz.underlying22 Tryz.sizeOf5 rfl rfl (by omega) (by omega) (by omega)) hv84) ?_
              refine qe (d_call Tryz.call71 rfl (words_E a84 c84 (nW b) (b.drop (atW b)) _ _ hS.imm hs84 hbd (by rw [List.length_drop]; omega) (by rw [List.length_drop]) (by omega))) ?_
              rintro _ w_16 ⟨I_f, a85, c85, rfl, hE, h85⟩
              replace hS := hS.callE hE
              replace hl := hl.mono hE.ext
              replace h1 := h1.mono hE.ext
              refine qq hS (g_move _) ?_
              refine qq hS (g_extract rfl rfl) ?_
              refine qq hS (g_extract (v := .int .i64 _) rfl rfl) ?_
              refine qq hS (g_fieldAddr (o' := 0) Tryz.underlying76 rfl Tryz.sizeOf72 rfl rfl rfl) ?_
              refine qe (d_store 2 hS Tryz.sizeOf72 rfl rfl rfl (vs := [.slice _ _ _]) rfl rfl rfl (Nat.le_of_ble_eq_true rfl) (cs' := [_, _, _]) rfl) ?_
              clear hS
              rintro _ w_17 ⟨rfl, hS⟩
              refine ol_nil (thenN ?_)
              refine wpIn_seq ?_
              refine wpIn_seq ?_
              obtain ⟨B, eL, hlw⟩ : ∃ B eL, lowR (readX b) = (B, eL) := ⟨_, _, rfl⟩
              refine (Decidable.em (eL = 0)).elim (fun h0 => ?_) (fun h0 => ?_)
              ·
                subst h0
                have hF := St.freezeRow (u := .slice a (nW b) c) (m := nW b) (xs := marksR b (atM b) (nW b)) boolC_len (by exact hS.ord [0, 1, 2, 3]) ((marksR_len _ _ _).symm)
                clear hS
                obtain ⟨I_hmk, hS, hI_hmk, hmk⟩ := hF
                replace hl := hl.mono hI_hmk
                replace h1 := h1.mono hI_hmk
                replace h85 := h85.mono hI_hmk
                have hF := St.freezeRow (u := .slice a2 (nL b) c2) (m := nL b) (xs := labsR b (nL b)) intC_len (by exact hS.ord [0, 1, 2]) ((labsR_len _ _).symm)
                clear hS
                obtain ⟨I_hlab, hS, hI_hlab, hlab⟩ := hF
                replace hl := hl.mono hI_hlab
                replace h1 := h1.mono hI_hlab
                replace h85 := h85.mono hI_hlab
                replace hmk := hmk.mono hI_hlab
                have hRL : RLf _ a85 c85 a c a2 c2 (readX b) := ⟨by rw [readX_w]; exact h85, by rw [readX_m]; exact hmk, by rw [readX_l]; exact hlab⟩
                clear h85 hmk hlab
                refine reg ?_
                refine qq hS (g_ldO 0 (vs := [.slice _ _ _, .slice _ _ _, .slice _ _ _]) Tryz.sizeOf76 Tryz.isAgg76 rfl rfl rfl rfl) ?_
                refine qe (d_call Tryz.call37 rfl (lowerL_E (readX b) a85 a a2 c85 c c2 B _ (nW b) (nW b) (nL b) _ _ hS.imm hRL hxw hxl hlw (readX_w b).symm (readX_m b).symm (readX_l b).symm)) ?_
                rintro _ w_18 ⟨I_f, a91, c91, rfl, hE, h91⟩
                replace hS := hS.callE hE
                replace hl := hl.mono hE.ext
                replace h1 := h1.mono hE.ext
                replace hRL := hRL.mono hE.ext
                refine qq hS (g_move _) ?_
                refine qq hS (g_extract rfl rfl) ?_
                refine qq hS (g_extract (v := .int .i64 _) rfl rfl) ?_
                refine qq hS (g_assign _) ?_
                refine qq hS (g_assignv (v := .int .i64 _) rfl) ?_
                refine ol_nil (thenN ?_)
                refine wpIn_seq ?_
                refine draw (.cons 0 .pure (.cons 1 .pure (.cons 2 .pure (.cons 3 .held (.cons 5 .held (.cons 4 .eff (.cons 6 .eff (.cons 7 .pure (.cons 8 .pure .nil))))))))) mixed (by kernel_rfl) hS ?_
                intro w_19 hS
                refine sp rfl (g_movev (v := .int .i64 _) rfl) ?_
                refine sp rfl (g_neqF rfl rfl rfl) ?_
                refine sp rfl (g_movev (v := .bool _) rfl) ?_
                refine sht rfl rfl rfl (g_ldO 0 (vs := [.slice _ _ _, .slice _ _ _, .slice _ _ _]) Tryz.sizeOf76 Tryz.isAgg76 rfl rfl rfl rfl) ?_
                refine sht rfl rfl rfl (g_ldB1 (c := 0) Tryz.isAgg22 h1 rfl rfl) ?_
                have hS0 := hS
                refine Inl.set rfl rfl rfl (d_call Tryz.call34 rfl (lform_E (readX b) a85 a a2 c85 c c2 (nW b) (nW b) (nL b) _ _ hS.imm hRL hxw hxl (by omega) (by omega) (by omega) (readX_w b).symm (readX_m b).symm (readX_l b).symm)) ?_
                rintro _ w_20 ⟨I_f, a98, c98, rfl, hE, h98⟩
                replace hS := hS.call hE
                replace hl := hl.mono hE.ext
                replace h1 := h1.mono hE.ext
                replace hRL := hRL.mono hE.ext
                replace h91 := h91.mono hE.ext
                refine ⟨_, _, hS0.le hE.ext (List.Sublist.refl _), hS, ?_⟩
                have hS0 := hS
                refine Inl.set rfl rfl rfl (d_call Tryz.call82 rfl (eqY_c _ _ _ _ (formP (readX b)) b _ _ hS.imm h98 hl)) ?_
                rintro _ w_21 ⟨rfl, hE⟩
                replace hS := hS.call hE
                refine ⟨_, _, hS0.le hE.ext (List.Sublist.refl _), hS, ?_⟩
                refine spt rfl rfl rfl (g_not rfl) ?_
                refine sp rfl (g_or (b := !decide (formP (readX b) = b)) rfl rfl (fun _ => rfl)) ?_
                refine sn (thenN ?_)
                refine cond_s rfl ?_ ?_
                ·
                  intro hc102
                  try simp only [Bool.and_eq_true, Bool.or_eq_true, Bool.not_eq_true', Bool.and_eq_false_imp, Bool.or_eq_false_iff, Bool.not_eq_false', decide_eq_true_eq, decide_eq_false_iff_not] at hc102
                  have hne : ¬ formP (readX b) = b := by simpa using hc102
                  rw [readR_no hbf (fun h => hne h.2)] at he
                  obtain ⟨rfl, rfl⟩ := Prod.mk.inj he
                  refine wpIn_seq ?_
                  refine reg ?_
                  refine qq hS (g_buildv (pl := [(0, 1), (1, 1), (2, 1)]) (cs := [.slice _ _ _, .slice _ _ _, .slice _ _ _]) Tryz.zeroValue76 Tryz.underlying76 (fun w => by simp [Tryz.sizeOf72, Tryz.sizeOf73, Tryz.sizeOf74]) mp0 rfl) ?_
                  refine qe (d_store 1 hS Tryz.sizeOf76 rfl rfl rfl (vs := [.slice _ _ _, .slice _ _ _, .slice _ _ _]) rfl rfl rfl (Nat.le_of_ble_eq_true rfl) (cs' := [_, _, _]) rfl) ?_
                  clear hS
                  rintro _ w_22 ⟨rfl, hS⟩
                  refine qq hS (g_assignv (v := .int .i64 _) rfl) ?_
                  refine ol_nil (thenN ?_)
                  refine wpIn_ret ?_
                  refine thenR ?_
                  refine ret2 Tryz.results36 (rv_cel 1 hS Tryz.sizeOf76 Tryz.isAgg76 rfl rfl rfl) (rv_tmp (v := .int .i64 _) rfl) ?_
                  first | exact ⟨_, none, 0, none, 0, none, 0, rfl, hS.nil, RLf.zero _⟩ | exact ⟨_, a85, c85, a, c, a2, c2, by rw [readX_w, readX_m, readX_l], hS.nil, hRL⟩
                ·
                  intro hc102
                  try simp only [Bool.and_eq_true, Bool.or_eq_true, Bool.not_eq_true', Bool.and_eq_false_imp, Bool.or_eq_false_iff, Bool.not_eq_false', decide_eq_true_eq, decide_eq_false_iff_not] at hc102
                  have heq : formP (readX b) = b := by simpa using hc102
                  rw [readR_yes hbf ⟨by rw [hlw], heq⟩] at he
                  obtain ⟨rfl, rfl⟩ := Prod.mk.inj he
                  refine wpIn_skip ?_
                  refine thenN ?_
                  refine wpIn_seq ?_
                  refine reg ?_
                  refine qq hS (g_ldO 0 (vs := [.slice _ _ _, .slice _ _ _, .slice _ _ _]) Tryz.sizeOf76 Tryz.isAgg76 rfl rfl rfl rfl) ?_
                  refine qe (d_store 1 hS Tryz.sizeOf76 rfl rfl rfl (vs := [.slice _ _ _, .slice _ _ _, .slice _ _ _]) rfl rfl rfl (Nat.le_of_ble_eq_true rfl) (cs' := [_, _, _]) rfl) ?_
                  clear hS
                  rintro _ w_23 ⟨rfl, hS⟩
                  refine qq hS (g_assignv (v := .int .i64 _) rfl) ?_
                  refine ol_nil (thenN ?_)
                  refine wpIn_ret ?_
                  refine ret2 Tryz.results36 (rv_cel 1 hS Tryz.sizeOf76 Tryz.isAgg76 rfl rfl rfl) (rv_tmp (v := .int .i64 _) rfl) ?_
                  first | exact ⟨_, none, 0, none, 0, none, 0, rfl, hS.nil, RLf.zero _⟩ | exact ⟨_, a85, c85, a, c, a2, c2, by rw [readX_w, readX_m, readX_l], hS.nil, hRL⟩
              ·
                have hF := St.freezeRow (u := .slice a (nW b) c) (m := nW b) (xs := marksR b (atM b) (nW b)) boolC_len (by exact hS.ord [0, 1, 2, 3]) ((marksR_len _ _ _).symm)
                clear hS
                obtain ⟨I_hmk, hS, hI_hmk, hmk⟩ := hF
                replace hl := hl.mono hI_hmk
                replace h1 := h1.mono hI_hmk
                replace h85 := h85.mono hI_hmk
                have hF := St.freezeRow (u := .slice a2 (nL b) c2) (m := nL b) (xs := labsR b (nL b)) intC_len (by exact hS.ord [0, 1, 2]) ((labsR_len _ _).symm)
                clear hS
                obtain ⟨I_hlab, hS, hI_hlab, hlab⟩ := hF
                replace hl := hl.mono hI_hlab
                replace h1 := h1.mono hI_hlab
                replace h85 := h85.mono hI_hlab
                replace hmk := hmk.mono hI_hlab
                have hRL : RLf _ a85 c85 a c a2 c2 (readX b) := ⟨by rw [readX_w]; exact h85, by rw [readX_m]; exact hmk, by rw [readX_l]; exact hlab⟩
                clear h85 hmk hlab
                refine reg ?_
                refine qq hS (g_ldO 0 (vs := [.slice _ _ _, .slice _ _ _, .slice _ _ _]) Tryz.sizeOf76 Tryz.isAgg76 rfl rfl rfl rfl) ?_
                refine qe (d_call Tryz.call37 rfl (lowerL_E (readX b) a85 a a2 c85 c c2 B _ (nW b) (nW b) (nL b) _ _ hS.imm hRL hxw hxl hlw (readX_w b).symm (readX_m b).symm (readX_l b).symm)) ?_
                rintro _ w_24 ⟨I_f, a91, c91, rfl, hE, h91⟩
                replace hS := hS.callE hE
                replace hl := hl.mono hE.ext
                replace h1 := h1.mono hE.ext
                replace hRL := hRL.mono hE.ext
                refine qq hS (g_move _) ?_
                refine qq hS (g_extract rfl rfl) ?_
                refine qq hS (g_extract (v := .int .i64 _) rfl rfl) ?_
                refine qq hS (g_assign _) ?_
                refine qq hS (g_assignv (v := .int .i64 _) rfl) ?_
                refine ol_nil (thenN ?_)
                refine wpIn_seq ?_
                refine draw (.cons 0 .pure (.cons 1 .pure (.cons 2 .pure (.cons 3 .pure (.cons 5 .pure (.cons 4 .eff (.cons 6 .eff (.cons 7 .pure (.cons 8 .pure .nil))))))))) mixed (by kernel_rfl) hS ?_
                intro w_25 hS
                refine sp rfl (g_movev (v := .int .i64 _) rfl) ?_
                refine sp rfl (g_neqT rfl rfl h0) ?_
                refine sp rfl (g_movev (v := .bool _) rfl) ?_
                refine spf rfl rfl rfl rfl ?_
                refine spf rfl rfl rfl rfl ?_
                refine sgf rfl rfl rfl rfl (hS) ?_
                refine sgf rfl rfl rfl rfl (hS) ?_
                refine spf rfl rfl rfl rfl ?_
                refine sp rfl (g_or (b := true) rfl rfl (fun h => (by cases h))) ?_
                refine sn (thenN ?_)
                rw [readR_no hbf (fun h => h0 (by have := h.1; rw [hlw] at this; exact this))] at he
                obtain ⟨rfl, rfl⟩ := Prod.mk.inj he
                refine cond_t (rfl) ?_
                refine wpIn_seq ?_
                refine reg ?_
                refine qq hS (g_buildv (pl := [(0, 1), (1, 1), (2, 1)]) (cs := [.slice _ _ _, .slice _ _ _, .slice _ _ _]) Tryz.zeroValue76 Tryz.underlying76 (fun w => by simp [Tryz.sizeOf72, Tryz.sizeOf73, Tryz.sizeOf74]) mp0 rfl) ?_
                refine qe (d_store 1 hS Tryz.sizeOf76 rfl rfl rfl (vs := [.slice _ _ _, .slice _ _ _, .slice _ _ _]) rfl rfl rfl (Nat.le_of_ble_eq_true rfl) (cs' := [_, _, _]) rfl) ?_
                clear hS
                rintro _ w_26 ⟨rfl, hS⟩
                refine qq hS (g_assignv (v := .int .i64 _) rfl) ?_
                refine ol_nil (thenN ?_)
                refine wpIn_ret ?_
                refine thenR ?_
                refine ret2 Tryz.results36 (rv_cel 1 hS Tryz.sizeOf76 Tryz.isAgg76 rfl rfl rfl) (rv_tmp (v := .int .i64 _) rfl) ?_
                first | exact ⟨_, none, 0, none, 0, none, 0, rfl, hS.nil, RLf.zero _⟩ | exact ⟨_, a85, c85, a, c, a2, c2, by rw [readX_w, readX_m, readX_l], hS.nil, hRL⟩

end Go.Proofs.YtaklmbhfmpdinaaGreatDoor

