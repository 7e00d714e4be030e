/- inlayref06.Symbols: what it computes. Conditions: numbers within bounds. -/
import Derived.Test.YthningkgpanaoaaRef6
namespace Go.Proofs.Ythningkgpanaoaa
open Go Go.RowKit Go.Inl
set_option linter.unusedSimpArgs false
set_option linter.unusedVariables false
theorem symS_1 {x : OpL} {i : Int} (k : x.kind = 1) : symS x i = ⟨true, x.from_ + i, 0⟩ := by unfold symS; rw [if_pos k]
theorem symS_2 {x : OpL} {i : Int} (k : x.kind = 2) : symS x i = ⟨true, x.from_ + i, x.data.getD i.toNat 0⟩ := by unfold symS; rw [if_neg (by omega), if_pos k]
theorem symS_3 {x : OpL} {i : Int} (k : x.kind = 3) : symS x i = ⟨false, 0, x.b⟩ := by unfold symS; rw [if_neg (by omega), if_neg (by omega), if_pos k]
theorem symS_4 {x : OpL} {i : Int} (k : x.kind = 4) : symS x i = ⟨false, 0, x.data.getD i.toNat 0⟩ := by unfold symS; rw [if_neg (by omega), if_neg (by omega), if_neg (by omega), if_pos k]
theorem checkRGo_ok {n out : Int} : ∀ (l : List OpL) (s i : Int), (checkRGo n out l s i).2 = 0 → (∀ x ∈ l, rightR x n = true) ∧ s + ((symsOf l).length : Int) = out
  | [], s, i, h => by
    unfold checkRGo at h
    split at h
    · exact ⟨by simp, by simp [symsOf]; assumption⟩
    · simp at h
  | x :: l, s, i, h => by
    by_cases hb : (!rightR x n || decide (out < s + x.len)) = true
    · rw [checkRGo_bad hb] at h; simp at h
    · have hb' : (!rightR x n || decide (out < s + x.len)) = false := by simpa using hb
      rw [checkRGo_good hb'] at h
      simp only [Bool.or_eq_false_iff, decide_eq_false_iff_not, Bool.not_eq_false'] at hb'
      obtain ⟨h4, h5⟩ := checkRGo_ok l _ _ h
      have hl := rightR_len hb'.1
      refine ⟨fun y hy => ?_, ?_⟩
      · rcases List.mem_cons.1 hy with rfl | hy
        · exact hb'.1
        · exact h4 y hy
      · rw [symsOf_cons, List.length_append, symsOp_length]; omega
theorem checkR_ok {p : PatL} (h : (checkR p).2 = 0) : (∀ x ∈ p.ops, rightR x p.in_ = true) ∧ ((symsOf p.ops).length : Int) = p.out ∧ 0 ≤ p.in_ ∧ p.in_ ≤ 65536 ∧ 0 ≤ p.out ∧ p.out ≤ 65536 ∧ p.ops.length ≤ 4096 := by
  unfold checkR at h
  split at h
  · simp at h
  · rename_i hb
    simp only [inS, Bool.or_eq_true, Bool.not_eq_true', Bool.and_eq_false_iff, decide_eq_true_eq, decide_eq_false_iff_not, not_or] at hb
    obtain ⟨h5, h6⟩ := checkRGo_ok _ _ _ h
    exact ⟨h5, by omega, by omega, by omega, by omega, by omega, by omega⟩
theorem rightR_kind {x : OpL} {n : Int} (h : rightR x n = true) : x.kind = 1 ∨ (x.kind = 2 ∧ (x.data.length : Int) = x.len) ∨ x.kind = 3 ∨ (x.kind = 4 ∧ (x.data.length : Int) = x.len) := by
  by_cases k1 : x.kind = 1
  · exact .inl k1
  by_cases k3 : x.kind = 3
  · exact .inr (.inr (.inl k3))
  have hl : inS x.len 1 65536 = true := by unfold rightR at h; rw [Bool.and_eq_true] at h; exact h.1
  by_cases k2 : x.kind = 2
  · rw [rightR_2 hl k2] at h; simp only [Bool.and_eq_true, decide_eq_true_eq] at h; exact .inr (.inl ⟨k2, h.2⟩)
  by_cases k4 : x.kind = 4
  · rw [rightR_4 hl k4] at h; simp only [Bool.and_eq_true, decide_eq_true_eq] at h; exact .inr (.inr (.inr ⟨k4, h.2⟩))
  rw [rightR_o k1 k2 k3 k4] at h; cases h

theorem symbolR_c (x : OpL) (ad : Option Addr) (m cap : Nat) (n : Int) (w0 : World) (I0 : Imm) (hI : Sat I0 w0) (hd : RBytes I0 (.slice ad m cap) x.data) (hx : x.wf) (hk : x.kind = 1 ∨ (x.kind = 2 ∧ (x.data.length : Int) = x.len) ∨ x.kind = 3 ∨ (x.kind = 4 ∧ (x.data.length : Int) = x.len)) (h0 : 0 ≤ n) (h1 : n < x.len) :
    Ctr Try.prog 55 [opV x ad m cap, .int .i64 n] w0 (fun v w' => v = symV (symS x n) ∧ Ext w0 I0 w' I0) := by
  obtain ⟨⟨k1, k2⟩, ⟨f1, f2⟩, ⟨l1, l2⟩, ⟨b1, b2⟩, hdat⟩ := hx
  refine fn (n := 37) Try.func55 rfl rfl rfl ?_
  have hS := St.start hI
  refine wp_seq ?_
  refine reg ?_
  refine qe (d_box (cs := [.int .i64 _, .int .i64 _, .int .i64 _, .int .u8 _, .slice _ _ _]) hS rfl) ?_
  clear hS
  rintro _ w_1 ⟨b_1, rfl, hS⟩
  refine qe (d_alloc (cs := [.bool _, .int .i64 _, .int .u8 _]) hS Try.zeroValue54 rfl) ?_
  clear hS
  rintro _ w_2 ⟨b_2, rfl, hS⟩
  refine ol_nil (thenN ?_)
  refine wp_seq ?_
  refine wp_seq ?_
  refine reg ?_
  refine qq hS (g_fieldAddr (o' := 0) Try.underlying81 rfl Try.sizeOf3 rfl rfl rfl) ?_
  refine qq hS (g_ldO1 1 Try.isAgg3 rfl rfl rfl) ?_
  refine ol_nil (thenN ?_)
  refine wp_block ?_
  refine wp_seq ?_
  refine reg ?_
  refine qq hS (g_eql rfl rfl) ?_
  refine qq hS (g_assignv (v := .bool _) rfl) ?_
  refine ol_nil (thenN ?_)
  refine cond_s rfl ?_ ?_
  ·
    intro hc7
    simp only [decide_eq_true_eq, decide_eq_false_iff_not] at hc7
    have e := symS_1 (i := n) hc7
    refine wp_seq ?_
    refine reg ?_
    refine qq hS (g_fieldAddr (o' := 1) Try.underlying81 rfl Try.sizeOf3 rfl rfl rfl) ?_
    refine qq hS (g_ldO1 1 Try.isAgg3 rfl rfl rfl) ?_
    refine qq hS (g_movev (v := .int .i64 _) rfl) ?_
    refine qq hS (g_add rfl rfl (by omega) (by omega)) ?_
    refine qq hS (g_buildv (pl := [(0, 1), (1, 1), (2, 1)]) (cs := [.bool _, .int .i64 _, .int .u8 _]) Try.zeroValue54 Try.underlying54 (fun w => by simp [Try.sizeOf3, Try.sizeOf4, Try.sizeOf5]) (mp (v := .bool _) rfl (mp (v := .int .i64 _) rfl mp0)) rfl) ?_
    refine qe (d_store 0 hS Try.sizeOf54 rfl rfl rfl (vs := [.bool _, .int .i64 _, .int .u8 _]) rfl rfl rfl (Nat.le_of_ble_eq_true rfl) (cs' := [_, _, _]) rfl) ?_
    clear hS
    rintro _ w_3 ⟨rfl, hS⟩
    refine ol_nil (thenN ?_)
    refine wp_ret ?_
    refine blkR (thenR ?_)
    refine ret1 Try.results55 (rv_cel 0 hS Try.sizeOf54 Try.isAgg54 rfl rfl rfl) ?_
    rw [e]; exact ⟨rfl, hS.nil⟩
  ·
    intro hc7
    simp only [decide_eq_true_eq, decide_eq_false_iff_not] at hc7
    refine wp_seq ?_
    refine reg ?_
    refine qq hS (g_eql rfl rfl) ?_
    refine qq hS (g_assignv (v := .bool _) rfl) ?_
    refine ol_nil (thenN ?_)
    refine cond_s rfl ?_ ?_
    ·
      intro hc14
      simp only [decide_eq_true_eq, decide_eq_false_iff_not] at hc14
      obtain ⟨y, hy⟩ : ∃ y, x.data[n.toNat]? = some y := ⟨_, List.getElem?_eq_getElem (by omega)⟩
      have hya := hd.at hy
      have hyd : x.data.getD n.toNat 0 = y := by rw [List.getD_eq_getElem?_getD, hy]; rfl
      have e := symS_2 (i := n) hc14
      rw [hyd] at e
      refine wp_seq ?_
      refine draw (.cons 0 .pure (.cons 1 .held (.cons 2 .pure (.cons 3 .pure (.cons 4 .pure (.cons 5 .held (.cons 6 .pure (.cons 7 .pure (.cons 8 .held (.cons 9 .pure (.cons 10 .bar .nil))))))))))) mixed (by kernel_rfl) hS ?_
      intro w_4 hS
      refine sp rfl (g_fieldAddr (o' := 1) Try.underlying81 rfl Try.sizeOf3 rfl rfl rfl) ?_
      refine sh rfl (g_ldO1 1 Try.isAgg3 rfl rfl rfl) ?_
      refine sp rfl (g_movev (v := .int .i64 _) rfl) ?_
      refine sp rfl (g_add rfl rfl (by omega) (by omega)) ?_
      refine sp rfl (g_fieldAddr (o' := 4) Try.underlying81 rfl Try.sizeOf62 rfl rfl rfl) ?_
      refine sh rfl (g_ldO1 1 Try.isAgg62 rfl rfl rfl) ?_
      refine sp rfl (g_movev (v := .int .i64 _) rfl) ?_
      refine sp rfl (g_ixI Try.underlying62 Try.sizeOf5 hd rfl rfl (by omega) (by omega)) ?_
      refine sh rfl (g_ldE1 Try.isAgg5 hya rfl rfl) ?_
      refine sp rfl (g_buildv (pl := [(0, 1), (1, 1), (2, 1)]) (cs := [.bool _, .int .i64 _, .int .u8 _]) Try.zeroValue54 Try.underlying54 (fun w => by simp [Try.sizeOf3, Try.sizeOf4, Try.sizeOf5]) (mp (v := .bool _) rfl (mp (v := .int .i64 _) rfl (mp (v := .int .u8 _) rfl mp0))) rfl) ?_
      refine sb rfl (d_store 0 hS Try.sizeOf54 rfl rfl rfl (vs := [.bool _, .int .i64 _, .int .u8 _]) rfl rfl rfl (Nat.le_of_ble_eq_true rfl) (cs' := [_, _, _]) rfl) ?_
      rintro _ w_5 ⟨rfl, hS⟩
      refine ⟨_, _, hS, ?_⟩
      refine sn (thenN ?_)
      refine wp_ret ?_
      refine blkR (thenR ?_)
      refine ret1 Try.results55 (rv_cel 0 hS Try.sizeOf54 Try.isAgg54 rfl rfl rfl) ?_
      rw [e]; exact ⟨rfl, hS.nil⟩
    ·
      intro hc14
      simp only [decide_eq_true_eq, decide_eq_false_iff_not] at hc14
      refine wp_seq ?_
      refine reg ?_
      refine qq hS (g_eql rfl rfl) ?_
      refine qq hS (g_assignv (v := .bool _) rfl) ?_
      refine ol_nil (thenN ?_)
      refine cond_s rfl ?_ ?_
      ·
        intro hc26
        simp only [decide_eq_true_eq, decide_eq_false_iff_not] at hc26
        have e := symS_3 (i := n) hc26
        refine wp_seq ?_
        refine reg ?_
        refine qq hS (g_fieldAddr (o' := 3) Try.underlying81 rfl Try.sizeOf5 rfl rfl rfl) ?_
        refine qq hS (g_ldO1 1 Try.isAgg5 rfl rfl rfl) ?_
        refine qq hS (g_buildv (pl := [(0, 1), (1, 1), (2, 1)]) (cs := [.bool _, .int .i64 _, .int .u8 _]) Try.zeroValue54 Try.underlying54 (fun w => by simp [Try.sizeOf3, Try.sizeOf4, Try.sizeOf5]) (mp (v := .int .u8 _) rfl mp0) rfl) ?_
        refine qe (d_store 0 hS Try.sizeOf54 rfl rfl rfl (vs := [.bool _, .int .i64 _, .int .u8 _]) rfl rfl rfl (Nat.le_of_ble_eq_true rfl) (cs' := [_, _, _]) rfl) ?_
        clear hS
        rintro _ w_6 ⟨rfl, hS⟩
        refine ol_nil (thenN ?_)
        refine wp_ret ?_
        refine blkR (thenR ?_)
        refine ret1 Try.results55 (rv_cel 0 hS Try.sizeOf54 Try.isAgg54 rfl rfl rfl) ?_
        rw [e]; exact ⟨rfl, hS.nil⟩
      ·
        intro hc26
        simp only [decide_eq_true_eq, decide_eq_false_iff_not] at hc26
        have hk4 : x.kind = 4 := by omega
        obtain ⟨y, hy⟩ : ∃ y, x.data[n.toNat]? = some y := ⟨_, List.getElem?_eq_getElem (by omega)⟩
        have hya := hd.at hy
        have hyd : x.data.getD n.toNat 0 = y := by rw [List.getD_eq_getElem?_getD, hy]; rfl
        have e := symS_4 (i := n) hk4
        rw [hyd] at e
        refine wp_skip ?_
        refine blkN (thenN ?_)
        refine wp_seq ?_
        refine reg ?_
        refine qq hS (g_fieldAddr (o' := 4) Try.underlying81 rfl Try.sizeOf62 rfl rfl rfl) ?_
        refine qq hS (g_ldO1 1 Try.isAgg62 rfl rfl rfl) ?_
        refine qq hS (g_movev (v := .int .i64 _) rfl) ?_
        refine qq hS (g_ixI Try.underlying62 Try.sizeOf5 hd rfl rfl (by omega) (by omega)) ?_
        refine qq hS (g_ldE1 Try.isAgg5 hya rfl rfl) ?_
        refine qq hS (g_buildv (pl := [(0, 1), (1, 1), (2, 1)]) (cs := [.bool _, .int .i64 _, .int .u8 _]) Try.zeroValue54 Try.underlying54 (fun w => by simp [Try.sizeOf3, Try.sizeOf4, Try.sizeOf5]) (mp (v := .int .u8 _) rfl mp0) rfl) ?_
        refine qe (d_store 0 hS Try.sizeOf54 rfl rfl rfl (vs := [.bool _, .int .i64 _, .int .u8 _]) rfl rfl rfl (Nat.le_of_ble_eq_true rfl) (cs' := [_, _, _]) rfl) ?_
        clear hS
        rintro _ w_7 ⟨rfl, hS⟩
        refine ol_nil (thenN ?_)
        refine wp_ret ?_
        refine ret1 Try.results55 (rv_cel 0 hS Try.sizeOf54 Try.isAgg54 rfl rfl rfl) ?_
        rw [e]; exact ⟨rfl, hS.nil⟩

set_option maxHeartbeats 1000000 in
theorem symbolsR_o (p : PatL) (ad : Option Addr) (m cap : Nat) (w0 : World) (I0 : Imm) (hI : Sat I0 w0) (hops : ROps I0 (.slice ad m cap) p.ops) (hp : p.wf) :
    Ctr Try.prog 28 [.agg #[.bool p.lifted, .int .i64 p.in_, .int .i64 p.out, .slice ad m cap]] w0 (fun v w' => ∃ a c, v = .tuple #[.slice a (symbolsR p).1.length c, .int .i64 (symbolsR p).2] ∧ St [] w0 I0 I0 w' [.row (.slice a (symbolsR p).1.length c) 54 3 (symbolsR p).1.length (flat symC (symbolsR p).1)]) := by
  refine fn (n := 39) Try.func28 rfl rfl rfl ?_
  have hS := St.start hI
  refine wp_seq ?_
  refine reg ?_
  refine qe (d_box (cs := [.bool _, .int .i64 _, .int .i64 _, .slice _ _ _]) hS rfl) ?_
  clear hS
  rintro _ w_1 ⟨b1, rfl, hS⟩
  refine qq hS (g_assign _) ?_
  refine qq hS (g_assignv (v := .int .i64 _) rfl) ?_
  refine ol_nil (thenN ?_)
  refine wp_seq ?_
  refine wp_seq ?_
  refine reg ?_
  refine qq hS (g_ldO 0 (vs := [.bool _, .int .i64 _, .int .i64 _, .slice _ _ _]) Try.sizeOf31 Try.isAgg31 rfl rfl rfl rfl) ?_
  refine qe (d_call Try.call54 rfl (rightP_c p ad m cap _ I0 hS.imm hops hp)) ?_
  rintro _ w_2 ⟨rfl, hE⟩
  replace hS := hS.callE hE
  refine qq hS (g_not rfl) ?_
  refine ol_nil (thenN ?_)
  refine cond_s rfl ?_ ?_
  ·
    intro hc9
    simp only [Bool.not_eq_true', Bool.not_eq_false', decide_eq_true_eq, decide_eq_false_iff_not] at hc9
    have e : symbolsR p = ([], 60) := by unfold symbolsR; rw [if_neg hc9]
    refine wp_seq ?_
    refine reg ?_
    refine qq hS (g_assign _) ?_
    refine qq hS (g_assignv (v := .int .i64 _) rfl) ?_
    refine ol_nil (thenN ?_)
    refine wp_ret ?_
    refine thenR ?_
    refine ret2 Try.results28 (rv_tmp rfl) (rv_tmp (v := .int .i64 _) rfl) ?_
    rw [e]; exact ⟨none, 0, rfl, (hS.sel [false]).nilRow _ _⟩
  ·
    intro hc9
    simp only [Bool.not_eq_true', Bool.not_eq_false', decide_eq_true_eq, decide_eq_false_iff_not] at hc9
    have e : symbolsR p = (symsOf p.ops, 0) := by unfold symbolsR; rw [if_pos hc9]
    obtain ⟨hk1, hk2, hk3, hk4, hk5, hk6, hk7⟩ := checkR_ok hc9
    refine wp_skip ?_
    refine thenN ?_
    refine wp_seq ?_
    refine reg ?_
    refine qe (d_buildSlice0 hS Try.underlying37 Try.sizeOf54) ?_
    clear hS
    rintro _ w_3 ⟨hS, b10_, rfl⟩
    refine qq hS (g_assign _) ?_
    refine ol_nil (thenN ?_)
    refine wp_seq ?_
    refine wp_seq ?_
    refine reg ?_
    refine qq hS (g_assignv (v := .int .i64 _) rfl) ?_
    refine ol_nil (thenN ?_)
    refine wp_block ?_
    refine loop (fun (x : Nat × Option Addr × Nat) σ w => okS σ [(1, .pointer (some ⟨b1, 0, none⟩)), (4, .slice x.2.1 (symsOf (p.ops.take x.1)).length x.2.2), (5, .int .i64 x.1)] ∧ St [] w0 I0 I0 w [.row (.slice x.2.1 (symsOf (p.ops.take x.1)).length x.2.2) 54 3 (symsOf (p.ops.take x.1)).length (flat symC (symsOf (p.ops.take x.1))), .cel b1 31 [.bool p.lifted, .int .i64 p.in_, .int .i64 p.out, .slice ad m cap]] ∧ x.1 ≤ p.ops.length) (fun x => p.ops.length - x.1) ((0, some ⟨b10_, 0, none⟩, 0)) ?_ ?_
    ·
      exact ⟨⟨rfl, rfl, rfl, trivial⟩, hS.sel [true, true], by simp⟩
    ·
      rintro ⟨k, a, c⟩ σ w_l ⟨hs, hS, hk0⟩
      dsimp only at hs hS hk0 ⊢
      rw [← upds_self hs]; clear hs
      refine wp_seq ?_
      refine wp_seq ?_
      refine reg ?_
      refine qq hS (g_movev (v := .int .i64 _) rfl) ?_
      refine qq hS (g_fieldAddr (o' := 3) Try.underlying31 rfl Try.sizeOf29 rfl rfl rfl) ?_
      refine qq hS (g_ldO1 1 Try.isAgg29 rfl rfl rfl) ?_
      refine qq hS (g_lenI rfl Try.underlying29 hops rfl) ?_
      refine qq hS (g_lss rfl rfl) ?_
      refine ol_nil (thenN ?_)
      refine cond_s rfl ?_ ?_
      ·
        intro hc15
        try simp only [Bool.and_eq_true, Bool.or_eq_true, Bool.not_eq_true', Bool.and_eq_false_imp, Bool.or_eq_false_iff, Bool.not_eq_false', decide_eq_true_eq, decide_eq_false_iff_not] at hc15
        obtain ⟨x, hx⟩ : ∃ x, p.ops[k]? = some x := ⟨_, List.getElem?_eq_getElem (by omega)⟩
        have hxm := List.mem_of_getElem? hx
        have hxw := hp.ops x hxm
        have hxr := hk1 x hxm
        have hxl := rightR_len hxr
        have hxk := rightR_kind hxr
        obtain ⟨cs, hcl, hoA, hro⟩ := RSl.at hops hx
        obtain ⟨adx, mx, capx, rfl, hd⟩ := hro
        have hlx := symsOf_take_le p.ops (k + 1)
        have hly := congrArg List.length (symsOf_snoc hx)
        rw [List.length_append, List.length_map, List.length_range] at hly
        refine wp_skip ?_
        refine thenN ?_
        refine wp_seq ?_
        refine wp_block ?_
        refine wp_seq ?_
        refine reg ?_
        refine qq hS (g_assignv (v := .int .i64 _) rfl) ?_
        refine ol_nil (thenN ?_)
        refine wp_block ?_
        refine loop (fun (x_ : Nat × Option Addr × Nat) σ w => okS σ [(1, .pointer (some ⟨b1, 0, none⟩)), (4, .slice x_.2.1 (symsOf (p.ops.take k) ++ (List.range x_.1).map (fun (i : Nat) => symS x (i : Int))).length x_.2.2), (5, .int .i64 k), (6, .int .i64 x_.1)] ∧ St [] w0 I0 I0 w [.row (.slice x_.2.1 (symsOf (p.ops.take k) ++ (List.range x_.1).map (fun (i : Nat) => symS x (i : Int))).length x_.2.2) 54 3 (symsOf (p.ops.take k) ++ (List.range x_.1).map (fun (i : Nat) => symS x (i : Int))).length (flat symC (symsOf (p.ops.take k) ++ (List.range x_.1).map (fun (i : Nat) => symS x (i : Int)))), .cel b1 31 [.bool p.lifted, .int .i64 p.in_, .int .i64 p.out, .slice ad m cap]] ∧ (x_.1 : Int) ≤ x.len) (fun x_ => x.len.toNat - x_.1) ((0, a, c)) ?_ ?_
        ·
          have h0 : symsOf (p.ops.take k) ++ (List.range 0).map (fun (i : Nat) => symS x (i : Int)) = symsOf (p.ops.take k) := by simp
          refine ⟨⟨rfl, by dsimp only; rw [h0]; rfl, rfl, rfl, trivial⟩, ?_, by dsimp only; omega⟩
          dsimp only
          rw [h0]
          exact hS.sel [true, true]
        ·
          rintro ⟨i, a, c⟩ σ w_l ⟨hs, hS, hi0⟩
          dsimp only at hs hS hi0 ⊢
          rw [← upds_self hs]; clear hs
          refine wp_seq ?_
          refine wp_seq ?_
          refine reg ?_
          refine qq hS (g_movev (v := .int .i64 _) rfl) ?_
          refine qq hS (g_fieldAddr (o' := 3) Try.underlying31 rfl Try.sizeOf29 rfl rfl rfl) ?_
          refine qq hS (g_ldO1 1 Try.isAgg29 rfl rfl rfl) ?_
          refine qq hS (g_movev (v := .int .i64 _) rfl) ?_
          refine qq hS (g_ixI Try.underlying29 Try.sizeOf81 hops rfl rfl (by omega) (by omega)) ?_
          refine qq hS (g_fieldE (c' := 2) Try.underlying81 rfl Try.sizeOf3 rfl rfl rfl) ?_
          refine qq hS (g_ldE1 Try.isAgg3 hoA rfl rfl) ?_
          refine qq hS (g_lss rfl rfl) ?_
          refine ol_nil (thenN ?_)
          refine cond_s rfl ?_ ?_
          ·
            intro hc25
            try simp only [Bool.and_eq_true, Bool.or_eq_true, Bool.not_eq_true', Bool.and_eq_false_imp, Bool.or_eq_false_iff, Bool.not_eq_false', decide_eq_true_eq, decide_eq_false_iff_not] at hc25
            have hlz : (symsOf (p.ops.take k) ++ (List.range i).map (fun (i : Nat) => symS x (i : Int))).length = (symsOf (p.ops.take k)).length + i := by simp
            have hln : (symsOf (p.ops.take k) ++ (List.range (i + 1)).map (fun (i : Nat) => symS x (i : Int))).length = (symsOf (p.ops.take k) ++ (List.range i).map (fun (i : Nat) => symS x (i : Int))).length + 1 := by rw [range_snoc, List.length_append]; rfl
            refine wp_skip ?_
            refine thenN ?_
            refine wp_seq ?_
            refine wp_block ?_
            refine reg ?_
            refine qq hS (g_move _) ?_
            refine qq hS (g_fieldAddr (o' := 3) Try.underlying31 rfl Try.sizeOf29 rfl rfl rfl) ?_
            refine qq hS (g_ldO1 1 Try.isAgg29 rfl rfl rfl) ?_
            refine qq hS (g_movev (v := .int .i64 _) rfl) ?_
            refine qq hS (g_ixI Try.underlying29 Try.sizeOf81 hops rfl rfl (by omega) (by omega)) ?_
            refine qq hS (g_ldE (us := [.int .i64 _, .int .i64 _, .int .i64 _, .int .u8 _, .slice _ _ _]) Try.sizeOf81 Try.isAgg81 hoA rfl rfl rfl) ?_
            refine qq hS (g_movev (v := .int .i64 _) rfl) ?_
            refine qe (d_call Try.call55 rfl (symbolR_c x adx mx capx i _ I0 hS.imm hd hxw hxk (by omega) (by omega))) ?_
            rintro _ w_4 ⟨rfl, hE⟩
            replace hS := hS.callE hE
            refine qe (d_lit (vs := [.agg #[.bool _, .int .i64 _, .int .u8 _]]) (cs := [.bool _, .int .i64 _, .int .u8 _]) hS Try.underlying37 Try.sizeOf54 Try.zeroValue54 rfl rfl rfl rfl (fun v hv => by simp only [List.mem_cons, List.not_mem_nil, or_false] at hv; subst hv; rfl) rfl) ?_
            clear hS
            rintro _ w_5 ⟨b_5, rfl, hS⟩
            refine qe (i_appendO 1 0 hS rfl Try.underlying37 info54 rfl rfl rfl rfl rfl rfl rfl rfl (by omega) (by omega)) ?_
            clear hS
            rintro _ w_6 ⟨a37, p37, rfl, hS⟩
            refine qq hS (g_assign _) ?_
            refine ol_nil (blkN (thenN ?_))
            refine reg ?_
            refine qq hS (g_movev (v := .int .i64 _) rfl) ?_
            refine qq hS (g_add rfl rfl (by omega) (by omega)) ?_
            refine qq hS (g_assignv (v := .int .i64 _) rfl) ?_
            refine ol_nil (thenN ?_)
            refine ⟨(i + 1, a37, p37), _, rfl, ⟨⟨rfl, by dsimp only; rw [hln]; rfl, rfl, rfl, trivial⟩, ?_, by dsimp only; omega⟩, by dsimp only; omega⟩
            dsimp only
            rw [hln, range_snoc, flat_append, flat_one]
            exact hS.sel [false, true, true]
          ·
            intro hc25
            try simp only [Bool.and_eq_true, Bool.or_eq_true, Bool.not_eq_true', Bool.and_eq_false_imp, Bool.or_eq_false_iff, Bool.not_eq_false', decide_eq_true_eq, decide_eq_false_iff_not] at hc25
            have hi : i = x.len.toNat := by omega
            subst hi
            rw [symsOf_snoc hx] at hS ⊢
            refine wp_exit ?_
            refine thenE (thenE (blkE ?_))
            refine blkN (thenN ?_)
            refine reg ?_
            refine qq hS (g_movev (v := .int .i64 _) rfl) ?_
            refine qq hS (g_add rfl rfl (by omega) (by omega)) ?_
            refine qq hS (g_assignv (v := .int .i64 _) rfl) ?_
            refine ol_nil (thenN ?_)
            exact ⟨(k + 1, a, c), _, rfl, ⟨⟨rfl, rfl, rfl, trivial⟩, hS.sel [true, true], by dsimp only; omega⟩, by dsimp only; omega⟩
      ·
        intro hc15
        try simp only [Bool.and_eq_true, Bool.or_eq_true, Bool.not_eq_true', Bool.and_eq_false_imp, Bool.or_eq_false_iff, Bool.not_eq_false', decide_eq_true_eq, decide_eq_false_iff_not] at hc15
        have hk : k = p.ops.length := by omega
        subst hk
        rw [List.take_length] at hS ⊢
        refine wp_exit ?_
        refine thenE (thenE (blkE ?_))
        refine thenN ?_
        refine wp_seq ?_
        refine reg ?_
        refine qq hS (g_move _) ?_
        refine qq hS (g_assign _) ?_
        refine qq hS (g_assignv (v := .int .i64 _) rfl) ?_
        refine ol_nil (thenN ?_)
        refine wp_ret ?_
        refine ret2 Try.results28 (rv_tmp rfl) (rv_tmp (v := .int .i64 _) rfl) ?_
        rw [e]; exact ⟨a, c, rfl, hS.sel [true, false]⟩

theorem symbolsR_c (p : PatL) (ad : Option Addr) (m cap : Nat) (w0 : World) (I0 : Imm) (hI : Sat I0 w0) (hops : ROps I0 (.slice ad m cap) p.ops) (hp : p.wf) :
    Ctr Try.prog 28 [.agg #[.bool p.lifted, .int .i64 p.in_, .int .i64 p.out, .slice ad m cap]] w0 (fun v w' => ∃ I' a c, v = .tuple #[.slice a (symbolsR p).1.length c, .int .i64 (symbolsR p).2] ∧ Ext w0 I0 w' I' ∧ RSyms I' (.slice a (symbolsR p).1.length c) (symbolsR p).1) :=
  (symbolsR_o p ad m cap w0 I0 hI hops hp).mono fun v w' ⟨a, c, hv, hS⟩ => by
    obtain ⟨I1, hE, _, hr⟩ := row_freeze1 symC_len hS rfl
    exact ⟨I1, a, c, hv, hE, hr⟩

end Go.Proofs.Ythningkgpanaoaa

