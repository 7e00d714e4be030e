/- inlaylaw14.PackSizes: its function answers true; inlayref14.List. Conditions: arguments are of their kinds. -/
import Derived.Test.YtdgnojckkjfhfaaDoorMk14
namespace Go.Proofs.YtdgnojckkjfhfaaDoor
open Go Go.RowKit Go.Inl
set_option linter.unusedSimpArgs false
set_option linter.unusedVariables false
structure NmW where
  j : Nat
  cur : List Int
  a : Option Addr
  c : Nat
structure LiW where
  k : Nat
  n : Nat
  a : Option Addr
  c : Nat
  m : Nat
  d : Option Addr
  e : Nat
theorem nums_one (w : Nat) (a : Int) : numsB w [a] = numB w a := by unfold numsB; simp
theorem nums_two (w : Nat) (a b : Int) : numsB w [a, b] = numB w a ++ numB w b := by unfold numsB; simp
theorem opF_12 {x : OpL} (h : x.kind = 1 ∨ x.kind = 2) : flat byteC (opB x) = [.int .u8 (IntKind.u8.wrap x.kind)] ++ flat byteC (numB 3 x.from_) ++ flat byteC (numB 3 x.len) := by
  unfold opB
  rw [if_pos h, nums_one, nums_two, flat_append, flat_append, List.append_assoc]
  have : IntKind.u8.wrap x.kind = x.kind / 256 ^ 0 % 256 := by rw [IntKind.wrap_u8]; omega
  rw [this]; rfl
theorem opF_3 {x : OpL} (h : x.kind = 3) (hb : 0 ≤ x.b ∧ x.b ≤ 255) : flat byteC (opB x) = [.int .u8 (IntKind.u8.wrap x.kind)] ++ flat byteC (numB 3 x.len) ++ [.int .u8 x.b] := by
  unfold opB
  rw [if_neg (by omega), if_pos h, nums_one, nums_one, nums_one, flat_append, flat_append, List.append_assoc]
  have h1 : IntKind.u8.wrap x.kind = x.kind / 256 ^ 0 % 256 := by rw [IntKind.wrap_u8]; omega
  have h2 : x.b = x.b / 256 ^ 0 % 256 := by omega
  rw [h1]
  conv => rhs; rw [h2]
  rfl
theorem opF_4 {x : OpL} (h : x.kind = 4) : flat byteC (opB x) = [.int .u8 (IntKind.u8.wrap x.kind)] ++ flat byteC (numB 3 x.len) := by
  unfold opB
  rw [if_neg (by omega), if_neg (by omega), nums_one, nums_one, flat_append]
  have h1 : IntKind.u8.wrap x.kind = x.kind / 256 ^ 0 % 256 := by rw [IntKind.wrap_u8]; omega
  rw [h1]; rfl
theorem opB_len (x : OpL) : (opB x).length = if x.kind = 1 ∨ x.kind = 2 then 7 else if x.kind = 3 then 5 else 4 := by
  unfold opB
  split
  · rw [nums_one, nums_two]; simp only [List.length_append, numB_len]
  · split
    · rw [nums_one, nums_one, nums_one]; simp only [List.length_append, numB_len]
    · rw [nums_one, nums_one]; simp only [List.length_append, numB_len]

theorem number14_c (n : Int) (wd : Nat) (w0 : World) (I0 : Imm) (hI : Sat I0 w0) (hn : 0 ≤ n ∧ n ≤ 4294967296) (hw : wd ≤ 4) :
    Ctr Tryd.prog 29 [.int .i64 n, .int .i64 wd] w0 (fun v w' => ∃ I' a c, v = .slice a wd c ∧ Ext w0 I0 w' I' ∧ RBytes I' (.slice a wd c) (numB wd n)) := by
  refine fn (n := 23) Tryd.func29 rfl rfl rfl ?_
  have hS := St.start hI
  refine wpIn_seq ?_
  refine reg ?_
  refine qq hS (g_assign _) ?_
  refine ol_nil (thenN ?_)
  refine wpIn_seq ?_
  refine reg ?_
  refine qe (d_buildSlice0 hS Tryd.underlying25 Tryd.sizeOf5) ?_
  clear hS
  rintro _ w_1 ⟨hS, b7_, rfl⟩
  refine qq hS (g_assign _) ?_
  refine ol_nil (thenN ?_)
  refine wpIn_seq ?_
  refine wpIn_seq ?_
  refine reg ?_
  refine qq hS (g_movev (v := .int .i64 _) rfl) ?_
  refine qq hS (g_sub rfl rfl (by omega) (by omega)) ?_
  refine qq hS (g_assignv (v := .int .i64 _) rfl) ?_
  refine ol_nil (thenN ?_)
  refine wpIn_block ?_
  refine loop (fun (z : NmW) σ w => okS σ [(0, .int .i64 n), (1, .int .i64 wd), (5, .slice z.a z.cur.length z.c), (6, .int .i64 ((z.j : Int) - 1))] ∧ St [] w0 I0 I0 w [.row (.slice z.a z.cur.length z.c) 5 1 z.cur.length (flat byteC z.cur)] ∧ z.j ≤ wd ∧ z.cur ++ numB z.j n = numB wd n ∧ z.cur.length + z.j = wd) (fun z => z.j) (⟨wd, [], some ⟨b7_, 0, none⟩, 0⟩) ?_ ?_
  ·
    exact ⟨⟨rfl, rfl, rfl, rfl, trivial⟩, hS.sel [true], Nat.le_refl _, rfl, Nat.zero_add _⟩
  ·
    rintro ⟨j, cur, a, c⟩ σ w_l ⟨hs, hS, hj0, he, hcl⟩
    dsimp only at hs hS hj0 he hcl ⊢
    rw [← upds_self hs]; clear hs
    refine wpIn_seq ?_
    refine wpIn_seq ?_
    refine reg ?_
    refine qq hS (g_movev (v := .int .i64 _) rfl) ?_
    refine qq hS (g_geq rfl rfl) ?_
    refine ol_nil (thenN ?_)
    refine cond_s rfl ?_ ?_
    ·
      intro hc11
      try simp only [Bool.and_eq_true, Bool.or_eq_true, Bool.not_eq_true', Bool.and_eq_false_imp, Bool.or_eq_false_iff, Bool.not_eq_false', decide_eq_true_eq, decide_eq_false_iff_not] at hc11
      obtain ⟨j', rfl⟩ : ∃ j', j = j' + 1 := ⟨j - 1, by omega⟩
      have hcv : IntKind.u8.wrap (n / 2 ^ (8 * j')) = n / 256 ^ j' % 256 := by rw [pow_8, IntKind.wrap_u8]
      refine wpIn_skip ?_
      refine thenN ?_
      refine wpIn_seq ?_
      refine wpIn_block ?_
      refine reg ?_
      refine qq hS (g_move _) ?_
      refine qq hS (g_movev (v := .int .i64 _) rfl) ?_
      refine qq hS (g_movev (v := .int .i64 _) rfl) ?_
      refine qq hS (g_mul rfl rfl (by omega) (by omega)) ?_
      refine qq hS (g_shri (s := 8 * j') rfl rfl (by omega) (by omega) (by omega) rfl) ?_
      refine qq hS (g_convu Tryd.underlying3 Tryd.underlying5 rfl hcv) ?_
      refine qe (d_lit (vs := [.int .u8 _]) (cs := [.int .u8 _]) hS Tryd.underlying25 Tryd.sizeOf5 Tryd.zeroValue5 rfl rfl rfl rfl (fun v hv => by simp only [List.mem_cons, List.not_mem_nil, or_false] at hv; subst hv; rfl) rfl) ?_
      clear hS
      rintro _ w_2 ⟨b_2, rfl, hS⟩
      refine qe (i_appendO 1 0 hS rfl Tryd.underlying25 info5 rfl rfl rfl rfl rfl rfl rfl rfl (by omega) (by omega)) ?_
      clear hS
      rintro _ w_3 ⟨a21, p21, rfl, hS⟩
      refine qq hS (g_assign _) ?_
      refine ol_nil (blkN (thenN ?_))
      refine reg ?_
      refine qq hS (g_movev (v := .int .i64 _) rfl) ?_
      refine qq hS (g_sub rfl rfl (by omega) (by omega)) ?_
      refine qq hS (g_assignv (v := .int .i64 _) rfl) ?_
      refine ⟨⟨j', cur ++ [n / 256 ^ j' % 256], a21, p21⟩, _, rfl, ⟨⟨rfl, rfl, ?_, congrArg (Value.int .i64) (by dsimp only; omega), trivial⟩, ?_, by dsimp only; omega, by dsimp only; rw [List.append_assoc]; exact he, by dsimp only; rw [List.length_append]; simp; omega⟩, by dsimp only; omega⟩
      · dsimp only; rw [List.length_append]; rfl
      · dsimp only
        rw [flat_append, flat_one, List.length_append]
        exact hS.sel [false, true]
    ·
      intro hc11
      try simp only [Bool.and_eq_true, Bool.or_eq_true, Bool.not_eq_true', Bool.and_eq_false_imp, Bool.or_eq_false_iff, Bool.not_eq_false', decide_eq_true_eq, decide_eq_false_iff_not] at hc11
      obtain rfl : j = 0 := by omega
      obtain rfl : cur = numB wd n := by rw [← he, numB, List.append_nil]
      refine wpIn_exit ?_
      refine thenE (thenE (blkE ?_))
      refine thenN ?_
      refine wpIn_seq ?_
      refine reg ?_
      refine qq hS (g_move _) ?_
      refine qq hS (g_assign _) ?_
      refine ol_nil (thenN ?_)
      refine wpIn_ret ?_
      refine ret1 Tryd.results29 (rv_tmp rfl) ?_
      obtain ⟨I1, hE1, hI1, hd1⟩ := row_freeze1 byteC_len (xs := numB wd n) (hS.sel [true]) rfl
      rw [numB_len] at hd1
      rw [numB_len]
      exact ⟨I1, a, c, rfl, hE1, hd1⟩

set_option maxHeartbeats 2000000 in
theorem list14_c (p : PatL) (ad : Option Addr) (m cap : Nat) (w0 : World) (I0 : Imm) (hI : Sat I0 w0) (hops : ROps I0 (.slice ad m cap) p.ops) (hg : ∀ x ∈ p.ops, OpG x) (hn : p.ops.length ≤ 4096) (hd0 : (dtP p.ops).length ≤ 65536) :
    Ctr Tryd.prog 20 [.agg #[.bool p.lifted, .int .i64 p.in_, .int .i64 p.out, .slice ad m cap]] w0 (fun v w' => ∃ I' a c d e, v = .tuple #[.slice a (lsP p.ops).length c, .slice d (dtP p.ops).length e] ∧ Ext w0 I0 w' I' ∧ RBytes I' (.slice a (lsP p.ops).length c) (lsP p.ops) ∧ RBytes I' (.slice d (dtP p.ops).length e) (dtP p.ops)) := by
  refine fn (n := 60) Tryd.func20 rfl rfl rfl ?_
  have hS := St.start hI
  refine wpIn_seq ?_
  refine reg ?_
  refine qe (d_box (cs := [.bool _, .int .i64 _, .int .i64 _, .slice _ _ _]) hS rfl) ?_
  clear hS
  rintro _ w_1 ⟨b1, rfl, hS⟩
  refine qq hS (g_assign _) ?_
  refine qq hS (g_assign _) ?_
  refine ol_nil (thenN ?_)
  refine wpIn_seq ?_
  refine reg ?_
  refine qe (d_buildSlice0 hS Tryd.underlying25 Tryd.sizeOf5) ?_
  clear hS
  rintro _ w_2 ⟨hS, b8_, rfl⟩
  refine qe (d_buildSlice0 hS Tryd.underlying25 Tryd.sizeOf5) ?_
  clear hS
  rintro _ w_3 ⟨hS, b9_, rfl⟩
  refine qq hS (g_assign _) ?_
  refine qq hS (g_assign _) ?_
  refine ol_nil (thenN ?_)
  refine wpIn_seq ?_
  refine wpIn_seq ?_
  refine reg ?_
  refine qq hS (g_assignv (v := .int .i64 _) rfl) ?_
  refine ol_nil (thenN ?_)
  refine wpIn_block ?_
  refine loop (fun (x : LiW) σ w => okS σ [(1, .pointer (some ⟨b1, 0, none⟩)), (4, .slice x.a x.n x.c), (5, .slice x.d x.m x.e), (6, .int .i64 x.k)] ∧ ∃ I, St [] w0 I0 I w [.row (.slice x.a x.n x.c) 5 1 x.n (flat byteC (lsP (p.ops.take x.k))), .row (.slice x.d x.m x.e) 5 1 x.m (flat byteC (dtP (p.ops.take x.k))), .cel b1 31 [.bool p.lifted, .int .i64 p.in_, .int .i64 p.out, .slice ad m cap]] ∧ x.k ≤ p.ops.length ∧ ROps I (.slice ad m cap) p.ops ∧ x.n = (lsP (p.ops.take x.k)).length ∧ x.m = (dtP (p.ops.take x.k)).length) (fun x => p.ops.length - x.k) (⟨0, 0, some ⟨b8_, 0, none⟩, 0, 0, some ⟨b9_, 0, none⟩, 0⟩) ?_ ?_
  ·
    exact ⟨⟨rfl, rfl, rfl, rfl, trivial⟩, _, (hS.sel [true, true, true]).ord [1, 0, 2], Nat.zero_le _, hops, rfl, rfl⟩
  ·
    rintro ⟨k, n, a, c, md, d, e⟩ σ w_l ⟨hs, I, hS, hk0, hops, hn1, hm1⟩
    dsimp only at hs hS hk0 hops hn1 hm1 ⊢
    rw [← upds_self hs]; clear hs
    refine wpIn_seq ?_
    refine wpIn_seq ?_
    refine reg ?_
    refine qq hS (g_movev (v := .int .i64 _) rfl) ?_
    refine qq hS (g_fieldAddr (o' := 3) Tryd.underlying31 rfl Tryd.sizeOf29 rfl rfl rfl) ?_
    refine qq hS (g_ldO1 2 Tryd.isAgg29 rfl rfl rfl) ?_
    refine qq hS (g_lenI rfl Tryd.underlying29 hops rfl) ?_
    refine qq hS (g_lss rfl rfl) ?_
    refine ol_nil (thenN ?_)
    refine cond_s rfl ?_ ?_
    ·
      intro hc14
      try simp only [Bool.and_eq_true, Bool.or_eq_true, Bool.not_eq_true', Bool.and_eq_false_imp, Bool.or_eq_false_iff, Bool.not_eq_false', decide_eq_true_eq, decide_eq_false_iff_not] at hc14
      obtain ⟨x, hx⟩ : ∃ x, p.ops[k]? = some x := ⟨_, List.getElem?_eq_getElem (by omega)⟩
      obtain ⟨⟨g1, g2⟩, ⟨g3, g4⟩, ⟨g5, g6⟩, ⟨g7, g8⟩, g9, g10⟩ := hg x (List.mem_of_getElem? hx)
      obtain ⟨cs, hcl, hoA, hro⟩ := RSl.at hops hx
      obtain ⟨adx, mx, capx, rfl, hd⟩ := hro
      have hol := opB_len x
      have hnb1 := numB_len 3 x.from_
      have hnb2 := numB_len 3 x.len
      have hls := lsP_succ hx
      have hds := dtP_succ hx
      have hl1 := lsP_le (p.ops.take k)
      rw [List.length_take] at hl1
      have hdt1 := dtP_take p.ops k
      have hdt2 := dtP_take p.ops (k + 1)
      rw [hds, List.length_append] at hdt2
      refine wpIn_skip ?_
      refine thenN ?_
      refine wpIn_seq ?_
      refine wpIn_block ?_
      refine wpIn_seq ?_
      refine reg ?_
      refine qq hS (g_fieldAddr (o' := 3) Tryd.underlying31 rfl Tryd.sizeOf29 rfl rfl rfl) ?_
      refine qq hS (g_ldO1 2 Tryd.isAgg29 rfl rfl rfl) ?_
      refine qq hS (g_movev (v := .int .i64 _) rfl) ?_
      refine qq hS (g_ixI Tryd.underlying29 Tryd.sizeOf53 hops rfl rfl (by omega) (by omega)) ?_
      refine qq hS (g_ldE (us := [.int .i64 _, .int .i64 _, .int .i64 _, .int .u8 _, .slice _ _ _]) Tryd.sizeOf53 Tryd.isAgg53 hoA rfl rfl rfl) ?_
      refine qe (d_alloc (cs := [.int .i64 _, .int .i64 _, .int .i64 _, .int .u8 _, .slice _ _ _]) hS Tryd.zeroValue53 rfl) ?_
      clear hS
      rintro _ w_4 ⟨b7, rfl, hS⟩
      refine qe (d_store 0 hS Tryd.sizeOf53 rfl rfl rfl (vs := [.int .i64 _, .int .i64 _, .int .i64 _, .int .u8 _, .slice _ _ _]) rfl rfl rfl (Nat.le_of_ble_eq_true rfl) (cs' := [_, _, _, _, _]) rfl) ?_
      clear hS
      rintro _ w_5 ⟨rfl, hS⟩
      refine ol_nil (thenN ?_)
      refine wpIn_seq ?_
      refine reg ?_
      refine qq hS (g_move _) ?_
      refine qq hS (g_fieldAddr (o' := 0) Tryd.underlying53 rfl Tryd.sizeOf3 rfl rfl rfl) ?_
      refine qq hS (g_ldO1 0 Tryd.isAgg3 rfl rfl rfl) ?_
      refine qq hS (g_convu Tryd.underlying3 Tryd.underlying5 rfl rfl) ?_
      refine qe (d_lit (vs := [.int .u8 _]) (cs := [.int .u8 _]) hS Tryd.underlying25 Tryd.sizeOf5 Tryd.zeroValue5 rfl rfl rfl rfl (fun v hv => by simp only [List.mem_cons, List.not_mem_nil, or_false] at hv; subst hv; rfl) rfl) ?_
      clear hS
      rintro _ w_6 ⟨b26, rfl, hS⟩
      refine qe (i_appendO 2 0 hS rfl Tryd.underlying25 info5 rfl rfl rfl rfl rfl rfl rfl rfl (by omega) (by omega)) ?_
      clear hS
      rintro _ w_7 ⟨a27, p27, rfl, hS⟩
      refine qq hS (g_assign _) ?_
      refine ol_nil (thenN ?_)
      refine wpIn_seq ?_
      refine wpIn_seq ?_
      refine reg ?_
      refine qq hS (g_fieldAddr (o' := 0) Tryd.underlying53 rfl Tryd.sizeOf3 rfl rfl rfl) ?_
      refine qq hS (g_ldO1 1 Tryd.isAgg3 rfl rfl rfl) ?_
      refine qq hS (g_eql rfl rfl) ?_
      refine qq hS (g_movev (v := .bool _) rfl) ?_
      refine qu rfl rfl hS (fun hg => (g_fieldAddr (o' := 0) Tryd.underlying53 rfl Tryd.sizeOf3 rfl rfl rfl)) ?_
      intro u32 hu32 hn32
      refine qu rfl rfl hS (fun hg => (g_ldO1 1 Tryd.isAgg3 rfl (hu32 hg) rfl)) ?_
      intro u33 hu33 hn33
      refine qu rfl rfl hS (fun hg => (g_eql (hu33 hg) rfl)) ?_
      intro u34 hu34 hn34
      refine qq hS (g_or rfl rfl (fun hq => hu34 hq)) ?_
      refine ol_nil (thenN ?_)
      refine cond_s rfl ?_ ?_
      ·
        intro hc35
        clear hu32 hn32 hu33 hn33 hu34 hn34
        try simp only [Bool.and_eq_true, Bool.or_eq_true, Bool.not_eq_true', Bool.and_eq_false_imp, Bool.or_eq_false_iff, Bool.not_eq_false', decide_eq_true_eq, decide_eq_false_iff_not] at hc35
        refine reg ?_
        refine qq hS (g_move _) ?_
        refine qq hS (g_fieldAddr (o' := 1) Tryd.underlying53 rfl Tryd.sizeOf3 rfl rfl rfl) ?_
        refine qq hS (g_ldO1 1 Tryd.isAgg3 rfl rfl rfl) ?_
        refine qe (d_call Tryd.call29 rfl (number14_c x.from_ 3 _ _ hS.imm (by omega) (by decide))) ?_
        rintro _ w_8 ⟨I_f, a39, c39, rfl, hE, h39⟩
        replace hS := hS.callE hE
        replace hops := hops.mono hE.ext
        replace hd := hd.mono hE.ext
        refine qe (i_appendF 2 hS rfl Tryd.underlying25 info5 rfl rfl rfl rfl byteC_len (fun _ => rfl) h39 rfl (by omega) (by omega)) ?_
        clear hS
        rintro _ w_9 ⟨a40, p40, rfl, hS⟩
        refine qq hS (g_assign _) ?_
        refine ol_nil (thenN ?_)
        refine wpIn_seq ?_
        refine reg ?_
        refine qq hS (g_move _) ?_
        refine qq hS (g_fieldAddr (o' := 2) Tryd.underlying53 rfl Tryd.sizeOf3 rfl rfl rfl) ?_
        refine qq hS (g_ldO1 1 Tryd.isAgg3 rfl rfl rfl) ?_
        refine qe (d_call Tryd.call29 rfl (number14_c x.len 3 _ _ hS.imm (by omega) (by decide))) ?_
        rintro _ w_10 ⟨I_f, a44, c44, rfl, hE, h44⟩
        replace hS := hS.callE hE
        replace hops := hops.mono hE.ext
        replace hd := hd.mono hE.ext
        replace h39 := h39.mono hE.ext
        refine qe (i_appendF 2 hS rfl Tryd.underlying25 info5 rfl rfl rfl rfl byteC_len (fun _ => rfl) h44 rfl (by omega) (by omega)) ?_
        clear hS
        rintro _ w_11 ⟨a45, p45, rfl, hS⟩
        refine qq hS (g_assign _) ?_
        refine ol_nil (thenN ?_)
        refine wpIn_seq ?_
        refine wpIn_seq ?_
        refine reg ?_
        refine qq hS (g_fieldAddr (o' := 0) Tryd.underlying53 rfl Tryd.sizeOf3 rfl rfl rfl) ?_
        refine qq hS (g_ldO1 1 Tryd.isAgg3 rfl rfl rfl) ?_
        refine qq hS (g_eql rfl rfl) ?_
        refine ol_nil (thenN ?_)
        refine cond_s rfl ?_ ?_
        ·
          intro hc48
          try simp only [Bool.and_eq_true, Bool.or_eq_true, Bool.not_eq_true', Bool.and_eq_false_imp, Bool.or_eq_false_iff, Bool.not_eq_false', decide_eq_true_eq, decide_eq_false_iff_not] at hc48
          refine reg ?_
          refine qq hS (g_move _) ?_
          refine qq hS (g_fieldAddr (o' := 3) Tryd.underlying53 rfl Tryd.sizeOf5 rfl rfl rfl) ?_
          refine qq hS (g_ldO1 1 Tryd.isAgg5 rfl rfl rfl) ?_
          refine qe (d_lit (vs := [.int .u8 _]) (cs := [.int .u8 _]) hS Tryd.underlying25 Tryd.sizeOf5 Tryd.zeroValue5 rfl rfl rfl rfl (fun v hv => by simp only [List.mem_cons, List.not_mem_nil, or_false] at hv; subst hv; rfl) rfl) ?_
          clear hS
          rintro _ w_12 ⟨b52, rfl, hS⟩
          refine qe (i_appendO 3 0 hS rfl Tryd.underlying25 info5 rfl rfl rfl rfl rfl rfl rfl rfl (by omega) (by omega)) ?_
          clear hS
          rintro _ w_13 ⟨a53, p53, rfl, hS⟩
          refine qq hS (g_assign _) ?_
          refine ol_nil (thenN ?_)
          refine reg ?_
          refine qq hS (g_move _) ?_
          refine qq hS (g_fieldAddr (o' := 4) Tryd.underlying53 rfl Tryd.sizeOf25 rfl rfl rfl) ?_
          refine qq hS (g_ldO1 2 Tryd.isAgg25 rfl rfl rfl) ?_
          refine qe (i_appendF 4 hS rfl Tryd.underlying25 info5 rfl rfl rfl rfl byteC_len (fun _ => rfl) hd rfl (by omega) (by omega)) ?_
          clear hS
          rintro _ w_14 ⟨a57, p57, rfl, hS⟩
          refine qq hS (g_assign _) ?_
          refine ol_nil (blkN (thenN ?_))
          refine reg ?_
          refine qq hS (g_movev (v := .int .i64 _) rfl) ?_
          refine qq hS (g_add rfl rfl (by omega) (by omega)) ?_
          refine qq hS (g_assignv (v := .int .i64 _) rfl) ?_
          first
            | (have hC : flat byteC (lsP (p.ops.take (k + 1))) = (flat byteC (lsP (p.ops.take k)) ++ [.int .u8 (IntKind.u8.wrap x.kind)]) ++ flat byteC (numB 3 x.from_) ++ flat byteC (numB 3 x.len) := by
                 rw [hls, flat_append, opF_12 (by omega)]; simp only [List.append_assoc]
               refine ⟨⟨k + 1, _, _, _, _, _, _⟩, _, rfl, ⟨⟨rfl, rfl, rfl, rfl, trivial⟩, _, ?_, by dsimp only; omega, hops, ?_, ?_⟩, by dsimp only; omega⟩
               · dsimp only
                 rw [hC, hds, flat_append]
                 exact hS.sel [false, false, false, true, true, true]
               · dsimp only
                 rw [hls, List.length_append, hol, if_pos (by omega)]
                 simp only [numB_len]
                 omega
               · dsimp only
                 rw [hds, List.length_append]; omega)
            | (have hC : flat byteC (lsP (p.ops.take (k + 1))) = (flat byteC (lsP (p.ops.take k)) ++ [.int .u8 (IntKind.u8.wrap x.kind)]) ++ flat byteC (numB 3 x.len) ++ [.int .u8 x.b] := by
                 rw [hls, flat_append, opF_3 (by omega) ⟨g7, g8⟩]; simp only [List.append_assoc]
               refine ⟨⟨k + 1, _, _, _, _, _, _⟩, _, rfl, ⟨⟨rfl, rfl, rfl, rfl, trivial⟩, _, ?_, by dsimp only; omega, hops, ?_, ?_⟩, by dsimp only; omega⟩
               · dsimp only
                 rw [hC, hds, flat_append]
                 exact hS.sel [false, false, false, true, true, true]
               · dsimp only
                 rw [hls, List.length_append, hol, if_neg (by omega), if_pos (by omega)]
                 simp only [numB_len]
                 omega
               · dsimp only
                 rw [hds, List.length_append]; omega)
            | (have hC : flat byteC (lsP (p.ops.take (k + 1))) = (flat byteC (lsP (p.ops.take k)) ++ [.int .u8 (IntKind.u8.wrap x.kind)]) ++ flat byteC (numB 3 x.len) := by
                 rw [hls, flat_append, opF_4 (by omega)]; simp only [List.append_assoc]
               refine ⟨⟨k + 1, _, _, _, _, _, _⟩, _, rfl, ⟨⟨rfl, rfl, rfl, rfl, trivial⟩, _, ?_, by dsimp only; omega, hops, ?_, ?_⟩, by dsimp only; omega⟩
               · dsimp only
                 rw [hC, hds, flat_append]
                 exact hS.sel [false, false, false, true, true, true]
               · dsimp only
                 rw [hls, List.length_append, hol, if_neg (by omega), if_neg (by omega)]
                 simp only [numB_len]
                 omega
               · dsimp only
                 rw [hds, List.length_append]; omega)
            | (exfalso; omega)
        ·
          intro hc48
          try simp only [Bool.and_eq_true, Bool.or_eq_true, Bool.not_eq_true', Bool.and_eq_false_imp, Bool.or_eq_false_iff, Bool.not_eq_false', decide_eq_true_eq, decide_eq_false_iff_not] at hc48
          refine wpIn_skip ?_
          refine thenN ?_
          refine reg ?_
          refine qq hS (g_move _) ?_
          refine qq hS (g_fieldAddr (o' := 4) Tryd.underlying53 rfl Tryd.sizeOf25 rfl rfl rfl) ?_
          refine qq hS (g_ldO1 1 Tryd.isAgg25 rfl rfl rfl) ?_
          refine qe (i_appendF 3 hS rfl Tryd.underlying25 info5 rfl rfl rfl rfl byteC_len (fun _ => rfl) hd rfl (by omega) (by omega)) ?_
          clear hS
          rintro _ w_15 ⟨a57, p57, rfl, hS⟩
          refine qq hS (g_assign _) ?_
          refine ol_nil (blkN (thenN ?_))
          refine reg ?_
          refine qq hS (g_movev (v := .int .i64 _) rfl) ?_
          refine qq hS (g_add rfl rfl (by omega) (by omega)) ?_
          refine qq hS (g_assignv (v := .int .i64 _) rfl) ?_
          first
            | (have hC : flat byteC (lsP (p.ops.take (k + 1))) = (flat byteC (lsP (p.ops.take k)) ++ [.int .u8 (IntKind.u8.wrap x.kind)]) ++ flat byteC (numB 3 x.from_) ++ flat byteC (numB 3 x.len) := by
                 rw [hls, flat_append, opF_12 (by omega)]; simp only [List.append_assoc]
               refine ⟨⟨k + 1, _, _, _, _, _, _⟩, _, rfl, ⟨⟨rfl, rfl, rfl, rfl, trivial⟩, _, ?_, by dsimp only; omega, hops, ?_, ?_⟩, by dsimp only; omega⟩
               · dsimp only
                 rw [hC, hds, flat_append]
                 exact hS.sel [false, false, true, true, true]
               · dsimp only
                 rw [hls, List.length_append, hol, if_pos (by omega)]
                 simp only [numB_len]
                 omega
               · dsimp only
                 rw [hds, List.length_append]; omega)
            | (have hC : flat byteC (lsP (p.ops.take (k + 1))) = (flat byteC (lsP (p.ops.take k)) ++ [.int .u8 (IntKind.u8.wrap x.kind)]) ++ flat byteC (numB 3 x.len) ++ [.int .u8 x.b] := by
                 rw [hls, flat_append, opF_3 (by omega) ⟨g7, g8⟩]; simp only [List.append_assoc]
               refine ⟨⟨k + 1, _, _, _, _, _, _⟩, _, rfl, ⟨⟨rfl, rfl, rfl, rfl, trivial⟩, _, ?_, by dsimp only; omega, hops, ?_, ?_⟩, by dsimp only; omega⟩
               · dsimp only
                 rw [hC, hds, flat_append]
                 exact hS.sel [false, false, true, true, true]
               · dsimp only
                 rw [hls, List.length_append, hol, if_neg (by omega), if_pos (by omega)]
                 simp only [numB_len]
                 omega
               · dsimp only
                 rw [hds, List.length_append]; omega)
            | (have hC : flat byteC (lsP (p.ops.take (k + 1))) = (flat byteC (lsP (p.ops.take k)) ++ [.int .u8 (IntKind.u8.wrap x.kind)]) ++ flat byteC (numB 3 x.len) := by
                 rw [hls, flat_append, opF_4 (by omega)]; simp only [List.append_assoc]
               refine ⟨⟨k + 1, _, _, _, _, _, _⟩, _, rfl, ⟨⟨rfl, rfl, rfl, rfl, trivial⟩, _, ?_, by dsimp only; omega, hops, ?_, ?_⟩, by dsimp only; omega⟩
               · dsimp only
                 rw [hC, hds, flat_append]
                 exact hS.sel [false, false, true, true, true]
               · dsimp only
                 rw [hls, List.length_append, hol, if_neg (by omega), if_neg (by omega)]
                 simp only [numB_len]
                 omega
               · dsimp only
                 rw [hds, List.length_append]; omega)
            | (exfalso; omega)
      ·
        intro hc35
        clear hu32 hn32 hu33 hn33 hu34 hn34
        try simp only [Bool.and_eq_true, Bool.or_eq_true, Bool.not_eq_true', Bool.and_eq_false_imp, Bool.or_eq_false_iff, Bool.not_eq_false', decide_eq_true_eq, decide_eq_false_iff_not] at hc35
        refine wpIn_skip ?_
        refine thenN ?_
        refine wpIn_seq ?_
        refine reg ?_
        refine qq hS (g_move _) ?_
        refine qq hS (g_fieldAddr (o' := 2) Tryd.underlying53 rfl Tryd.sizeOf3 rfl rfl rfl) ?_
        refine qq hS (g_ldO1 1 Tryd.isAgg3 rfl rfl rfl) ?_
        refine qe (d_call Tryd.call29 rfl (number14_c x.len 3 _ _ hS.imm (by omega) (by decide))) ?_
        rintro _ w_16 ⟨I_f, a44, c44, rfl, hE, h44⟩
        replace hS := hS.callE hE
        replace hops := hops.mono hE.ext
        replace hd := hd.mono hE.ext
        refine qe (i_appendF 2 hS rfl Tryd.underlying25 info5 rfl rfl rfl rfl byteC_len (fun _ => rfl) h44 rfl (by omega) (by omega)) ?_
        clear hS
        rintro _ w_17 ⟨a45, p45, rfl, hS⟩
        refine qq hS (g_assign _) ?_
        refine ol_nil (thenN ?_)
        refine wpIn_seq ?_
        refine wpIn_seq ?_
        refine reg ?_
        refine qq hS (g_fieldAddr (o' := 0) Tryd.underlying53 rfl Tryd.sizeOf3 rfl rfl rfl) ?_
        refine qq hS (g_ldO1 1 Tryd.isAgg3 rfl rfl rfl) ?_
        refine qq hS (g_eql rfl rfl) ?_
        refine ol_nil (thenN ?_)
        refine cond_s rfl ?_ ?_
        ·
          intro hc48
          try simp only [Bool.and_eq_true, Bool.or_eq_true, Bool.not_eq_true', Bool.and_eq_false_imp, Bool.or_eq_false_iff, Bool.not_eq_false', decide_eq_true_eq, decide_eq_false_iff_not] at hc48
          refine reg ?_
          refine qq hS (g_move _) ?_
          refine qq hS (g_fieldAddr (o' := 3) Tryd.underlying53 rfl Tryd.sizeOf5 rfl rfl rfl) ?_
          refine qq hS (g_ldO1 1 Tryd.isAgg5 rfl rfl rfl) ?_
          refine qe (d_lit (vs := [.int .u8 _]) (cs := [.int .u8 _]) hS Tryd.underlying25 Tryd.sizeOf5 Tryd.zeroValue5 rfl rfl rfl rfl (fun v hv => by simp only [List.mem_cons, List.not_mem_nil, or_false] at hv; subst hv; rfl) rfl) ?_
          clear hS
          rintro _ w_18 ⟨b52, rfl, hS⟩
          refine qe (i_appendO 3 0 hS rfl Tryd.underlying25 info5 rfl rfl rfl rfl rfl rfl rfl rfl (by omega) (by omega)) ?_
          clear hS
          rintro _ w_19 ⟨a53, p53, rfl, hS⟩
          refine qq hS (g_assign _) ?_
          refine ol_nil (thenN ?_)
          refine reg ?_
          refine qq hS (g_move _) ?_
          refine qq hS (g_fieldAddr (o' := 4) Tryd.underlying53 rfl Tryd.sizeOf25 rfl rfl rfl) ?_
          refine qq hS (g_ldO1 2 Tryd.isAgg25 rfl rfl rfl) ?_
          refine qe (i_appendF 4 hS rfl Tryd.underlying25 info5 rfl rfl rfl rfl byteC_len (fun _ => rfl) hd rfl (by omega) (by omega)) ?_
          clear hS
          rintro _ w_20 ⟨a57, p57, rfl, hS⟩
          refine qq hS (g_assign _) ?_
          refine ol_nil (blkN (thenN ?_))
          refine reg ?_
          refine qq hS (g_movev (v := .int .i64 _) rfl) ?_
          refine qq hS (g_add rfl rfl (by omega) (by omega)) ?_
          refine qq hS (g_assignv (v := .int .i64 _) rfl) ?_
          first
            | (have hC : flat byteC (lsP (p.ops.take (k + 1))) = (flat byteC (lsP (p.ops.take k)) ++ [.int .u8 (IntKind.u8.wrap x.kind)]) ++ flat byteC (numB 3 x.from_) ++ flat byteC (numB 3 x.len) := by
                 rw [hls, flat_append, opF_12 (by omega)]; simp only [List.append_assoc]
               refine ⟨⟨k + 1, _, _, _, _, _, _⟩, _, rfl, ⟨⟨rfl, rfl, rfl, rfl, trivial⟩, _, ?_, by dsimp only; omega, hops, ?_, ?_⟩, by dsimp only; omega⟩
               · dsimp only
                 rw [hC, hds, flat_append]
                 exact hS.sel [false, false, false, true, true, true]
               · dsimp only
                 rw [hls, List.length_append, hol, if_pos (by omega)]
                 simp only [numB_len]
                 omega
               · dsimp only
                 rw [hds, List.length_append]; omega)
            | (have hC : flat byteC (lsP (p.ops.take (k + 1))) = (flat byteC (lsP (p.ops.take k)) ++ [.int .u8 (IntKind.u8.wrap x.kind)]) ++ flat byteC (numB 3 x.len) ++ [.int .u8 x.b] := by
                 rw [hls, flat_append, opF_3 (by omega) ⟨g7, g8⟩]; simp only [List.append_assoc]
               refine ⟨⟨k + 1, _, _, _, _, _, _⟩, _, rfl, ⟨⟨rfl, rfl, rfl, rfl, trivial⟩, _, ?_, by dsimp only; omega, hops, ?_, ?_⟩, by dsimp only; omega⟩
               · dsimp only
                 rw [hC, hds, flat_append]
                 exact hS.sel [false, false, false, true, true, true]
               · dsimp only
                 rw [hls, List.length_append, hol, if_neg (by omega), if_pos (by omega)]
                 simp only [numB_len]
                 omega
               · dsimp only
                 rw [hds, List.length_append]; omega)
            | (have hC : flat byteC (lsP (p.ops.take (k + 1))) = (flat byteC (lsP (p.ops.take k)) ++ [.int .u8 (IntKind.u8.wrap x.kind)]) ++ flat byteC (numB 3 x.len) := by
                 rw [hls, flat_append, opF_4 (by omega)]; simp only [List.append_assoc]
               refine ⟨⟨k + 1, _, _, _, _, _, _⟩, _, rfl, ⟨⟨rfl, rfl, rfl, rfl, trivial⟩, _, ?_, by dsimp only; omega, hops, ?_, ?_⟩, by dsimp only; omega⟩
               · dsimp only
                 rw [hC, hds, flat_append]
                 exact hS.sel [false, false, false, true, true, true]
               · dsimp only
                 rw [hls, List.length_append, hol, if_neg (by omega), if_neg (by omega)]
                 simp only [numB_len]
                 omega
               · dsimp only
                 rw [hds, List.length_append]; omega)
            | (exfalso; omega)
        ·
          intro hc48
          try simp only [Bool.and_eq_true, Bool.or_eq_true, Bool.not_eq_true', Bool.and_eq_false_imp, Bool.or_eq_false_iff, Bool.not_eq_false', decide_eq_true_eq, decide_eq_false_iff_not] at hc48
          refine wpIn_skip ?_
          refine thenN ?_
          refine reg ?_
          refine qq hS (g_move _) ?_
          refine qq hS (g_fieldAddr (o' := 4) Tryd.underlying53 rfl Tryd.sizeOf25 rfl rfl rfl) ?_
          refine qq hS (g_ldO1 1 Tryd.isAgg25 rfl rfl rfl) ?_
          refine qe (i_appendF 3 hS rfl Tryd.underlying25 info5 rfl rfl rfl rfl byteC_len (fun _ => rfl) hd rfl (by omega) (by omega)) ?_
          clear hS
          rintro _ w_21 ⟨a57, p57, rfl, hS⟩
          refine qq hS (g_assign _) ?_
          refine ol_nil (blkN (thenN ?_))
          refine reg ?_
          refine qq hS (g_movev (v := .int .i64 _) rfl) ?_
          refine qq hS (g_add rfl rfl (by omega) (by omega)) ?_
          refine qq hS (g_assignv (v := .int .i64 _) rfl) ?_
          first
            | (have hC : flat byteC (lsP (p.ops.take (k + 1))) = (flat byteC (lsP (p.ops.take k)) ++ [.int .u8 (IntKind.u8.wrap x.kind)]) ++ flat byteC (numB 3 x.from_) ++ flat byteC (numB 3 x.len) := by
                 rw [hls, flat_append, opF_12 (by omega)]; simp only [List.append_assoc]
               refine ⟨⟨k + 1, _, _, _, _, _, _⟩, _, rfl, ⟨⟨rfl, rfl, rfl, rfl, trivial⟩, _, ?_, by dsimp only; omega, hops, ?_, ?_⟩, by dsimp only; omega⟩
               · dsimp only
                 rw [hC, hds, flat_append]
                 exact hS.sel [false, false, true, true, true]
               · dsimp only
                 rw [hls, List.length_append, hol, if_pos (by omega)]
                 simp only [numB_len]
                 omega
               · dsimp only
                 rw [hds, List.length_append]; omega)
            | (have hC : flat byteC (lsP (p.ops.take (k + 1))) = (flat byteC (lsP (p.ops.take k)) ++ [.int .u8 (IntKind.u8.wrap x.kind)]) ++ flat byteC (numB 3 x.len) ++ [.int .u8 x.b] := by
                 rw [hls, flat_append, opF_3 (by omega) ⟨g7, g8⟩]; simp only [List.append_assoc]
               refine ⟨⟨k + 1, _, _, _, _, _, _⟩, _, rfl, ⟨⟨rfl, rfl, rfl, rfl, trivial⟩, _, ?_, by dsimp only; omega, hops, ?_, ?_⟩, by dsimp only; omega⟩
               · dsimp only
                 rw [hC, hds, flat_append]
                 exact hS.sel [false, false, true, true, true]
               · dsimp only
                 rw [hls, List.length_append, hol, if_neg (by omega), if_pos (by omega)]
                 simp only [numB_len]
                 omega
               · dsimp only
                 rw [hds, List.length_append]; omega)
            | (have hC : flat byteC (lsP (p.ops.take (k + 1))) = (flat byteC (lsP (p.ops.take k)) ++ [.int .u8 (IntKind.u8.wrap x.kind)]) ++ flat byteC (numB 3 x.len) := by
                 rw [hls, flat_append, opF_4 (by omega)]; simp only [List.append_assoc]
               refine ⟨⟨k + 1, _, _, _, _, _, _⟩, _, rfl, ⟨⟨rfl, rfl, rfl, rfl, trivial⟩, _, ?_, by dsimp only; omega, hops, ?_, ?_⟩, by dsimp only; omega⟩
               · dsimp only
                 rw [hC, hds, flat_append]
                 exact hS.sel [false, false, true, true, true]
               · dsimp only
                 rw [hls, List.length_append, hol, if_neg (by omega), if_neg (by omega)]
                 simp only [numB_len]
                 omega
               · dsimp only
                 rw [hds, List.length_append]; omega)
            | (exfalso; omega)
    ·
      intro hc14
      try simp only [Bool.and_eq_true, Bool.or_eq_true, Bool.not_eq_true', Bool.and_eq_false_imp, Bool.or_eq_false_iff, Bool.not_eq_false', decide_eq_true_eq, decide_eq_false_iff_not] at hc14
      obtain rfl : k = p.ops.length := by omega
      rw [List.take_length] at *
      refine wpIn_exit ?_
      refine thenE (thenE (blkE ?_))
      refine thenN ?_
      refine wpIn_seq ?_
      refine reg ?_
      refine qq hS (g_move _) ?_
      refine qq hS (g_move _) ?_
      refine qq hS (g_assign _) ?_
      refine qq hS (g_assign _) ?_
      refine ol_nil (thenN ?_)
      refine wpIn_ret ?_
      refine ret2 Tryd.results20 (rv_tmp rfl) (rv_tmp rfl) ?_
      subst hn1 hm1
      have hF := St.freezeRow (E := 5) (xs := lsP p.ops) byteC_len (hS.sel [true, true, false]) rfl
      obtain ⟨I2, hS2, hI2, h2⟩ := hF
      have hG := St.freezeRow (E := 5) (xs := dtP p.ops) byteC_len hS2 rfl
      obtain ⟨I3, hS3, hI3, h3⟩ := hG
      exact ⟨I3, a, c, d, e, rfl, hS3, h2.mono hI3, h3⟩

end Go.Proofs.YtdgnojckkjfhfaaDoor

