/- inlayref14: numbers as bytes, their sum. Conditions: numbers within bounds. -/
import Derived.Test.YtdgnojckkjfhfaaDoorSan14
namespace Go.Proofs.YtdgnojckkjfhfaaDoor
open Go Go.RowKit Go.Inl
set_option linter.unusedSimpArgs false
set_option linter.unusedVariables false
structure NmV where
  j : Nat
  cur : List Int
  a : Option Addr
  c : Nat

theorem numberO_c (n : Int) (wd : Nat) (w0 : World) (I0 : Imm) (hI : Sat I0 w0) (hn : 0 ≤ n ∧ n ≤ 4294967296) (hw : wd ≤ 4) :
    Ctr Tryd.prog 29 [.int .i64 n, .int .i64 wd] w0 (fun v w' => ∃ a c, v = .slice a wd c ∧ St [] w0 I0 I0 w' [.row (.slice a wd c) 5 1 wd (flat byteC (numB wd n))]) := by
  refine fn (n := 23) Tryd.func29 rfl rfl rfl ?_
  have hS := St.start hI
  refine wpIn_seq ?_
  refine reg ?_
  refine qq hS (g_assign _) ?_
  refine ol_nil (thenN ?_)
  refine wpIn_seq ?_
  refine reg ?_
  refine qe (d_buildSlice0 hS Tryd.underlying25 Tryd.sizeOf5) ?_
  clear hS
  rintro _ w_1 ⟨hS, b7_, rfl⟩
  refine qq hS (g_assign _) ?_
  refine ol_nil (thenN ?_)
  refine wpIn_seq ?_
  refine wpIn_seq ?_
  refine reg ?_
  refine qq hS (g_movev (v := .int .i64 _) rfl) ?_
  refine qq hS (g_sub rfl rfl (by omega) (by omega)) ?_
  refine qq hS (g_assignv (v := .int .i64 _) rfl) ?_
  refine ol_nil (thenN ?_)
  refine wpIn_block ?_
  refine loop (fun (z : NmV) σ w => okS σ [(0, .int .i64 n), (1, .int .i64 wd), (5, .slice z.a z.cur.length z.c), (6, .int .i64 ((z.j : Int) - 1))] ∧ St [] w0 I0 I0 w [.row (.slice z.a z.cur.length z.c) 5 1 z.cur.length (flat byteC z.cur)] ∧ z.j ≤ wd ∧ z.cur ++ numB z.j n = numB wd n ∧ z.cur.length + z.j = wd) (fun z => z.j) (⟨wd, [], some ⟨b7_, 0, none⟩, 0⟩) ?_ ?_
  ·
    exact ⟨⟨rfl, rfl, rfl, rfl, trivial⟩, hS.sel [true], Nat.le_refl _, rfl, Nat.zero_add _⟩
  ·
    rintro ⟨j, cur, a, c⟩ σ w_l ⟨hs, hS, hj0, he, hcl⟩
    dsimp only at hs hS hj0 he hcl ⊢
    rw [← upds_self hs]; clear hs
    refine wpIn_seq ?_
    refine wpIn_seq ?_
    refine reg ?_
    refine qq hS (g_movev (v := .int .i64 _) rfl) ?_
    refine qq hS (g_geq rfl rfl) ?_
    refine ol_nil (thenN ?_)
    refine cond_s rfl ?_ ?_
    ·
      intro hc11
      try simp only [Bool.and_eq_true, Bool.or_eq_true, Bool.not_eq_true', Bool.and_eq_false_imp, Bool.or_eq_false_iff, Bool.not_eq_false', decide_eq_true_eq, decide_eq_false_iff_not] at hc11
      obtain ⟨j', rfl⟩ : ∃ j', j = j' + 1 := ⟨j - 1, by omega⟩
      have hcv : IntKind.u8.wrap (n / 2 ^ (8 * j')) = n / 256 ^ j' % 256 := by rw [pow_8, IntKind.wrap_u8]
      refine wpIn_skip ?_
      refine thenN ?_
      refine wpIn_seq ?_
      refine wpIn_block ?_
      refine reg ?_
      refine qq hS (g_move _) ?_
      refine qq hS (g_movev (v := .int .i64 _) rfl) ?_
      refine qq hS (g_movev (v := .int .i64 _) rfl) ?_
      refine qq hS (g_mul rfl rfl (by omega) (by omega)) ?_
      refine qq hS (g_shri (s := 8 * j') rfl rfl (by omega) (by omega) (by omega) rfl) ?_
      refine qq hS (g_convu Tryd.underlying3 Tryd.underlying5 rfl hcv) ?_
      refine qe (d_lit (vs := [.int .u8 _]) (cs := [.int .u8 _]) hS Tryd.underlying25 Tryd.sizeOf5 Tryd.zeroValue5 rfl rfl rfl rfl (fun v hv => by simp only [List.mem_cons, List.not_mem_nil, or_false] at hv; subst hv; rfl) rfl) ?_
      clear hS
      rintro _ w_2 ⟨b_2, rfl, hS⟩
      refine qe (i_appendO 1 0 hS rfl Tryd.underlying25 info5 rfl rfl rfl rfl rfl rfl rfl rfl (by omega) (by omega)) ?_
      clear hS
      rintro _ w_3 ⟨a21, p21, rfl, hS⟩
      refine qq hS (g_assign _) ?_
      refine ol_nil (blkN (thenN ?_))
      refine reg ?_
      refine qq hS (g_movev (v := .int .i64 _) rfl) ?_
      refine qq hS (g_sub rfl rfl (by omega) (by omega)) ?_
      refine qq hS (g_assignv (v := .int .i64 _) rfl) ?_
      refine ⟨⟨j', cur ++ [n / 256 ^ j' % 256], a21, p21⟩, _, rfl, ⟨⟨rfl, rfl, ?_, congrArg (Value.int .i64) (by dsimp only; omega), trivial⟩, ?_, by dsimp only; omega, by dsimp only; rw [List.append_assoc]; exact he, by dsimp only; rw [List.length_append]; simp; omega⟩, by dsimp only; omega⟩
      · dsimp only; rw [List.length_append]; rfl
      · dsimp only
        rw [flat_append, flat_one, List.length_append]
        exact hS.sel [false, true]
    ·
      intro hc11
      try simp only [Bool.and_eq_true, Bool.or_eq_true, Bool.not_eq_true', Bool.and_eq_false_imp, Bool.or_eq_false_iff, Bool.not_eq_false', decide_eq_true_eq, decide_eq_false_iff_not] at hc11
      obtain rfl : j = 0 := by omega
      obtain rfl : cur = numB wd n := by rw [← he, numB, List.append_nil]
      refine wpIn_exit ?_
      refine thenE (thenE (blkE ?_))
      refine thenN ?_
      refine wpIn_seq ?_
      refine reg ?_
      refine qq hS (g_move _) ?_
      refine qq hS (g_assign _) ?_
      refine ol_nil (thenN ?_)
      refine wpIn_ret ?_
      refine ret1 Tryd.results29 (rv_tmp rfl) ?_
      have hS9 := hS.sel [true]
      rw [numB_len] at hS9 ⊢
      exact ⟨a, c, rfl, hS9⟩

theorem sumP_two (l : List Int) : Inl.sumP l = numB 2 (adl l).2 ++ numB 2 (adl l).1 := by unfold Inl.sumP numsB; simp
theorem numberF_c (n : Int) (wd : Nat) (w0 : World) (I0 : Imm) (hI : Sat I0 w0) (hn : 0 ≤ n ∧ n ≤ 4294967296) (hw : wd ≤ 4) :
    Ctr Tryd.prog 29 [.int .i64 n, .int .i64 wd] w0 (fun v w' => ∃ I' a c, v = .slice a wd c ∧ Ext w0 I0 w' I' ∧ RBytes I' (.slice a wd c) (numB wd n)) :=
  (numberO_c n wd w0 I0 hI hn hw).mono fun v w' ⟨a, c, hv, hS⟩ => by
    obtain ⟨I1, hE1, hI1, hd1⟩ := row_freeze1 byteC_len (xs := numB wd n) hS (numB_len _ _).symm
    exact ⟨I1, a, c, hv, hE1, hd1⟩

set_option maxHeartbeats 1000000 in
theorem sumR_c (ad : Option Addr) (cap n : Nat) (l : List Int) (w0 : World) (I0 : Imm) (hI : Sat I0 w0) (hl : RBytes I0 (.slice ad n cap) l) (hb : Byt l) (hn : n = l.length) :
    Ctr Tryd.prog 14 [.slice ad n cap] w0 (fun v w' => ∃ I' a m c, v = .slice a m c ∧ Ext w0 I0 w' I' ∧ RBytes I' (.slice a m c) (Inl.sumP l) ∧ m = 4) := by
  subst hn
  have hll := RSl.le hl
  simp only [maxLen] at hll
  refine fn (n := 29) Tryd.func14 rfl rfl rfl ?_
  have hS := St.start hI
  refine wpIn_seq ?_
  refine reg ?_
  refine qq hS (g_assign _) ?_
  refine ol_nil (thenN ?_)
  refine wpIn_seq ?_
  refine reg ?_
  refine qq hS (g_assignv (v := .int .i64 _) rfl) ?_
  refine qq hS (g_assignv (v := .int .i64 _) rfl) ?_
  refine ol_nil (thenN ?_)
  refine wpIn_seq ?_
  refine wpIn_seq ?_
  refine reg ?_
  refine qq hS (g_assignv (v := .int .i64 _) rfl) ?_
  refine ol_nil (thenN ?_)
  refine wpIn_block ?_
  refine loop (fun (k : Nat) σ w => okS σ [(0, .slice ad l.length cap), (3, .int .i64 (adl (l.take k)).1), (4, .int .i64 (adl (l.take k)).2), (5, .int .i64 k)] ∧ St [] w0 I0 I0 w [] ∧ k ≤ l.length) (fun k => l.length - k) (0) ?_ ?_
  ·
    exact ⟨⟨rfl, rfl, rfl, rfl, trivial⟩, hS.sel [], by omega⟩
  ·
    rintro k σ w_l ⟨hs, hS, hk0⟩
    rw [← upds_self hs]; clear hs
    refine wpIn_seq ?_
    refine wpIn_seq ?_
    refine reg ?_
    refine qq hS (g_movev (v := .int .i64 _) rfl) ?_
    refine qq hS (g_move _) ?_
    refine qq hS (g_lenI rfl Tryd.underlying25 hl rfl) ?_
    refine qq hS (g_lss rfl rfl) ?_
    refine ol_nil (thenN ?_)
    refine cond_s rfl ?_ ?_
    ·
      intro hc9
      try simp only [Bool.and_eq_true, Bool.or_eq_true, Bool.not_eq_true', Bool.and_eq_false_imp, Bool.or_eq_false_iff, Bool.not_eq_false', decide_eq_true_eq, decide_eq_false_iff_not] at hc9
      obtain ⟨x, hxi⟩ : ∃ x, l[k]? = some x := ⟨_, List.getElem?_eq_getElem (by omega)⟩
      have hxA := hl.at hxi
      have hxb := hb x (List.mem_of_getElem? hxi)
      have hsn := adl_succ hxi
      obtain ⟨s1, s2, s3, s4⟩ := adl_bd (l.take k)
      refine wpIn_skip ?_
      refine thenN ?_
      refine wpIn_seq ?_
      refine wpIn_block ?_
      refine wpIn_seq ?_
      refine reg ?_
      refine qq hS (g_movev (v := .int .i64 _) rfl) ?_
      refine qq hS (g_move _) ?_
      refine qq hS (g_movev (v := .int .i64 _) rfl) ?_
      refine qq hS (g_ixI Tryd.underlying25 Tryd.sizeOf5 hl rfl rfl (by omega) (by omega)) ?_
      refine qq hS (g_ldE1 Tryd.isAgg5 hxA rfl rfl) ?_
      refine qq hS (g_convi Tryd.underlying5 Tryd.underlying3 rfl (by omega) (by omega)) ?_
      refine qq hS (g_add rfl rfl (by omega) (by omega)) ?_
      refine qq hS (g_rem rfl rfl (by omega) (by decide)) ?_
      refine qq hS (g_assignv (v := .int .i64 _) rfl) ?_
      refine ol_nil (thenN ?_)
      refine reg ?_
      refine qq hS (g_movev (v := .int .i64 _) rfl) ?_
      refine qq hS (g_movev (v := .int .i64 _) rfl) ?_
      refine qq hS (g_add rfl rfl (by omega) (by omega)) ?_
      refine qq hS (g_rem rfl rfl (by omega) (by decide)) ?_
      refine qq hS (g_assignv (v := .int .i64 _) rfl) ?_
      refine ol_nil (blkN (thenN ?_))
      refine reg ?_
      refine qq hS (g_movev (v := .int .i64 _) rfl) ?_
      refine qq hS (g_add rfl rfl (by omega) (by omega)) ?_
      refine qq hS (g_assignv (v := .int .i64 _) rfl) ?_
      refine ⟨k + 1, _, rfl, ⟨⟨rfl, ?_, ?_, rfl, trivial⟩, hS.sel [], by omega⟩, by omega⟩
      · rw [hsn]; rfl
      · rw [hsn]; rfl
    ·
      intro hc9
      try simp only [Bool.and_eq_true, Bool.or_eq_true, Bool.not_eq_true', Bool.and_eq_false_imp, Bool.or_eq_false_iff, Bool.not_eq_false', decide_eq_true_eq, decide_eq_false_iff_not] at hc9
      obtain rfl : k = l.length := by omega
      rw [List.take_length] at *
      obtain ⟨s1, s2, s3, s4⟩ := adl_bd l
      have hq1 := numB_len 2 (adl l).2
      have hq2 := numB_len 2 (adl l).1
      refine wpIn_exit ?_
      refine thenE (thenE (blkE ?_))
      refine thenN ?_
      refine wpIn_seq ?_
      refine reg ?_
      refine qq hS (g_movev (v := .int .i64 _) rfl) ?_
      refine qe (d_call Tryd.call29 rfl (numberO_c _ 2 _ _ hS.imm (by omega) (by decide))) ?_
      rintro _ w_1 ⟨a25, c25, rfl, hE⟩
      replace hS := hS.call hE
      refine qq hS (g_movev (v := .int .i64 _) rfl) ?_
      refine qe (d_call Tryd.call29 rfl (numberF_c _ 2 _ _ hS.imm (by omega) (by decide))) ?_
      rintro _ w_2 ⟨I_f, a27, c27, rfl, hE, h27⟩
      replace hS := hS.callE hE
      replace hl := hl.mono hE.ext
      refine qe (i_appendF 0 hS rfl Tryd.underlying25 info5 rfl rfl rfl rfl byteC_len (fun _ => rfl) h27 rfl (by omega) (by omega)) ?_
      clear hS
      rintro _ w_3 ⟨a28, p28, rfl, hS⟩
      refine qq hS (g_assign _) ?_
      refine ol_nil (thenN ?_)
      refine wpIn_ret ?_
      refine ret1 Tryd.results14 (rv_tmp rfl) ?_
      rw [← flat_append] at hS
      obtain ⟨I9, hS9, _, h9⟩ := St.freezeRow (E := 5) (xs := numB 2 (adl l).2 ++ numB 2 (adl l).1) byteC_len (hS.sel [true]) (by rw [List.length_append]; omega)
      exact ⟨I9, a28, _, p28, rfl, hS9, (by rw [sumP_two]; exact h9), by omega⟩

end Go.Proofs.YtdgnojckkjfhfaaDoor

