/- inlayref06.Input: its bytes as own memory. Conditions: numbers within bounds. -/
import Derived.Test.YtodopmclnklgdaaGreatKComp
namespace Go.Proofs.YtodopmclnklgdaaGreat
open Go Go.RowKit Go.Inl
set_option linter.unusedSimpArgs false
set_option linter.unusedVariables false

set_option maxHeartbeats 1000000 in
theorem input_o (ad : Option Addr) (cap : Nat) (b : List Int) (n : Nat) (O : List Int) (hO : inputP b n = O) (w0 : World) (I0 : Imm) (hI : Sat I0 w0) (hl : RBytes I0 (.slice ad b.length cap) b) (hb : ∀ y ∈ b, 0 ≤ y ∧ y ≤ 255) (hn : n ≤ 65536) :
    Ctr Tryz.prog 18 [.slice ad b.length cap, .int .i64 n] w0 (fun v w' => ∃ a c, v = .slice a n c ∧ St [] w0 I0 I0 w' [.row (.slice a n c) 5 1 n (flat byteC O)]) := by
  have hll := RSl.le hl
  simp only [maxLen] at hll
  refine fn (n := 30) Tryz.func18 rfl rfl rfl ?_
  have hS := St.start hI
  refine wpIn_seq ?_
  refine reg ?_
  refine qq hS (g_assign _) ?_
  refine ol_nil (thenN ?_)
  refine wpIn_seq ?_
  refine reg ?_
  refine qe (d_buildSlice0 hS Tryz.underlying25 Tryz.sizeOf5) ?_
  clear hS
  rintro _ w_1 ⟨hS, b8_, rfl⟩
  refine qq hS (g_assign _) ?_
  refine ol_nil (thenN ?_)
  refine wpIn_seq ?_
  refine wpIn_seq ?_
  refine reg ?_
  refine qq hS (g_assignv (v := .int .i64 _) rfl) ?_
  refine ol_nil (thenN ?_)
  refine wpIn_block ?_
  refine loop (fun (x : Nat × Option Addr × Nat) σ w => okS σ [(0, .slice ad b.length cap), (1, .int .i64 n), (5, .slice x.2.1 x.1 x.2.2), (6, .int .i64 x.1)] ∧ St [] w0 I0 I0 w [.row (.slice x.2.1 x.1 x.2.2) 5 1 x.1 (flat byteC (inputP b x.1))] ∧ x.1 ≤ n) (fun x => n - x.1) ((0, some ⟨b8_, 0, none⟩, 0)) ?_ ?_
  ·
    exact ⟨⟨rfl, rfl, rfl, rfl, trivial⟩, hS.sel [true], by simp⟩
  ·
    rintro ⟨k, a, c⟩ σ w_l ⟨hs, hS, hk0⟩
    dsimp only at hs hS hk0 ⊢
    rw [← upds_self hs]; clear hs
    refine wpIn_seq ?_
    refine wpIn_seq ?_
    refine reg ?_
    refine qq hS (g_movev (v := .int .i64 _) rfl) ?_
    refine qq hS (g_movev (v := .int .i64 _) rfl) ?_
    refine qq hS (g_lss rfl rfl) ?_
    refine ol_nil (thenN ?_)
    refine cond_s rfl ?_ ?_
    ·
      intro hc11
      try simp only [Bool.and_eq_true, Bool.or_eq_true, Bool.not_eq_true', Bool.and_eq_false_imp, Bool.or_eq_false_iff, Bool.not_eq_false', decide_eq_true_eq, decide_eq_false_iff_not] at hc11
      refine wpIn_skip ?_
      refine thenN ?_
      refine wpIn_seq ?_
      refine wpIn_block ?_
      refine wpIn_seq ?_
      refine reg ?_
      refine qq hS (g_movev (v := .int .i64 _) rfl) ?_
      refine qq hS (g_mul rfl rfl (by omega) (by omega)) ?_
      refine qq hS (g_conv Tryz.underlying3 Tryz.underlying5 rfl) ?_
      refine qq hS (g_assignv (v := .int .u8 _) rfl) ?_
      refine ol_nil (thenN ?_)
      refine meet (fun σ w => okS σ [(0, .slice ad b.length cap), (1, .int .i64 n), (5, .slice a k c), (6, .int .i64 k), (7, .int .u8 (inputB b k))] ∧ St [] w0 I0 I0 w [.row (.slice a k c) 5 1 k (flat byteC (inputP b k))]) ?_ ?_
      ·
        refine wpIn_seq ?_
        refine reg ?_
        refine qq hS (g_movev (v := .int .i64 _) rfl) ?_
        refine qq hS (g_move _) ?_
        refine qq hS (g_lenI rfl Tryz.underlying25 hl rfl) ?_
        refine qq hS (g_lss rfl rfl) ?_
        refine ol_nil (thenN ?_)
        refine cond_s rfl ?_ ?_
        ·
          intro hc20
          try simp only [Bool.and_eq_true, Bool.or_eq_true, Bool.not_eq_true', Bool.and_eq_false_imp, Bool.or_eq_false_iff, Bool.not_eq_false', decide_eq_true_eq, decide_eq_false_iff_not] at hc20
          obtain ⟨y, hyi⟩ : ∃ y, b[k]? = some y := ⟨_, List.getElem?_eq_getElem (by omega)⟩
          have hyA := hl.at hyi
          have ht : inputB b k = y := by unfold inputB; rw [if_pos (by omega), List.getD_eq_getElem?_getD, hyi]; rfl
          refine reg ?_
          refine qq hS (g_move _) ?_
          refine qq hS (g_movev (v := .int .i64 _) rfl) ?_
          refine qq hS (g_ixI Tryz.underlying25 Tryz.sizeOf5 hl rfl rfl (by omega) (by omega)) ?_
          refine qq hS (g_ldE1 Tryz.isAgg5 hyA rfl rfl) ?_
          refine qq hS (g_assignv (v := .int .u8 _) rfl) ?_
          refine ol_nil (thenN ?_)
          exact ⟨_, rfl, ⟨rfl, rfl, rfl, rfl, by rw [ht]; rfl, trivial⟩, hS.sel [true]⟩
        ·
          intro hc20
          try simp only [Bool.and_eq_true, Bool.or_eq_true, Bool.not_eq_true', Bool.and_eq_false_imp, Bool.or_eq_false_iff, Bool.not_eq_false', decide_eq_true_eq, decide_eq_false_iff_not] at hc20
          have ht : inputB b k = IntKind.u8.wrap (7 * (k : Int)) := if_neg (by omega)
          refine wpIn_skip ?_
          refine thenN ?_
          exact ⟨_, rfl, ⟨rfl, rfl, rfl, rfl, by rw [ht]; rfl, trivial⟩, hS.sel [true]⟩
      ·
        rintro σ w ⟨hs, hS⟩
        rw [← upds_self hs]
        refine reg ?_
        refine qq hS (g_move _) ?_
        refine qq hS (g_movev (v := .int .u8 _) rfl) ?_
        refine qe (d_lit (vs := [.int .u8 _]) (cs := [.int .u8 _]) hS Tryz.underlying25 Tryz.sizeOf5 Tryz.zeroValue5 rfl rfl rfl rfl (fun v hv => by simp only [List.mem_cons, List.not_mem_nil, or_false] at hv; subst hv; rfl) rfl) ?_
        clear hS
        rintro _ w_2 ⟨b_2, rfl, hS⟩
        refine qe (i_appendO 1 0 hS rfl Tryz.underlying25 info5 rfl rfl rfl rfl rfl rfl rfl rfl (by omega) (by omega)) ?_
        clear hS
        rintro _ w_3 ⟨a28, p28, rfl, hS⟩
        refine qq hS (g_assign _) ?_
        refine ol_nil (blkN (thenN ?_))
        refine reg ?_
        refine qq hS (g_movev (v := .int .i64 _) rfl) ?_
        refine qq hS (g_add rfl rfl (by omega) (by omega)) ?_
        refine qq hS (g_assignv (v := .int .i64 _) rfl) ?_
        refine ol_nil (thenN ?_)
        refine ⟨(k + 1, a28, p28), _, rfl, ⟨⟨rfl, rfl, rfl, rfl, trivial⟩, ?_, by dsimp only; omega⟩, by dsimp only; omega⟩
        dsimp only
        rw [show inputP b (k + 1) = inputP b k ++ [inputB b k] by unfold inputP; rw [List.range_succ, List.map_append]; rfl, flat_append, flat_one]
        exact hS.sel [false, true]
    ·
      intro hc11
      try simp only [Bool.and_eq_true, Bool.or_eq_true, Bool.not_eq_true', Bool.and_eq_false_imp, Bool.or_eq_false_iff, Bool.not_eq_false', decide_eq_true_eq, decide_eq_false_iff_not] at hc11
      have hk : k = n := by omega
      subst hk
      refine wpIn_exit ?_
      refine thenE (thenE (blkE ?_))
      refine thenN ?_
      refine wpIn_seq ?_
      refine reg ?_
      refine qq hS (g_move _) ?_
      refine qq hS (g_assign _) ?_
      refine ol_nil (thenN ?_)
      refine wpIn_ret ?_
      refine ret1 Tryz.results18 (rv_tmp rfl) ?_
      rw [← hO]
      exact ⟨a, c, rfl, hS.sel [true]⟩

theorem input_oE (ad : Option Addr) (cap : Nat) (b : List Int) (z : Int) (n : Nat) (O : List Int) (w0 : World) (I0 : Imm) (hI : Sat I0 w0) (hl : RBytes I0 (.slice ad b.length cap) b) (hb : ∀ y ∈ b, 0 ≤ y ∧ y ≤ 255) (hz : z = n) (hn : n ≤ 65536) (hO : inputP b n = O) :
    Ctr Tryz.prog 18 [.slice ad b.length cap, .int .i64 z] w0 (fun v w' => ∃ a c, v = .slice a n c ∧ St [] w0 I0 I0 w' [.row (.slice a n c) 5 1 n (flat byteC O)]) := by
  subst hz; exact input_o ad cap b n O hO w0 I0 hI hl hb hn

end Go.Proofs.YtodopmclnklgdaaGreat

