/- inlaylaw08.NormalRuns: its function answers true. Conditions: arguments are of their kinds. -/
import Derived.Test.YtaoodcchleaoeaaLaw2
import Derived.Test.YtaoodcchleaoeaaOpt3
namespace Go.Proofs.Ytaoodcchleaoeaa
open Go Go.RowKit Go.Inl
set_option linter.unusedSimpArgs false
set_option linter.unusedVariables false
structure RunS where
  i : Nat
  a : Option Addr
  c : Nat
  d : Option Addr
  e : Nat
  g : Option Addr
  h : Nat
  p : Option Addr
  q : Nat
theorem sameOp_t (x y : OpL) (ad bd : Option Addr) (m cap mb capb : Nat) (w0 : World) (I0 : Imm) (hI : Sat I0 w0) (hd : RBytes I0 (.slice ad m cap) x.data) (hx : ∀ z ∈ x.data, 0 ≤ z ∧ z ≤ 255) (he : RBytes I0 (.slice bd mb capb) y.data) (hy : ∀ z ∈ y.data, 0 ≤ z ∧ z ≤ 255) (h : sameOpS x y = true) :
    Ctr Try.prog 24 [opV x ad m cap, opV y bd mb capb] w0 (fun v w' => v = .bool true ∧ Ext w0 I0 w' I0) := by
  have := sameOp_c x y ad bd m cap mb capb w0 I0 hI hd hx he hy
  rw [h] at this
  exact this

set_option maxRecDepth 20000 in
set_option maxHeartbeats 4000000 in
theorem runs1_c (n b f : Int) (k : Nat) (w0 : World) (I0 : Imm) (hI : Sat I0 w0) (hk : 1 + n % 2000 = k) (hn : 0 ≤ n ∧ n ≤ 65535) (hb : 0 ≤ b ∧ b ≤ 255) (hf : 0 ≤ f ∧ f ≤ 255) (hk1 : k = 1) :
    Ctr Try.prog 6 [.int .u16 n, .int .u8 b, .int .u8 f] w0 (fun v w' => ∃ I', v = .bool true ∧ Ext w0 I0 w' I') := by
  obtain ⟨c, hc⟩ : ∃ c, IntKind.u8.wrap (1 + b % 255) = c := ⟨_, rfl⟩
  have hc0 : 1 ≤ c ∧ c ≤ 255 := by rw [IntKind.wrap_u8] at hc; omega
  have hkb : 1 ≤ k ∧ k ≤ 2000 := by omega
  have hw1 : ∀ s ∈ (List.replicate k (⟨false, 0, b⟩ : Sym)), s.wf := fun s hs => by rw [List.eq_of_mem_replicate hs]; exact ⟨by dsimp only; omega, by dsimp only; omega, hb.1, hb.2⟩
  have hwr : ∀ e : Int, 0 ≤ e → e ≤ 255 → ∀ s ∈ rowS f e k, s.wf := fun e h0 h1 s hs => by
    obtain ⟨j, hj, rfl⟩ := List.mem_map.1 hs
    have := List.mem_range.1 hj
    exact ⟨by dsimp only; omega, by dsimp only; omega, h0, h1⟩
  have hw2 := hwr 0 (by omega) (by omega)
  have hw3 := hwr c (by omega) (by omega)
  clear hwr
  have hok1 : okL 0 (List.replicate k (⟨false, 0, b⟩ : Sym)) := fun s hs => by rw [List.eq_of_mem_replicate hs]; rfl
  have he1 : cheapP (List.replicate k (⟨false, 0, b⟩ : Sym)) 0 = (⟨false, 0, k, [⟨4, 0, 1, 0, [b]⟩]⟩, 0) := by
    rw [cheapP_ok (by omega) (by simp; omega) hok1]
    unfold formOf
    rw [runs_equal b k hkb.1, List.length_replicate, if_pos hk1]
  have he2 : cheapP (rowS f 0 k) (f + k) = (⟨false, f + k, k, [⟨1, f, k, 0, []⟩]⟩, 0) := by
    rw [cheapP_ok (by omega) (by rw [rowS_len]; omega) (rowS_ok hf.1)]
    unfold formOf
    rw [runs_order f k hf.1 hkb.1, rowS_len]
  have he3 : cheapP (rowS f c k) (f + k) = (⟨false, f + k, k, [⟨2, f, k, 0, List.replicate k c⟩]⟩, 0) := by
    rw [cheapP_ok (by omega) (by rw [rowS_len]; omega) (rowS_ok hf.1)]
    unfold formOf
    rw [runs_more f c k hf.1 (by omega) hkb.1, rowS_len]
  refine fn (n := 156) Try.func6 rfl rfl rfl ?_
  have hS := St.start hI
  refine wp_seq ?_
  refine reg ?_
  refine qq hS (g_assignv (v := .bool _) rfl) ?_
  refine ol_nil (thenN ?_)
  refine wp_seq ?_
  refine reg ?_
  refine qe (d_call Try.call10 rfl (sanity_c _ _ hS.imm)) ?_
  rintro _ w_1 ⟨I_f, rfl, hE⟩
  replace hS := hS.callE hE
  refine qq hS (g_assignv (v := .bool _) rfl) ?_
  refine ol_nil (thenN ?_)
  refine wp_seq ?_
  refine reg ?_
  refine qq hS (g_movev (v := .int .u16 _) rfl) ?_
  refine qq hS (g_convi Try.underlying48 Try.underlying3 rfl (by omega) (by omega)) ?_
  refine qq hS (g_rem rfl rfl (by omega) (by omega)) ?_
  refine qq hS (g_addE rfl rfl (by omega) (by omega) hk) ?_
  refine qq hS (g_assignv (v := .int .i64 _) rfl) ?_
  refine ol_nil (thenN ?_)
  refine wp_seq ?_
  refine reg ?_
  refine qe (d_buildSlice0 hS Try.underlying33 Try.sizeOf50) ?_
  clear hS
  rintro _ w_2 ⟨hS, b26_, rfl⟩
  refine qe (d_buildSlice0 hS Try.underlying33 Try.sizeOf50) ?_
  clear hS
  rintro _ w_3 ⟨hS, b27_, rfl⟩
  refine qe (d_buildSlice0 hS Try.underlying33 Try.sizeOf50) ?_
  clear hS
  rintro _ w_4 ⟨hS, b28_, rfl⟩
  refine qq hS (g_assign _) ?_
  refine qq hS (g_assign _) ?_
  refine qq hS (g_assign _) ?_
  refine ol_nil (thenN ?_)
  refine wp_seq ?_
  refine reg ?_
  refine qe (d_buildSlice0 hS Try.underlying41 Try.sizeOf5) ?_
  clear hS
  rintro _ w_5 ⟨hS, b29_, rfl⟩
  refine qq hS (g_assign _) ?_
  refine ol_nil (thenN ?_)
  refine wp_seq ?_
  refine wp_seq ?_
  refine reg ?_
  refine qq hS (g_assignv (v := .int .i64 _) rfl) ?_
  refine ol_nil (thenN ?_)
  refine wp_block ?_
  refine loop (fun (x : RunS) σ w => okS σ [(0, .int .u16 n), (1, .int .u8 b), (2, .int .u8 f), (7, .bool true), (8, .int .i64 k), (9, .slice x.a x.i x.c), (10, .slice x.d x.i x.e), (11, .slice x.g x.i x.h), (12, .slice x.p x.i x.q), (13, .int .i64 x.i)] ∧ ∃ I, St [] w0 I0 I w [.row (.slice x.p x.i x.q) 5 1 x.i (flat byteC (List.replicate x.i c)), .row (.slice x.g x.i x.h) 50 3 x.i (flat symC (rowS f c x.i)), .row (.slice x.d x.i x.e) 50 3 x.i (flat symC (rowS f 0 x.i)), .row (.slice x.a x.i x.c) 50 3 x.i (flat symC (List.replicate x.i (⟨false, 0, b⟩ : Sym)))] ∧ x.i ≤ k) (fun x => k - x.i) (⟨0, some ⟨b26_, 0, none⟩, 0, some ⟨b27_, 0, none⟩, 0, some ⟨b28_, 0, none⟩, 0, some ⟨b29_, 0, none⟩, 0⟩) ?_ ?_
  ·
    exact ⟨⟨rfl, rfl, rfl, rfl, rfl, rfl, rfl, rfl, rfl, rfl, trivial⟩, _, hS.sel [true, true, true, true], by simp⟩
  ·
    rintro ⟨i, a9, c9, a10, c10, a11, c11, a12, c12⟩ σ w_l ⟨hs, I, hS, hi0⟩
    dsimp only at hs hS hi0 ⊢
    rw [← upds_self hs]; clear hs
    refine wp_seq ?_
    refine wp_seq ?_
    refine reg ?_
    refine qq hS (g_movev (v := .int .i64 _) rfl) ?_
    refine qq hS (g_movev (v := .int .i64 _) rfl) ?_
    refine qq hS (g_lss rfl rfl) ?_
    refine ol_nil (thenN ?_)
    refine cond_s rfl ?_ ?_
    ·
      intro hc32
      try simp only [Bool.and_eq_true, Bool.or_eq_true, Bool.not_eq_true', Bool.and_eq_false_imp, Bool.or_eq_false_iff, Bool.not_eq_false', decide_eq_true_eq, decide_eq_false_iff_not] at hc32
      refine wp_skip ?_
      refine thenN ?_
      refine wp_seq ?_
      refine wp_block ?_
      refine wp_seq ?_
      refine reg ?_
      refine qq hS (g_move _) ?_
      refine qq hS (g_movev (v := .int .u8 _) rfl) ?_
      refine qq hS (g_buildv (pl := [(0, 1), (1, 1), (2, 1)]) (cs := [.bool _, .int .i64 _, .int .u8 _]) Try.zeroValue50 Try.underlying50 (fun w => by simp [Try.sizeOf3, Try.sizeOf4, Try.sizeOf5]) (mp (v := .int .u8 _) rfl mp0) rfl) ?_
      refine qe (d_lit (vs := [.agg #[.bool _, .int .i64 _, .int .u8 _]]) (cs := [.bool _, .int .i64 _, .int .u8 _]) hS Try.underlying33 Try.sizeOf50 Try.zeroValue50 rfl rfl rfl rfl (fun v hv => by simp only [List.mem_cons, List.not_mem_nil, or_false] at hv; subst hv; rfl) rfl) ?_
      clear hS
      rintro _ w_6 ⟨b_6, rfl, hS⟩
      refine qe (i_appendO 4 0 hS rfl Try.underlying33 info50 rfl rfl rfl rfl rfl rfl rfl rfl (by omega) (by omega)) ?_
      clear hS
      rintro _ w_7 ⟨a39, p39, rfl, hS⟩
      refine qq hS (g_assign _) ?_
      refine ol_nil (thenN ?_)
      refine wp_seq ?_
      refine reg ?_
      refine qq hS (g_move _) ?_
      refine qq hS (g_movev (v := .int .u8 _) rfl) ?_
      refine qq hS (g_convi Try.underlying5 Try.underlying3 rfl (by omega) (by omega)) ?_
      refine qq hS (g_movev (v := .int .i64 _) rfl) ?_
      refine qq hS (g_add rfl rfl (by omega) (by omega)) ?_
      refine qe (d_call Try.call23 rfl (old_c _ _ _ _ hS.imm)) ?_
      rintro _ w_8 ⟨rfl, hE⟩
      replace hS := hS.callE hE
      refine qe (d_lit (vs := [.agg #[.bool _, .int .i64 _, .int .u8 _]]) (cs := [.bool _, .int .i64 _, .int .u8 _]) hS Try.underlying33 Try.sizeOf50 Try.zeroValue50 rfl rfl rfl rfl (fun v hv => by simp only [List.mem_cons, List.not_mem_nil, or_false] at hv; subst hv; rfl) rfl) ?_
      clear hS
      rintro _ w_9 ⟨b_9, rfl, hS⟩
      refine qe (i_appendO 4 0 hS rfl Try.underlying33 info50 rfl rfl rfl rfl rfl rfl rfl rfl (by omega) (by omega)) ?_
      clear hS
      rintro _ w_10 ⟨a47, p47, rfl, hS⟩
      refine qq hS (g_assign _) ?_
      refine ol_nil (thenN ?_)
      refine wp_seq ?_
      refine reg ?_
      refine qq hS (g_move _) ?_
      refine qq hS (g_movev (v := .int .u8 _) rfl) ?_
      refine qq hS (g_convi Try.underlying5 Try.underlying3 rfl (by omega) (by omega)) ?_
      refine qq hS (g_movev (v := .int .i64 _) rfl) ?_
      refine qq hS (g_add rfl rfl (by omega) (by omega)) ?_
      refine qq hS (g_movev (v := .int .u8 _) rfl) ?_
      refine qq hS (g_rem rfl rfl (by omega) (by omega)) ?_
      refine qq hS (g_addwE rfl rfl hc) ?_
      refine qe (d_call Try.call23 rfl (old_c _ _ _ _ hS.imm)) ?_
      rintro _ w_11 ⟨rfl, hE⟩
      replace hS := hS.callE hE
      refine qe (d_lit (vs := [.agg #[.bool _, .int .i64 _, .int .u8 _]]) (cs := [.bool _, .int .i64 _, .int .u8 _]) hS Try.underlying33 Try.sizeOf50 Try.zeroValue50 rfl rfl rfl rfl (fun v hv => by simp only [List.mem_cons, List.not_mem_nil, or_false] at hv; subst hv; rfl) rfl) ?_
      clear hS
      rintro _ w_12 ⟨b_12, rfl, hS⟩
      refine qe (i_appendO 4 0 hS rfl Try.underlying33 info50 rfl rfl rfl rfl rfl rfl rfl rfl (by omega) (by omega)) ?_
      clear hS
      rintro _ w_13 ⟨a58, p58, rfl, hS⟩
      refine qq hS (g_assign _) ?_
      refine ol_nil (thenN ?_)
      refine reg ?_
      refine qq hS (g_move _) ?_
      refine qq hS (g_movev (v := .int .u8 _) rfl) ?_
      refine qq hS (g_rem rfl rfl (by omega) (by omega)) ?_
      refine qq hS (g_addwE rfl rfl hc) ?_
      refine qe (d_lit (vs := [.int .u8 _]) (cs := [.int .u8 _]) hS Try.underlying41 Try.sizeOf5 Try.zeroValue5 rfl rfl rfl rfl (fun v hv => by simp only [List.mem_cons, List.not_mem_nil, or_false] at hv; subst hv; rfl) rfl) ?_
      clear hS
      rintro _ w_14 ⟨b_14, rfl, hS⟩
      refine qe (i_appendO 4 0 hS rfl Try.underlying41 info5 rfl rfl rfl rfl rfl rfl rfl rfl (by omega) (by omega)) ?_
      clear hS
      rintro _ w_15 ⟨a64, p64, rfl, hS⟩
      refine qq hS (g_assign _) ?_
      refine ol_nil (blkN (thenN ?_))
      refine reg ?_
      refine qq hS (g_movev (v := .int .i64 _) rfl) ?_
      refine qq hS (g_add rfl rfl (by omega) (by omega)) ?_
      refine qq hS (g_assignv (v := .int .i64 _) rfl) ?_
      refine ol_nil (thenN ?_)
      refine ⟨⟨i + 1, a39, p39, a47, p47, a58, p58, a64, p64⟩, _, rfl, ⟨⟨rfl, rfl, rfl, rfl, rfl, rfl, rfl, rfl, rfl, rfl, trivial⟩, I, ?_, by dsimp only; omega⟩, by dsimp only; omega⟩
      dsimp only
      simp only [List.replicate_succ', rowS_snoc, flat_append, flat_one]
      exact hS.sel [false, false, false, false, true, true, true, true]
    ·
      intro hc32
      try simp only [Bool.and_eq_true, Bool.or_eq_true, Bool.not_eq_true', Bool.and_eq_false_imp, Bool.or_eq_false_iff, Bool.not_eq_false', decide_eq_true_eq, decide_eq_false_iff_not] at hc32
      have hik : k = i := by omega
      subst hik
      refine wp_exit ?_
      refine thenE (thenE (blkE ?_))
      refine thenN ?_
      refine wp_seq ?_
      have hF := St.freezeRow (xs := List.replicate k c) byteC_len (hS.sel [true, true, true, true]) (by simp)
      clear hS
      obtain ⟨I12, hS, hI12, h12⟩ := hF
      have hF := St.freezeRow (xs := rowS f c k) symC_len hS (by rw [rowS_len])
      clear hS
      obtain ⟨I11, hS, hI11, h11⟩ := hF
      have hF := St.freezeRow (xs := rowS f 0 k) symC_len hS (by rw [rowS_len])
      clear hS
      obtain ⟨I10, hS, hI10, h10⟩ := hF
      have hF := St.freezeRow (xs := List.replicate k (⟨false, 0, b⟩ : Sym)) symC_len hS (by simp)
      clear hS
      obtain ⟨I9, hS, hI9, h9⟩ := hF
      replace h10 := h10.mono hI9
      replace h11 := (h11.mono hI10).mono hI9
      replace h12 := ((h12.mono hI11).mono hI10).mono hI9
      refine reg ?_
      refine qq hS (g_move _) ?_
      refine qe (d_call Try.call15 rfl (cheapest_e _ _ _ (List.replicate k (⟨false, 0, b⟩ : Sym)) 0 ⟨false, 0, k, [⟨4, 0, 1, 0, [b]⟩]⟩ 0 _ _ hS.imm h9 (by simp [rowS_len]) hw1 he1)) ?_
      rintro _ w_16 ⟨I_f, a67, m67, c67, rfl, hE, h67⟩
      replace hS := hS.callE hE
      replace h12 := h12.mono hE.ext
      replace h11 := h11.mono hE.ext
      replace h10 := h10.mono hE.ext
      replace h9 := h9.mono hE.ext
      obtain ⟨cs67, hcl67, hoA67, d67, e67, g67, rfl, hd67⟩ := RSl.at h67 (i := 0) rfl
      refine qq hS (g_move _) ?_
      refine qq hS (g_extract rfl rfl) ?_
      refine qq hS (g_extract (v := .int .i64 _) rfl rfl) ?_
      refine qe (d_alloc (cs := [.bool _, .int .i64 _, .int .i64 _, .slice _ _ _]) hS Try.zeroValue31 rfl) ?_
      clear hS
      rintro _ w_17 ⟨b14, rfl, hS⟩
      refine qe (d_store 0 hS Try.sizeOf31 rfl rfl rfl (vs := [.bool _, .int .i64 _, .int .i64 _, .slice _ _ _]) rfl rfl rfl (Nat.le_of_ble_eq_true rfl) (cs' := [_, _, _, _]) rfl) ?_
      clear hS
      rintro _ w_18 ⟨rfl, hS⟩
      refine qq hS (g_assignv (v := .int .i64 _) rfl) ?_
      refine ol_nil (thenN ?_)
      refine wp_seq ?_
      refine reg ?_
      refine qq hS (g_move _) ?_
      refine qq hS (g_movev (v := .int .u8 _) rfl) ?_
      refine qq hS (g_convi Try.underlying5 Try.underlying3 rfl (by omega) (by omega)) ?_
      refine qq hS (g_movev (v := .int .i64 _) rfl) ?_
      refine qq hS (g_add rfl rfl (by omega) (by omega)) ?_
      refine qe (d_call Try.call15 rfl (cheapest_e _ _ _ (rowS f 0 k) (f + k) ⟨false, (f + k), k, [⟨1, f, k, 0, []⟩]⟩ 0 _ _ hS.imm h10 (by simp [rowS_len]) hw2 he2)) ?_
      rintro _ w_19 ⟨I_f, a76, m76, c76, rfl, hE, h76⟩
      replace hS := hS.callE hE
      replace h12 := h12.mono hE.ext
      replace h11 := h11.mono hE.ext
      replace h10 := h10.mono hE.ext
      replace h9 := h9.mono hE.ext
      replace h67 := h67.mono hE.ext
      replace hoA67 := hoA67.mono hE.ext
      replace hd67 := hd67.mono hE.ext
      obtain ⟨cs76, hcl76, hoA76, d76, e76, g76, rfl, hd76⟩ := RSl.at h76 (i := 0) rfl
      refine qq hS (g_move _) ?_
      refine qq hS (g_extract rfl rfl) ?_
      refine qq hS (g_extract (v := .int .i64 _) rfl rfl) ?_
      refine qe (d_alloc (cs := [.bool _, .int .i64 _, .int .i64 _, .slice _ _ _]) hS Try.zeroValue31 rfl) ?_
      clear hS
      rintro _ w_20 ⟨b16, rfl, hS⟩
      refine qe (d_store 0 hS Try.sizeOf31 rfl rfl rfl (vs := [.bool _, .int .i64 _, .int .i64 _, .slice _ _ _]) rfl rfl rfl (Nat.le_of_ble_eq_true rfl) (cs' := [_, _, _, _]) rfl) ?_
      clear hS
      rintro _ w_21 ⟨rfl, hS⟩
      refine qq hS (g_assignv (v := .int .i64 _) rfl) ?_
      refine ol_nil (thenN ?_)
      refine wp_seq ?_
      refine reg ?_
      refine qq hS (g_move _) ?_
      refine qq hS (g_movev (v := .int .u8 _) rfl) ?_
      refine qq hS (g_convi Try.underlying5 Try.underlying3 rfl (by omega) (by omega)) ?_
      refine qq hS (g_movev (v := .int .i64 _) rfl) ?_
      refine qq hS (g_add rfl rfl (by omega) (by omega)) ?_
      refine qe (d_call Try.call15 rfl (cheapest_e _ _ _ (rowS f c k) (f + k) ⟨false, (f + k), k, [⟨2, f, k, 0, List.replicate k c⟩]⟩ 0 _ _ hS.imm h11 (by simp [rowS_len]) hw3 he3)) ?_
      rintro _ w_22 ⟨I_f, a85, m85, c85, rfl, hE, h85⟩
      replace hS := hS.callE hE
      replace h12 := h12.mono hE.ext
      replace h11 := h11.mono hE.ext
      replace h10 := h10.mono hE.ext
      replace h9 := h9.mono hE.ext
      replace h67 := h67.mono hE.ext
      replace hoA67 := hoA67.mono hE.ext
      replace hd67 := hd67.mono hE.ext
      replace h76 := h76.mono hE.ext
      replace hoA76 := hoA76.mono hE.ext
      replace hd76 := hd76.mono hE.ext
      obtain ⟨cs85, hcl85, hoA85, d85, e85, g85, rfl, hd85⟩ := RSl.at h85 (i := 0) rfl
      refine qq hS (g_move _) ?_
      refine qq hS (g_extract rfl rfl) ?_
      refine qq hS (g_extract (v := .int .i64 _) rfl rfl) ?_
      refine qe (d_alloc (cs := [.bool _, .int .i64 _, .int .i64 _, .slice _ _ _]) hS Try.zeroValue31 rfl) ?_
      clear hS
      rintro _ w_23 ⟨b18, rfl, hS⟩
      refine qe (d_store 0 hS Try.sizeOf31 rfl rfl rfl (vs := [.bool _, .int .i64 _, .int .i64 _, .slice _ _ _]) rfl rfl rfl (Nat.le_of_ble_eq_true rfl) (cs' := [_, _, _, _]) rfl) ?_
      clear hS
      rintro _ w_24 ⟨rfl, hS⟩
      refine qq hS (g_assignv (v := .int .i64 _) rfl) ?_
      refine ol_nil (thenN ?_)
      refine wp_seq ?_
      refine reg ?_
      refine qq hS (g_movev (v := .int .i64 _) rfl) ?_
      refine qq hS (g_movev (v := .int .u8 _) rfl) ?_
      refine qq hS (g_buildv (pl := [(0, 1), (1, 1), (2, 1), (3, 1), (4, 1)]) (cs := [.int .i64 _, .int .i64 _, .int .i64 _, .int .u8 _, .slice _ _ _]) Try.zeroValue53 Try.underlying53 (fun w => by simp [Try.sizeOf3, Try.sizeOf41, Try.sizeOf5]) (mp (v := .int .i64 _) rfl (mp (v := .int .i64 _) rfl (mp (v := .int .u8 _) rfl mp0))) rfl) ?_
      refine qe (d_alloc (cs := [.int .i64 _, .int .i64 _, .int .i64 _, .int .u8 _, .slice _ _ _]) hS Try.zeroValue53 rfl) ?_
      clear hS
      rintro _ w_25 ⟨b20, rfl, hS⟩
      refine qe (d_store 0 hS Try.sizeOf53 rfl rfl rfl (vs := [.int .i64 _, .int .i64 _, .int .i64 _, .int .u8 _, .slice _ _ _]) rfl rfl rfl (Nat.le_of_ble_eq_true rfl) (cs' := [_, _, _, _, _]) rfl) ?_
      clear hS
      rintro _ w_26 ⟨rfl, hS⟩
      refine ol_nil (thenN ?_)
      refine wp_seq ?_
      refine wp_seq ?_
      refine reg ?_
      refine qq hS (g_movev (v := .int .i64 _) rfl) ?_
      refine qq hS (g_eql rfl rfl) ?_
      refine ol_nil (thenN ?_)
      refine cond_t (congrArg Value.bool (by simp; omega)) ?_
      refine reg ?_
      refine qq hS (g_movev (v := .int .u8 _) rfl) ?_
      refine qe (d_lit (vs := [.int .u8 _]) (cs := [.int .u8 _]) hS Try.underlying41 Try.sizeOf5 Try.zeroValue5 rfl rfl rfl rfl (fun v hv => by simp only [List.mem_cons, List.not_mem_nil, or_false] at hv; subst hv; rfl) rfl) ?_
      clear hS
      rintro _ w_27 ⟨b94, rfl, hS⟩
      have hF := hS.freeze1
      clear hS
      obtain ⟨I94, hS, hI94, hb94⟩ := hF
      replace h12 := h12.mono hI94
      replace h11 := h11.mono hI94
      replace h10 := h10.mono hI94
      replace h9 := h9.mono hI94
      replace h67 := h67.mono hI94
      replace hoA67 := hoA67.mono hI94
      replace hd67 := hd67.mono hI94
      replace h76 := h76.mono hI94
      replace hoA76 := hoA76.mono hI94
      replace hd76 := hd76.mono hI94
      replace h85 := h85.mono hI94
      replace hoA85 := hoA85.mono hI94
      replace hd85 := hd85.mono hI94
      have h94 := RFl.ofAt byteC_len [b] hb94 rfl (by show 1 ≤ maxLen; decide)
      refine qq hS (g_buildv (pl := [(0, 1), (1, 1), (2, 1), (3, 1), (4, 1)]) (cs := [.int .i64 _, .int .i64 _, .int .i64 _, .int .u8 _, .slice _ _ _]) Try.zeroValue53 Try.underlying53 (fun w => by simp [Try.sizeOf3, Try.sizeOf41, Try.sizeOf5]) (mp (v := .int .i64 _) rfl (mp (v := .int .i64 _) rfl (mp rfl mp0))) rfl) ?_
      refine qe (d_store 0 hS Try.sizeOf53 rfl rfl rfl (vs := [.int .i64 _, .int .i64 _, .int .i64 _, .int .u8 _, .slice _ _ _]) rfl rfl rfl (Nat.le_of_ble_eq_true rfl) (cs' := [_, _, _, _, _]) rfl) ?_
      clear hS
      rintro _ w_28 ⟨rfl, hS⟩
      refine ol_nil (thenN ?_)
      refine wp_seq ?_
      refine wp_seq ?_
      refine reg ?_
      refine qq hS (g_movev (v := .int .i64 _) rfl) ?_
      refine qq hS (g_neq rfl rfl) ?_
      refine qq hS (g_movev (v := .bool _) rfl) ?_
      refine qqs rfl rfl hS (g_movev (v := .int .i64 _) rfl) ?_
      refine qqs rfl rfl hS (g_neq rfl rfl) ?_
      refine qq hS (g_or rfl rfl (fun _ => rfl)) ?_
      refine qq hS (g_movev (v := .bool _) rfl) ?_
      refine qqs rfl rfl hS (g_movev (v := .int .i64 _) rfl) ?_
      refine qqs rfl rfl hS (g_neq rfl rfl) ?_
      refine qq hS (g_or rfl rfl (fun _ => rfl)) ?_
      refine qq hS (g_movev (v := .bool _) rfl) ?_
      refine qqs rfl rfl hS (g_fieldAddr (o' := 3) Try.underlying31 rfl Try.sizeOf29 rfl rfl rfl) ?_
      refine qqs rfl rfl hS (g_ldO1 3 Try.isAgg29 rfl rfl rfl) ?_
      refine qqs rfl rfl hS (g_lenI rfl Try.underlying29 h67 rfl) ?_
      refine qqs rfl rfl hS (g_neq rfl rfl) ?_
      refine qq hS (g_or rfl rfl (fun _ => rfl)) ?_
      refine qq hS (g_movev (v := .bool _) rfl) ?_
      refine qqs rfl rfl hS (g_fieldAddr (o' := 3) Try.underlying31 rfl Try.sizeOf29 rfl rfl rfl) ?_
      refine qqs rfl rfl hS (g_ldO1 2 Try.isAgg29 rfl rfl rfl) ?_
      refine qqs rfl rfl hS (g_lenI rfl Try.underlying29 h76 rfl) ?_
      refine qqs rfl rfl hS (g_neq rfl rfl) ?_
      refine qq hS (g_or rfl rfl (fun _ => rfl)) ?_
      refine qq hS (g_movev (v := .bool _) rfl) ?_
      refine qqs rfl rfl hS (g_fieldAddr (o' := 3) Try.underlying31 rfl Try.sizeOf29 rfl rfl rfl) ?_
      refine qqs rfl rfl hS (g_ldO1 1 Try.isAgg29 rfl rfl rfl) ?_
      refine qqs rfl rfl hS (g_lenI rfl Try.underlying29 h85 rfl) ?_
      refine qqs rfl rfl hS (g_neq rfl rfl) ?_
      refine qq hS (g_or rfl rfl (fun _ => rfl)) ?_
      refine ol_nil (thenN ?_)
      refine cond_f (rfl) ?_
      refine wp_skip ?_
      refine thenN ?_
      refine wp_seq ?_
      refine draw (.cons 0 .pure (.cons 1 .held (.cons 2 .pure (.cons 3 .held (.cons 4 .held (.cons 5 .eff (.cons 6 .pure (.cons 7 .pure (.cons 8 .held (.cons 9 .pure (.cons 10 .held (.cons 11 .pure (.cons 12 .pure (.cons 13 .pure (.cons 14 .pure (.cons 15 .eff (.cons 16 .pure (.cons 17 .pure (.cons 18 .pure (.cons 19 .held (.cons 20 .pure (.cons 21 .held (.cons 22 .pure (.cons 23 .pure (.cons 24 .pure (.cons 25 .pure (.cons 26 .pure (.cons 27 .eff (.cons 28 .pure (.cons 29 .pure (.cons 30 .pure (.cons 31 .pure (.cons 32 .pure .nil))))))))))))))))))))))))))))))))) mixed (by kernel_rfl) hS ?_
      intro w_29 hS
      refine sp rfl (g_fieldAddr (o' := 3) Try.underlying31 rfl Try.sizeOf29 rfl rfl rfl) ?_
      refine sh rfl (g_ldO1 3 Try.isAgg29 rfl rfl rfl) ?_
      refine sp rfl (g_ixI Try.underlying29 Try.sizeOf53 h67 rfl rfl (by simp) (by simp)) ?_
      refine sh rfl (g_ldE (us := [.int .i64 _, .int .i64 _, .int .i64 _, .int .u8 _, .slice _ _ _]) Try.sizeOf53 Try.isAgg53 hoA67 rfl rfl rfl) ?_
      refine sh rfl (g_ldO 0 (vs := [.int .i64 _, .int .i64 _, .int .i64 _, .int .u8 _, .slice _ _ _]) Try.sizeOf53 Try.isAgg53 rfl rfl rfl rfl) ?_
      have hS0 := hS
      refine se rfl (d_call Try.call24 rfl (sameOp_t ⟨4, 0, 1, 0, [b]⟩ ⟨4, 0, 1, 0, [b]⟩ d67 _ e67 g67 _ _ _ _ hS.imm hd67 (by intro z hz; first | (simp at hz; done) | (simp at hz; omega) | (simp at hz; obtain ⟨_, rfl⟩ := hz; omega)) h94 (by intro z hz; first | (simp at hz; done) | (simp at hz; omega) | (simp at hz; obtain ⟨_, rfl⟩ := hz; omega)) (by simp [sameOpS]))) ?_
      rintro _ w_30 ⟨rfl, hE⟩
      replace hS := hS.call hE
      refine ⟨_, _, hS0.le hE.ext (List.Sublist.refl _), hS, ?_⟩
      refine sp rfl (g_movev (v := .bool _) rfl) ?_
      refine spt rfl rfl rfl (g_fieldAddr (o' := 3) Try.underlying31 rfl Try.sizeOf29 rfl rfl rfl) ?_
      refine sht rfl rfl rfl (g_ldO1 2 Try.isAgg29 rfl rfl rfl) ?_
      refine spt rfl rfl rfl (g_ixI Try.underlying29 Try.sizeOf53 h76 rfl rfl (by simp) (by simp)) ?_
      refine sht rfl rfl rfl (g_ldE (us := [.int .i64 _, .int .i64 _, .int .i64 _, .int .u8 _, .slice _ _ _]) Try.sizeOf53 Try.isAgg53 hoA76 rfl rfl rfl) ?_
      refine spt rfl rfl rfl (g_movev (v := .int .u8 _) rfl) ?_
      refine spt rfl rfl rfl (g_convi Try.underlying5 Try.underlying3 rfl (by omega) (by omega)) ?_
      refine spt rfl rfl rfl (g_movev (v := .int .i64 _) rfl) ?_
      refine spt rfl rfl rfl (g_buildv (pl := [(0, 1), (1, 1), (2, 1), (3, 1), (4, 1)]) (cs := [.int .i64 _, .int .i64 _, .int .i64 _, .int .u8 _, .slice _ _ _]) Try.zeroValue53 Try.underlying53 (fun w => by simp [Try.sizeOf3, Try.sizeOf41, Try.sizeOf5]) (mp (v := .int .i64 _) rfl (mp (v := .int .i64 _) rfl (mp (v := .int .i64 _) rfl mp0))) rfl) ?_
      have hS0 := hS
      refine Inl.set rfl rfl rfl (d_call Try.call24 rfl (sameOp_t ⟨1, f, k, 0, []⟩ ⟨1, f, k, 0, []⟩ d76 _ e76 g76 _ _ _ _ hS.imm hd76 (by intro z hz; first | (simp at hz; done) | (simp at hz; omega) | (simp at hz; obtain ⟨_, rfl⟩ := hz; omega)) RFl.nil (by intro z hz; first | (simp at hz; done) | (simp at hz; omega) | (simp at hz; obtain ⟨_, rfl⟩ := hz; omega)) (by simp [sameOpS]))) ?_
      rintro _ w_31 ⟨rfl, hE⟩
      replace hS := hS.call hE
      refine ⟨_, _, hS0.le hE.ext (List.Sublist.refl _), hS, ?_⟩
      refine sp rfl (g_and rfl rfl (fun _ => rfl)) ?_
      refine sp rfl (g_movev (v := .bool _) rfl) ?_
      refine spt rfl rfl rfl (g_fieldAddr (o' := 3) Try.underlying31 rfl Try.sizeOf29 rfl rfl rfl) ?_
      refine sht rfl rfl rfl (g_ldO1 1 Try.isAgg29 rfl rfl rfl) ?_
      refine spt rfl rfl rfl (g_ixI Try.underlying29 Try.sizeOf53 h85 rfl rfl (by simp) (by simp)) ?_
      refine sht rfl rfl rfl (g_ldE (us := [.int .i64 _, .int .i64 _, .int .i64 _, .int .u8 _, .slice _ _ _]) Try.sizeOf53 Try.isAgg53 hoA85 rfl rfl rfl) ?_
      refine spt rfl rfl rfl (g_movev (v := .int .u8 _) rfl) ?_
      refine spt rfl rfl rfl (g_convi Try.underlying5 Try.underlying3 rfl (by omega) (by omega)) ?_
      refine spt rfl rfl rfl (g_movev (v := .int .i64 _) rfl) ?_
      refine spt rfl rfl rfl (g_move _) ?_
      refine spt rfl rfl rfl (g_buildv (pl := [(0, 1), (1, 1), (2, 1), (3, 1), (4, 1)]) (cs := [.int .i64 _, .int .i64 _, .int .i64 _, .int .u8 _, .slice _ _ _]) Try.zeroValue53 Try.underlying53 (fun w => by simp [Try.sizeOf3, Try.sizeOf41, Try.sizeOf5]) (mp (v := .int .i64 _) rfl (mp (v := .int .i64 _) rfl (mp (v := .int .i64 _) rfl (mp rfl mp0)))) rfl) ?_
      have hS0 := hS
      refine Inl.set rfl rfl rfl (d_call Try.call24 rfl (sameOp_t ⟨2, f, k, 0, List.replicate k c⟩ ⟨2, f, k, 0, List.replicate k c⟩ d85 _ e85 g85 _ _ _ _ hS.imm hd85 (by intro z hz; first | (simp at hz; done) | (simp at hz; omega) | (simp at hz; obtain ⟨_, rfl⟩ := hz; omega)) h12 (by intro z hz; first | (simp at hz; done) | (simp at hz; omega) | (simp at hz; obtain ⟨_, rfl⟩ := hz; omega)) (by simp [sameOpS]))) ?_
      rintro _ w_32 ⟨rfl, hE⟩
      replace hS := hS.call hE
      refine ⟨_, _, hS0.le hE.ext (List.Sublist.refl _), hS, ?_⟩
      refine sp rfl (g_and rfl rfl (fun _ => rfl)) ?_
      refine sp rfl (g_movev (v := .bool _) rfl) ?_
      refine spt rfl rfl rfl (g_movev (v := .bool _) rfl) ?_
      refine sp rfl (g_and rfl rfl (fun _ => rfl)) ?_
      refine sp rfl (g_assignv (v := .bool _) rfl) ?_
      refine sn (thenN ?_)
      refine wp_ret ?_
      refine ret1 Try.results6 (rv_tmp (v := .bool _) rfl) ?_
      exact ⟨_, rfl, hS.nil⟩

set_option maxRecDepth 20000 in
set_option maxHeartbeats 4000000 in
theorem runs2_c (n b f : Int) (k : Nat) (w0 : World) (I0 : Imm) (hI : Sat I0 w0) (hk : 1 + n % 2000 = k) (hn : 0 ≤ n ∧ n ≤ 65535) (hb : 0 ≤ b ∧ b ≤ 255) (hf : 0 ≤ f ∧ f ≤ 255) (hk1 : ¬ k = 1) :
    Ctr Try.prog 6 [.int .u16 n, .int .u8 b, .int .u8 f] w0 (fun v w' => ∃ I', v = .bool true ∧ Ext w0 I0 w' I') := by
  obtain ⟨c, hc⟩ : ∃ c, IntKind.u8.wrap (1 + b % 255) = c := ⟨_, rfl⟩
  have hc0 : 1 ≤ c ∧ c ≤ 255 := by rw [IntKind.wrap_u8] at hc; omega
  have hkb : 1 ≤ k ∧ k ≤ 2000 := by omega
  have hw1 : ∀ s ∈ (List.replicate k (⟨false, 0, b⟩ : Sym)), s.wf := fun s hs => by rw [List.eq_of_mem_replicate hs]; exact ⟨by dsimp only; omega, by dsimp only; omega, hb.1, hb.2⟩
  have hwr : ∀ e : Int, 0 ≤ e → e ≤ 255 → ∀ s ∈ rowS f e k, s.wf := fun e h0 h1 s hs => by
    obtain ⟨j, hj, rfl⟩ := List.mem_map.1 hs
    have := List.mem_range.1 hj
    exact ⟨by dsimp only; omega, by dsimp only; omega, h0, h1⟩
  have hw2 := hwr 0 (by omega) (by omega)
  have hw3 := hwr c (by omega) (by omega)
  clear hwr
  have hok1 : okL 0 (List.replicate k (⟨false, 0, b⟩ : Sym)) := fun s hs => by rw [List.eq_of_mem_replicate hs]; rfl
  have he1 : cheapP (List.replicate k (⟨false, 0, b⟩ : Sym)) 0 = (⟨false, 0, k, [⟨3, 0, k, b, []⟩]⟩, 0) := by
    rw [cheapP_ok (by omega) (by simp; omega) hok1]
    unfold formOf
    rw [runs_equal b k hkb.1, List.length_replicate, if_neg hk1]
  have he2 : cheapP (rowS f 0 k) (f + k) = (⟨false, f + k, k, [⟨1, f, k, 0, []⟩]⟩, 0) := by
    rw [cheapP_ok (by omega) (by rw [rowS_len]; omega) (rowS_ok hf.1)]
    unfold formOf
    rw [runs_order f k hf.1 hkb.1, rowS_len]
  have he3 : cheapP (rowS f c k) (f + k) = (⟨false, f + k, k, [⟨2, f, k, 0, List.replicate k c⟩]⟩, 0) := by
    rw [cheapP_ok (by omega) (by rw [rowS_len]; omega) (rowS_ok hf.1)]
    unfold formOf
    rw [runs_more f c k hf.1 (by omega) hkb.1, rowS_len]
  refine fn (n := 156) Try.func6 rfl rfl rfl ?_
  have hS := St.start hI
  refine wp_seq ?_
  refine reg ?_
  refine qq hS (g_assignv (v := .bool _) rfl) ?_
  refine ol_nil (thenN ?_)
  refine wp_seq ?_
  refine reg ?_
  refine qe (d_call Try.call10 rfl (sanity_c _ _ hS.imm)) ?_
  rintro _ w_1 ⟨I_f, rfl, hE⟩
  replace hS := hS.callE hE
  refine qq hS (g_assignv (v := .bool _) rfl) ?_
  refine ol_nil (thenN ?_)
  refine wp_seq ?_
  refine reg ?_
  refine qq hS (g_movev (v := .int .u16 _) rfl) ?_
  refine qq hS (g_convi Try.underlying48 Try.underlying3 rfl (by omega) (by omega)) ?_
  refine qq hS (g_rem rfl rfl (by omega) (by omega)) ?_
  refine qq hS (g_addE rfl rfl (by omega) (by omega) hk) ?_
  refine qq hS (g_assignv (v := .int .i64 _) rfl) ?_
  refine ol_nil (thenN ?_)
  refine wp_seq ?_
  refine reg ?_
  refine qe (d_buildSlice0 hS Try.underlying33 Try.sizeOf50) ?_
  clear hS
  rintro _ w_2 ⟨hS, b26_, rfl⟩
  refine qe (d_buildSlice0 hS Try.underlying33 Try.sizeOf50) ?_
  clear hS
  rintro _ w_3 ⟨hS, b27_, rfl⟩
  refine qe (d_buildSlice0 hS Try.underlying33 Try.sizeOf50) ?_
  clear hS
  rintro _ w_4 ⟨hS, b28_, rfl⟩
  refine qq hS (g_assign _) ?_
  refine qq hS (g_assign _) ?_
  refine qq hS (g_assign _) ?_
  refine ol_nil (thenN ?_)
  refine wp_seq ?_
  refine reg ?_
  refine qe (d_buildSlice0 hS Try.underlying41 Try.sizeOf5) ?_
  clear hS
  rintro _ w_5 ⟨hS, b29_, rfl⟩
  refine qq hS (g_assign _) ?_
  refine ol_nil (thenN ?_)
  refine wp_seq ?_
  refine wp_seq ?_
  refine reg ?_
  refine qq hS (g_assignv (v := .int .i64 _) rfl) ?_
  refine ol_nil (thenN ?_)
  refine wp_block ?_
  refine loop (fun (x : RunS) σ w => okS σ [(0, .int .u16 n), (1, .int .u8 b), (2, .int .u8 f), (7, .bool true), (8, .int .i64 k), (9, .slice x.a x.i x.c), (10, .slice x.d x.i x.e), (11, .slice x.g x.i x.h), (12, .slice x.p x.i x.q), (13, .int .i64 x.i)] ∧ ∃ I, St [] w0 I0 I w [.row (.slice x.p x.i x.q) 5 1 x.i (flat byteC (List.replicate x.i c)), .row (.slice x.g x.i x.h) 50 3 x.i (flat symC (rowS f c x.i)), .row (.slice x.d x.i x.e) 50 3 x.i (flat symC (rowS f 0 x.i)), .row (.slice x.a x.i x.c) 50 3 x.i (flat symC (List.replicate x.i (⟨false, 0, b⟩ : Sym)))] ∧ x.i ≤ k) (fun x => k - x.i) (⟨0, some ⟨b26_, 0, none⟩, 0, some ⟨b27_, 0, none⟩, 0, some ⟨b28_, 0, none⟩, 0, some ⟨b29_, 0, none⟩, 0⟩) ?_ ?_
  ·
    exact ⟨⟨rfl, rfl, rfl, rfl, rfl, rfl, rfl, rfl, rfl, rfl, trivial⟩, _, hS.sel [true, true, true, true], by simp⟩
  ·
    rintro ⟨i, a9, c9, a10, c10, a11, c11, a12, c12⟩ σ w_l ⟨hs, I, hS, hi0⟩
    dsimp only at hs hS hi0 ⊢
    rw [← upds_self hs]; clear hs
    refine wp_seq ?_
    refine wp_seq ?_
    refine reg ?_
    refine qq hS (g_movev (v := .int .i64 _) rfl) ?_
    refine qq hS (g_movev (v := .int .i64 _) rfl) ?_
    refine qq hS (g_lss rfl rfl) ?_
    refine ol_nil (thenN ?_)
    refine cond_s rfl ?_ ?_
    ·
      intro hc32
      try simp only [Bool.and_eq_true, Bool.or_eq_true, Bool.not_eq_true', Bool.and_eq_false_imp, Bool.or_eq_false_iff, Bool.not_eq_false', decide_eq_true_eq, decide_eq_false_iff_not] at hc32
      refine wp_skip ?_
      refine thenN ?_
      refine wp_seq ?_
      refine wp_block ?_
      refine wp_seq ?_
      refine reg ?_
      refine qq hS (g_move _) ?_
      refine qq hS (g_movev (v := .int .u8 _) rfl) ?_
      refine qq hS (g_buildv (pl := [(0, 1), (1, 1), (2, 1)]) (cs := [.bool _, .int .i64 _, .int .u8 _]) Try.zeroValue50 Try.underlying50 (fun w => by simp [Try.sizeOf3, Try.sizeOf4, Try.sizeOf5]) (mp (v := .int .u8 _) rfl mp0) rfl) ?_
      refine qe (d_lit (vs := [.agg #[.bool _, .int .i64 _, .int .u8 _]]) (cs := [.bool _, .int .i64 _, .int .u8 _]) hS Try.underlying33 Try.sizeOf50 Try.zeroValue50 rfl rfl rfl rfl (fun v hv => by simp only [List.mem_cons, List.not_mem_nil, or_false] at hv; subst hv; rfl) rfl) ?_
      clear hS
      rintro _ w_6 ⟨b_6, rfl, hS⟩
      refine qe (i_appendO 4 0 hS rfl Try.underlying33 info50 rfl rfl rfl rfl rfl rfl rfl rfl (by omega) (by omega)) ?_
      clear hS
      rintro _ w_7 ⟨a39, p39, rfl, hS⟩
      refine qq hS (g_assign _) ?_
      refine ol_nil (thenN ?_)
      refine wp_seq ?_
      refine reg ?_
      refine qq hS (g_move _) ?_
      refine qq hS (g_movev (v := .int .u8 _) rfl) ?_
      refine qq hS (g_convi Try.underlying5 Try.underlying3 rfl (by omega) (by omega)) ?_
      refine qq hS (g_movev (v := .int .i64 _) rfl) ?_
      refine qq hS (g_add rfl rfl (by omega) (by omega)) ?_
      refine qe (d_call Try.call23 rfl (old_c _ _ _ _ hS.imm)) ?_
      rintro _ w_8 ⟨rfl, hE⟩
      replace hS := hS.callE hE
      refine qe (d_lit (vs := [.agg #[.bool _, .int .i64 _, .int .u8 _]]) (cs := [.bool _, .int .i64 _, .int .u8 _]) hS Try.underlying33 Try.sizeOf50 Try.zeroValue50 rfl rfl rfl rfl (fun v hv => by simp only [List.mem_cons, List.not_mem_nil, or_false] at hv; subst hv; rfl) rfl) ?_
      clear hS
      rintro _ w_9 ⟨b_9, rfl, hS⟩
      refine qe (i_appendO 4 0 hS rfl Try.underlying33 info50 rfl rfl rfl rfl rfl rfl rfl rfl (by omega) (by omega)) ?_
      clear hS
      rintro _ w_10 ⟨a47, p47, rfl, hS⟩
      refine qq hS (g_assign _) ?_
      refine ol_nil (thenN ?_)
      refine wp_seq ?_
      refine reg ?_
      refine qq hS (g_move _) ?_
      refine qq hS (g_movev (v := .int .u8 _) rfl) ?_
      refine qq hS (g_convi Try.underlying5 Try.underlying3 rfl (by omega) (by omega)) ?_
      refine qq hS (g_movev (v := .int .i64 _) rfl) ?_
      refine qq hS (g_add rfl rfl (by omega) (by omega)) ?_
      refine qq hS (g_movev (v := .int .u8 _) rfl) ?_
      refine qq hS (g_rem rfl rfl (by omega) (by omega)) ?_
      refine qq hS (g_addwE rfl rfl hc) ?_
      refine qe (d_call Try.call23 rfl (old_c _ _ _ _ hS.imm)) ?_
      rintro _ w_11 ⟨rfl, hE⟩
      replace hS := hS.callE hE
      refine qe (d_lit (vs := [.agg #[.bool _, .int .i64 _, .int .u8 _]]) (cs := [.bool _, .int .i64 _, .int .u8 _]) hS Try.underlying33 Try.sizeOf50 Try.zeroValue50 rfl rfl rfl rfl (fun v hv => by simp only [List.mem_cons, List.not_mem_nil, or_false] at hv; subst hv; rfl) rfl) ?_
      clear hS
      rintro _ w_12 ⟨b_12, rfl, hS⟩
      refine qe (i_appendO 4 0 hS rfl Try.underlying33 info50 rfl rfl rfl rfl rfl rfl rfl rfl (by omega) (by omega)) ?_
      clear hS
      rintro _ w_13 ⟨a58, p58, rfl, hS⟩
      refine qq hS (g_assign _) ?_
      refine ol_nil (thenN ?_)
      refine reg ?_
      refine qq hS (g_move _) ?_
      refine qq hS (g_movev (v := .int .u8 _) rfl) ?_
      refine qq hS (g_rem rfl rfl (by omega) (by omega)) ?_
      refine qq hS (g_addwE rfl rfl hc) ?_
      refine qe (d_lit (vs := [.int .u8 _]) (cs := [.int .u8 _]) hS Try.underlying41 Try.sizeOf5 Try.zeroValue5 rfl rfl rfl rfl (fun v hv => by simp only [List.mem_cons, List.not_mem_nil, or_false] at hv; subst hv; rfl) rfl) ?_
      clear hS
      rintro _ w_14 ⟨b_14, rfl, hS⟩
      refine qe (i_appendO 4 0 hS rfl Try.underlying41 info5 rfl rfl rfl rfl rfl rfl rfl rfl (by omega) (by omega)) ?_
      clear hS
      rintro _ w_15 ⟨a64, p64, rfl, hS⟩
      refine qq hS (g_assign _) ?_
      refine ol_nil (blkN (thenN ?_))
      refine reg ?_
      refine qq hS (g_movev (v := .int .i64 _) rfl) ?_
      refine qq hS (g_add rfl rfl (by omega) (by omega)) ?_
      refine qq hS (g_assignv (v := .int .i64 _) rfl) ?_
      refine ol_nil (thenN ?_)
      refine ⟨⟨i + 1, a39, p39, a47, p47, a58, p58, a64, p64⟩, _, rfl, ⟨⟨rfl, rfl, rfl, rfl, rfl, rfl, rfl, rfl, rfl, rfl, trivial⟩, I, ?_, by dsimp only; omega⟩, by dsimp only; omega⟩
      dsimp only
      simp only [List.replicate_succ', rowS_snoc, flat_append, flat_one]
      exact hS.sel [false, false, false, false, true, true, true, true]
    ·
      intro hc32
      try simp only [Bool.and_eq_true, Bool.or_eq_true, Bool.not_eq_true', Bool.and_eq_false_imp, Bool.or_eq_false_iff, Bool.not_eq_false', decide_eq_true_eq, decide_eq_false_iff_not] at hc32
      have hik : k = i := by omega
      subst hik
      refine wp_exit ?_
      refine thenE (thenE (blkE ?_))
      refine thenN ?_
      refine wp_seq ?_
      have hF := St.freezeRow (xs := List.replicate k c) byteC_len (hS.sel [true, true, true, true]) (by simp)
      clear hS
      obtain ⟨I12, hS, hI12, h12⟩ := hF
      have hF := St.freezeRow (xs := rowS f c k) symC_len hS (by rw [rowS_len])
      clear hS
      obtain ⟨I11, hS, hI11, h11⟩ := hF
      have hF := St.freezeRow (xs := rowS f 0 k) symC_len hS (by rw [rowS_len])
      clear hS
      obtain ⟨I10, hS, hI10, h10⟩ := hF
      have hF := St.freezeRow (xs := List.replicate k (⟨false, 0, b⟩ : Sym)) symC_len hS (by simp)
      clear hS
      obtain ⟨I9, hS, hI9, h9⟩ := hF
      replace h10 := h10.mono hI9
      replace h11 := (h11.mono hI10).mono hI9
      replace h12 := ((h12.mono hI11).mono hI10).mono hI9
      refine reg ?_
      refine qq hS (g_move _) ?_
      refine qe (d_call Try.call15 rfl (cheapest_e _ _ _ (List.replicate k (⟨false, 0, b⟩ : Sym)) 0 ⟨false, 0, k, [⟨3, 0, k, b, []⟩]⟩ 0 _ _ hS.imm h9 (by simp [rowS_len]) hw1 he1)) ?_
      rintro _ w_16 ⟨I_f, a67, m67, c67, rfl, hE, h67⟩
      replace hS := hS.callE hE
      replace h12 := h12.mono hE.ext
      replace h11 := h11.mono hE.ext
      replace h10 := h10.mono hE.ext
      replace h9 := h9.mono hE.ext
      obtain ⟨cs67, hcl67, hoA67, d67, e67, g67, rfl, hd67⟩ := RSl.at h67 (i := 0) rfl
      refine qq hS (g_move _) ?_
      refine qq hS (g_extract rfl rfl) ?_
      refine qq hS (g_extract (v := .int .i64 _) rfl rfl) ?_
      refine qe (d_alloc (cs := [.bool _, .int .i64 _, .int .i64 _, .slice _ _ _]) hS Try.zeroValue31 rfl) ?_
      clear hS
      rintro _ w_17 ⟨b14, rfl, hS⟩
      refine qe (d_store 0 hS Try.sizeOf31 rfl rfl rfl (vs := [.bool _, .int .i64 _, .int .i64 _, .slice _ _ _]) rfl rfl rfl (Nat.le_of_ble_eq_true rfl) (cs' := [_, _, _, _]) rfl) ?_
      clear hS
      rintro _ w_18 ⟨rfl, hS⟩
      refine qq hS (g_assignv (v := .int .i64 _) rfl) ?_
      refine ol_nil (thenN ?_)
      refine wp_seq ?_
      refine reg ?_
      refine qq hS (g_move _) ?_
      refine qq hS (g_movev (v := .int .u8 _) rfl) ?_
      refine qq hS (g_convi Try.underlying5 Try.underlying3 rfl (by omega) (by omega)) ?_
      refine qq hS (g_movev (v := .int .i64 _) rfl) ?_
      refine qq hS (g_add rfl rfl (by omega) (by omega)) ?_
      refine qe (d_call Try.call15 rfl (cheapest_e _ _ _ (rowS f 0 k) (f + k) ⟨false, (f + k), k, [⟨1, f, k, 0, []⟩]⟩ 0 _ _ hS.imm h10 (by simp [rowS_len]) hw2 he2)) ?_
      rintro _ w_19 ⟨I_f, a76, m76, c76, rfl, hE, h76⟩
      replace hS := hS.callE hE
      replace h12 := h12.mono hE.ext
      replace h11 := h11.mono hE.ext
      replace h10 := h10.mono hE.ext
      replace h9 := h9.mono hE.ext
      replace h67 := h67.mono hE.ext
      replace hoA67 := hoA67.mono hE.ext
      replace hd67 := hd67.mono hE.ext
      obtain ⟨cs76, hcl76, hoA76, d76, e76, g76, rfl, hd76⟩ := RSl.at h76 (i := 0) rfl
      refine qq hS (g_move _) ?_
      refine qq hS (g_extract rfl rfl) ?_
      refine qq hS (g_extract (v := .int .i64 _) rfl rfl) ?_
      refine qe (d_alloc (cs := [.bool _, .int .i64 _, .int .i64 _, .slice _ _ _]) hS Try.zeroValue31 rfl) ?_
      clear hS
      rintro _ w_20 ⟨b16, rfl, hS⟩
      refine qe (d_store 0 hS Try.sizeOf31 rfl rfl rfl (vs := [.bool _, .int .i64 _, .int .i64 _, .slice _ _ _]) rfl rfl rfl (Nat.le_of_ble_eq_true rfl) (cs' := [_, _, _, _]) rfl) ?_
      clear hS
      rintro _ w_21 ⟨rfl, hS⟩
      refine qq hS (g_assignv (v := .int .i64 _) rfl) ?_
      refine ol_nil (thenN ?_)
      refine wp_seq ?_
      refine reg ?_
      refine qq hS (g_move _) ?_
      refine qq hS (g_movev (v := .int .u8 _) rfl) ?_
      refine qq hS (g_convi Try.underlying5 Try.underlying3 rfl (by omega) (by omega)) ?_
      refine qq hS (g_movev (v := .int .i64 _) rfl) ?_
      refine qq hS (g_add rfl rfl (by omega) (by omega)) ?_
      refine qe (d_call Try.call15 rfl (cheapest_e _ _ _ (rowS f c k) (f + k) ⟨false, (f + k), k, [⟨2, f, k, 0, List.replicate k c⟩]⟩ 0 _ _ hS.imm h11 (by simp [rowS_len]) hw3 he3)) ?_
      rintro _ w_22 ⟨I_f, a85, m85, c85, rfl, hE, h85⟩
      replace hS := hS.callE hE
      replace h12 := h12.mono hE.ext
      replace h11 := h11.mono hE.ext
      replace h10 := h10.mono hE.ext
      replace h9 := h9.mono hE.ext
      replace h67 := h67.mono hE.ext
      replace hoA67 := hoA67.mono hE.ext
      replace hd67 := hd67.mono hE.ext
      replace h76 := h76.mono hE.ext
      replace hoA76 := hoA76.mono hE.ext
      replace hd76 := hd76.mono hE.ext
      obtain ⟨cs85, hcl85, hoA85, d85, e85, g85, rfl, hd85⟩ := RSl.at h85 (i := 0) rfl
      refine qq hS (g_move _) ?_
      refine qq hS (g_extract rfl rfl) ?_
      refine qq hS (g_extract (v := .int .i64 _) rfl rfl) ?_
      refine qe (d_alloc (cs := [.bool _, .int .i64 _, .int .i64 _, .slice _ _ _]) hS Try.zeroValue31 rfl) ?_
      clear hS
      rintro _ w_23 ⟨b18, rfl, hS⟩
      refine qe (d_store 0 hS Try.sizeOf31 rfl rfl rfl (vs := [.bool _, .int .i64 _, .int .i64 _, .slice _ _ _]) rfl rfl rfl (Nat.le_of_ble_eq_true rfl) (cs' := [_, _, _, _]) rfl) ?_
      clear hS
      rintro _ w_24 ⟨rfl, hS⟩
      refine qq hS (g_assignv (v := .int .i64 _) rfl) ?_
      refine ol_nil (thenN ?_)
      refine wp_seq ?_
      refine reg ?_
      refine qq hS (g_movev (v := .int .i64 _) rfl) ?_
      refine qq hS (g_movev (v := .int .u8 _) rfl) ?_
      refine qq hS (g_buildv (pl := [(0, 1), (1, 1), (2, 1), (3, 1), (4, 1)]) (cs := [.int .i64 _, .int .i64 _, .int .i64 _, .int .u8 _, .slice _ _ _]) Try.zeroValue53 Try.underlying53 (fun w => by simp [Try.sizeOf3, Try.sizeOf41, Try.sizeOf5]) (mp (v := .int .i64 _) rfl (mp (v := .int .i64 _) rfl (mp (v := .int .u8 _) rfl mp0))) rfl) ?_
      refine qe (d_alloc (cs := [.int .i64 _, .int .i64 _, .int .i64 _, .int .u8 _, .slice _ _ _]) hS Try.zeroValue53 rfl) ?_
      clear hS
      rintro _ w_25 ⟨b20, rfl, hS⟩
      refine qe (d_store 0 hS Try.sizeOf53 rfl rfl rfl (vs := [.int .i64 _, .int .i64 _, .int .i64 _, .int .u8 _, .slice _ _ _]) rfl rfl rfl (Nat.le_of_ble_eq_true rfl) (cs' := [_, _, _, _, _]) rfl) ?_
      clear hS
      rintro _ w_26 ⟨rfl, hS⟩
      refine ol_nil (thenN ?_)
      refine wp_seq ?_
      refine wp_seq ?_
      refine reg ?_
      refine qq hS (g_movev (v := .int .i64 _) rfl) ?_
      refine qq hS (g_eql rfl rfl) ?_
      refine ol_nil (thenN ?_)
      refine cond_f (congrArg Value.bool (by simp; omega)) ?_
      refine wp_skip ?_
      refine thenN ?_
      refine wp_seq ?_
      refine wp_seq ?_
      refine reg ?_
      refine qq hS (g_movev (v := .int .i64 _) rfl) ?_
      refine qq hS (g_neq rfl rfl) ?_
      refine qq hS (g_movev (v := .bool _) rfl) ?_
      refine qqs rfl rfl hS (g_movev (v := .int .i64 _) rfl) ?_
      refine qqs rfl rfl hS (g_neq rfl rfl) ?_
      refine qq hS (g_or rfl rfl (fun _ => rfl)) ?_
      refine qq hS (g_movev (v := .bool _) rfl) ?_
      refine qqs rfl rfl hS (g_movev (v := .int .i64 _) rfl) ?_
      refine qqs rfl rfl hS (g_neq rfl rfl) ?_
      refine qq hS (g_or rfl rfl (fun _ => rfl)) ?_
      refine qq hS (g_movev (v := .bool _) rfl) ?_
      refine qqs rfl rfl hS (g_fieldAddr (o' := 3) Try.underlying31 rfl Try.sizeOf29 rfl rfl rfl) ?_
      refine qqs rfl rfl hS (g_ldO1 3 Try.isAgg29 rfl rfl rfl) ?_
      refine qqs rfl rfl hS (g_lenI rfl Try.underlying29 h67 rfl) ?_
      refine qqs rfl rfl hS (g_neq rfl rfl) ?_
      refine qq hS (g_or rfl rfl (fun _ => rfl)) ?_
      refine qq hS (g_movev (v := .bool _) rfl) ?_
      refine qqs rfl rfl hS (g_fieldAddr (o' := 3) Try.underlying31 rfl Try.sizeOf29 rfl rfl rfl) ?_
      refine qqs rfl rfl hS (g_ldO1 2 Try.isAgg29 rfl rfl rfl) ?_
      refine qqs rfl rfl hS (g_lenI rfl Try.underlying29 h76 rfl) ?_
      refine qqs rfl rfl hS (g_neq rfl rfl) ?_
      refine qq hS (g_or rfl rfl (fun _ => rfl)) ?_
      refine qq hS (g_movev (v := .bool _) rfl) ?_
      refine qqs rfl rfl hS (g_fieldAddr (o' := 3) Try.underlying31 rfl Try.sizeOf29 rfl rfl rfl) ?_
      refine qqs rfl rfl hS (g_ldO1 1 Try.isAgg29 rfl rfl rfl) ?_
      refine qqs rfl rfl hS (g_lenI rfl Try.underlying29 h85 rfl) ?_
      refine qqs rfl rfl hS (g_neq rfl rfl) ?_
      refine qq hS (g_or rfl rfl (fun _ => rfl)) ?_
      refine ol_nil (thenN ?_)
      refine cond_f (rfl) ?_
      refine wp_skip ?_
      refine thenN ?_
      refine wp_seq ?_
      refine draw (.cons 0 .pure (.cons 1 .held (.cons 2 .pure (.cons 3 .held (.cons 4 .held (.cons 5 .eff (.cons 6 .pure (.cons 7 .pure (.cons 8 .held (.cons 9 .pure (.cons 10 .held (.cons 11 .pure (.cons 12 .pure (.cons 13 .pure (.cons 14 .pure (.cons 15 .eff (.cons 16 .pure (.cons 17 .pure (.cons 18 .pure (.cons 19 .held (.cons 20 .pure (.cons 21 .held (.cons 22 .pure (.cons 23 .pure (.cons 24 .pure (.cons 25 .pure (.cons 26 .pure (.cons 27 .eff (.cons 28 .pure (.cons 29 .pure (.cons 30 .pure (.cons 31 .pure (.cons 32 .pure .nil))))))))))))))))))))))))))))))))) mixed (by kernel_rfl) hS ?_
      intro w_27 hS
      refine sp rfl (g_fieldAddr (o' := 3) Try.underlying31 rfl Try.sizeOf29 rfl rfl rfl) ?_
      refine sh rfl (g_ldO1 3 Try.isAgg29 rfl rfl rfl) ?_
      refine sp rfl (g_ixI Try.underlying29 Try.sizeOf53 h67 rfl rfl (by simp) (by simp)) ?_
      refine sh rfl (g_ldE (us := [.int .i64 _, .int .i64 _, .int .i64 _, .int .u8 _, .slice _ _ _]) Try.sizeOf53 Try.isAgg53 hoA67 rfl rfl rfl) ?_
      refine sh rfl (g_ldO 0 (vs := [.int .i64 _, .int .i64 _, .int .i64 _, .int .u8 _, .slice _ _ _]) Try.sizeOf53 Try.isAgg53 rfl rfl rfl rfl) ?_
      have hS0 := hS
      refine se rfl (d_call Try.call24 rfl (sameOp_t ⟨3, 0, k, b, []⟩ ⟨3, 0, k, b, []⟩ d67 _ e67 g67 _ _ _ _ hS.imm hd67 (by intro z hz; first | (simp at hz; done) | (simp at hz; omega) | (simp at hz; obtain ⟨_, rfl⟩ := hz; omega)) RFl.nil (by intro z hz; first | (simp at hz; done) | (simp at hz; omega) | (simp at hz; obtain ⟨_, rfl⟩ := hz; omega)) (by simp [sameOpS]))) ?_
      rintro _ w_28 ⟨rfl, hE⟩
      replace hS := hS.call hE
      refine ⟨_, _, hS0.le hE.ext (List.Sublist.refl _), hS, ?_⟩
      refine sp rfl (g_movev (v := .bool _) rfl) ?_
      refine spt rfl rfl rfl (g_fieldAddr (o' := 3) Try.underlying31 rfl Try.sizeOf29 rfl rfl rfl) ?_
      refine sht rfl rfl rfl (g_ldO1 2 Try.isAgg29 rfl rfl rfl) ?_
      refine spt rfl rfl rfl (g_ixI Try.underlying29 Try.sizeOf53 h76 rfl rfl (by simp) (by simp)) ?_
      refine sht rfl rfl rfl (g_ldE (us := [.int .i64 _, .int .i64 _, .int .i64 _, .int .u8 _, .slice _ _ _]) Try.sizeOf53 Try.isAgg53 hoA76 rfl rfl rfl) ?_
      refine spt rfl rfl rfl (g_movev (v := .int .u8 _) rfl) ?_
      refine spt rfl rfl rfl (g_convi Try.underlying5 Try.underlying3 rfl (by omega) (by omega)) ?_
      refine spt rfl rfl rfl (g_movev (v := .int .i64 _) rfl) ?_
      refine spt rfl rfl rfl (g_buildv (pl := [(0, 1), (1, 1), (2, 1), (3, 1), (4, 1)]) (cs := [.int .i64 _, .int .i64 _, .int .i64 _, .int .u8 _, .slice _ _ _]) Try.zeroValue53 Try.underlying53 (fun w => by simp [Try.sizeOf3, Try.sizeOf41, Try.sizeOf5]) (mp (v := .int .i64 _) rfl (mp (v := .int .i64 _) rfl (mp (v := .int .i64 _) rfl mp0))) rfl) ?_
      have hS0 := hS
      refine Inl.set rfl rfl rfl (d_call Try.call24 rfl (sameOp_t ⟨1, f, k, 0, []⟩ ⟨1, f, k, 0, []⟩ d76 _ e76 g76 _ _ _ _ hS.imm hd76 (by intro z hz; first | (simp at hz; done) | (simp at hz; omega) | (simp at hz; obtain ⟨_, rfl⟩ := hz; omega)) RFl.nil (by intro z hz; first | (simp at hz; done) | (simp at hz; omega) | (simp at hz; obtain ⟨_, rfl⟩ := hz; omega)) (by simp [sameOpS]))) ?_
      rintro _ w_29 ⟨rfl, hE⟩
      replace hS := hS.call hE
      refine ⟨_, _, hS0.le hE.ext (List.Sublist.refl _), hS, ?_⟩
      refine sp rfl (g_and rfl rfl (fun _ => rfl)) ?_
      refine sp rfl (g_movev (v := .bool _) rfl) ?_
      refine spt rfl rfl rfl (g_fieldAddr (o' := 3) Try.underlying31 rfl Try.sizeOf29 rfl rfl rfl) ?_
      refine sht rfl rfl rfl (g_ldO1 1 Try.isAgg29 rfl rfl rfl) ?_
      refine spt rfl rfl rfl (g_ixI Try.underlying29 Try.sizeOf53 h85 rfl rfl (by simp) (by simp)) ?_
      refine sht rfl rfl rfl (g_ldE (us := [.int .i64 _, .int .i64 _, .int .i64 _, .int .u8 _, .slice _ _ _]) Try.sizeOf53 Try.isAgg53 hoA85 rfl rfl rfl) ?_
      refine spt rfl rfl rfl (g_movev (v := .int .u8 _) rfl) ?_
      refine spt rfl rfl rfl (g_convi Try.underlying5 Try.underlying3 rfl (by omega) (by omega)) ?_
      refine spt rfl rfl rfl (g_movev (v := .int .i64 _) rfl) ?_
      refine spt rfl rfl rfl (g_move _) ?_
      refine spt rfl rfl rfl (g_buildv (pl := [(0, 1), (1, 1), (2, 1), (3, 1), (4, 1)]) (cs := [.int .i64 _, .int .i64 _, .int .i64 _, .int .u8 _, .slice _ _ _]) Try.zeroValue53 Try.underlying53 (fun w => by simp [Try.sizeOf3, Try.sizeOf41, Try.sizeOf5]) (mp (v := .int .i64 _) rfl (mp (v := .int .i64 _) rfl (mp (v := .int .i64 _) rfl (mp rfl mp0)))) rfl) ?_
      have hS0 := hS
      refine Inl.set rfl rfl rfl (d_call Try.call24 rfl (sameOp_t ⟨2, f, k, 0, List.replicate k c⟩ ⟨2, f, k, 0, List.replicate k c⟩ d85 _ e85 g85 _ _ _ _ hS.imm hd85 (by intro z hz; first | (simp at hz; done) | (simp at hz; omega) | (simp at hz; obtain ⟨_, rfl⟩ := hz; omega)) h12 (by intro z hz; first | (simp at hz; done) | (simp at hz; omega) | (simp at hz; obtain ⟨_, rfl⟩ := hz; omega)) (by simp [sameOpS]))) ?_
      rintro _ w_30 ⟨rfl, hE⟩
      replace hS := hS.call hE
      refine ⟨_, _, hS0.le hE.ext (List.Sublist.refl _), hS, ?_⟩
      refine sp rfl (g_and rfl rfl (fun _ => rfl)) ?_
      refine sp rfl (g_movev (v := .bool _) rfl) ?_
      refine spt rfl rfl rfl (g_movev (v := .bool _) rfl) ?_
      refine sp rfl (g_and rfl rfl (fun _ => rfl)) ?_
      refine sp rfl (g_assignv (v := .bool _) rfl) ?_
      refine sn (thenN ?_)
      refine wp_ret ?_
      refine ret1 Try.results6 (rv_tmp (v := .bool _) rfl) ?_
      exact ⟨_, rfl, hS.nil⟩

theorem runsLaw_c (n b f : Int) (w0 : World) (I0 : Imm) (hI : Sat I0 w0) (hn : 0 ≤ n ∧ n ≤ 65535) (hb : 0 ≤ b ∧ b ≤ 255) (hf : 0 ≤ f ∧ f ≤ 255) :
    Ctr Try.prog 6 [.int .u16 n, .int .u8 b, .int .u8 f] w0 (fun v w' => ∃ I', v = .bool true ∧ Ext w0 I0 w' I') := by
  by_cases h : (1 + n % 2000).toNat = 1
  · exact runs1_c n b f (1 + n % 2000).toNat w0 I0 hI (by omega) hn hb hf h
  · exact runs2_c n b f (1 + n % 2000).toNat w0 I0 hI (by omega) hn hb hf h

end Go.Proofs.Ytaoodcchleaoeaa
