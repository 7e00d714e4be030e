/- inlaylaw14.PackLengths: its function answers true. Conditions: arguments are of their kinds. -/
import Derived.Test.YtdgnojckkjfhfaaDoorMk14
namespace Go.Proofs.YtdgnojckkjfhfaaDoor
open Go Go.RowKit Go.Inl
set_option linter.unusedSimpArgs false
set_option linter.unusedVariables false

set_option maxRecDepth 20000 in
set_option maxHeartbeats 4000000 in
theorem plengths_c (r : Int) (ad : Option Addr) (cap : Nat) (l : List Q4) (md : Option Addr) (mc : Nat) (ms : List Int) (lf : Bool) (w0 : World) (I0 : Imm) (hI : Sat I0 w0) (hr : 0 ≤ r ∧ r ≤ 255) (h4 : RFl I0 4 q4C (.slice ad l.length cap) l) (hq : ∀ q ∈ l, q.wf) (hm : RBytes I0 (.slice md ms.length mc) ms) (hmb : ∀ y ∈ ms, 0 ≤ y ∧ y ≤ 255) :
    Ctr Tryd.prog 6 [.agg #[.int .u8 r, .slice ad l.length cap], .slice md ms.length mc, .bool lf] w0 (fun v w' => ∃ I', v = .bool true ∧ Ext w0 I0 w' I') := by
  obtain ⟨p, B, hM⟩ := mk14_of hq hr lf
  have hB1 := hM.len
  have hB2 := hM.ge

  refine fn (n := 54) Tryd.func6 rfl rfl rfl ?_
  have hS := St.start hI
  refine wpIn_seq ?_
  refine reg ?_
  refine qe (d_box (cs := [.int .u8 _, .slice _ _ _]) hS rfl) ?_
  clear hS
  rintro _ w_1 ⟨b3, rfl, hS⟩
  refine qq hS (g_assignv (v := .bool _) rfl) ?_
  refine ol_nil (thenN ?_)
  refine wpIn_seq ?_
  refine reg ?_
  refine qe (d_call Tryd.call9 rfl (sanity14_c _ _ hS.imm)) ?_
  rintro _ w_2 ⟨I_f, rfl, hE⟩
  replace hS := hS.callE hE
  replace h4 := h4.mono hE.ext
  replace hm := hm.mono hE.ext
  refine qq hS (g_assignv (v := .bool _) rfl) ?_
  refine ol_nil (thenN ?_)
  refine wpIn_seq ?_
  refine wpIn_seq ?_
  refine reg ?_
  refine qq hS (g_move _) ?_
  refine qq hS (g_lenI rfl Tryd.underlying25 hm rfl) ?_
  refine qq hS (g_gtr rfl rfl) ?_
  refine ol_nil (thenN ?_)
  refine cond_s rfl ?_ ?_
  ·
    intro hc14
    try simp only [Bool.and_eq_true, Bool.or_eq_true, Bool.not_eq_true', Bool.and_eq_false_imp, Bool.or_eq_false_iff, Bool.not_eq_false', decide_eq_true_eq, decide_eq_false_iff_not] at hc14
    refine wpIn_seq ?_
    refine reg ?_
    refine qq hS (g_movev (v := .bool _) rfl) ?_
    refine qq hS (g_assignv (v := .bool _) rfl) ?_
    refine ol_nil (thenN ?_)
    refine wpIn_ret ?_
    refine thenR ?_
    refine ret1 Tryd.results6 (rv_tmp (v := .bool _) rfl) ?_
    exact ⟨_, rfl, hS.nil⟩
  ·
    intro hc14
    try simp only [Bool.and_eq_true, Bool.or_eq_true, Bool.not_eq_true', Bool.and_eq_false_imp, Bool.or_eq_false_iff, Bool.not_eq_false', decide_eq_true_eq, decide_eq_false_iff_not] at hc14
    refine wpIn_skip ?_
    refine thenN ?_
    refine wpIn_seq ?_
    refine reg ?_
    refine qq hS (g_ldO 0 (vs := [.int .u8 _, .slice _ _ _]) Tryd.sizeOf24 Tryd.isAgg24 rfl rfl rfl rfl) ?_
    refine qq hS (g_movev (v := .bool _) rfl) ?_
    refine qe (d_call Tryd.call10 rfl (made14_c r lf p ad cap l _ _ hS.imm h4 hq hr hM.eq)) ?_
    rintro _ w_3 ⟨I_f, a19, m19, c19, rfl, hE, h19⟩
    replace hS := hS.callE hE
    replace h4 := h4.mono hE.ext
    replace hm := hm.mono hE.ext
    refine qe (d_call Tryd.call11 rfl (packB_c p B _ _ _ _ _ hS.imm h19 hM.wf hM.chk hM.pk)) ?_
    rintro _ w_4 ⟨I_f, a20, c20, rfl, hE, h20⟩
    replace hS := hS.callE hE
    replace h4 := h4.mono hE.ext
    replace hm := hm.mono hE.ext
    replace h19 := h19.mono hE.ext
    refine qq hS (g_move _) ?_
    refine qq hS (g_extract rfl rfl) ?_
    refine qq hS (g_extract (v := .int .i64 _) rfl rfl) ?_
    refine qq hS (g_assign _) ?_
    refine qq hS (g_assignv (v := .int .i64 _) rfl) ?_
    refine ol_nil (thenN ?_)
    refine wpIn_seq ?_
    refine wpIn_seq ?_
    refine reg ?_
    refine qq hS (g_movev (v := .int .i64 _) rfl) ?_
    refine qq hS (g_neq rfl rfl) ?_
    refine qq hS (g_movev (v := .bool _) rfl) ?_
    refine qqs rfl rfl hS (g_move _) ?_
    refine qqs rfl rfl hS (g_lenI rfl Tryd.underlying25 h20 rfl) ?_
    refine qqs rfl rfl hS (g_gtF14 rfl rfl (by omega)) ?_
    refine qq hS (g_or rfl rfl (fun _ => rfl)) ?_
    refine ol_nil (thenN ?_)
    refine cond_f (rfl) ?_
    refine wpIn_skip ?_
    refine thenN ?_
    refine wpIn_seq ?_
    refine wpIn_seq ?_
    refine reg ?_
    refine qq hS (g_assignv (v := .int .i64 _) rfl) ?_
    refine ol_nil (thenN ?_)
    refine wpIn_block ?_
    refine loop (fun (k : Nat) σ w => okS σ [(1, .slice md ms.length mc), (7, .bool true), (8, .slice a20 B.length c20), (10, .int .i64 k)] ∧ ∃ I, St [] w0 I0 I w [] ∧ k ≤ B.length ∧ RBytes I (.slice a20 B.length c20) B ∧ RBytes I (.slice md ms.length mc) ms) (fun k => B.length - k) (0) ?_ ?_
    ·
      exact ⟨⟨rfl, rfl, rfl, rfl, trivial⟩, _, hS.sel [false], by omega, h20, hm⟩
    ·
      rintro k σ w_l ⟨hs, I, hS, hk0, h20, hm⟩
      rw [← upds_self hs]; clear hs
      refine wpIn_seq ?_
      refine wpIn_seq ?_
      refine reg ?_
      refine qq hS (g_movev (v := .int .i64 _) rfl) ?_
      refine qq hS (g_move _) ?_
      refine qq hS (g_lenI rfl Tryd.underlying25 h20 rfl) ?_
      refine qq hS (g_lss rfl rfl) ?_
      refine ol_nil (thenN ?_)
      refine cond_s rfl ?_ ?_
      ·
        intro hc33
        try simp only [Bool.and_eq_true, Bool.or_eq_true, Bool.not_eq_true', Bool.and_eq_false_imp, Bool.or_eq_false_iff, Bool.not_eq_false', decide_eq_true_eq, decide_eq_false_iff_not] at hc33
        have hs1 : RBytes _ _ _ := (RSl.resl2 h20 0 k (by omega) (by omega)).1
        rw [List.drop_zero] at hs1
        obtain ⟨a1, c1, hv1, _⟩ := hs1.len
        rw [hv1] at hs1
        rw [List.length_take, Nat.min_eq_left (by omega)] at hv1 hs1
        have hcc := (RSl.resl2 h20 B.length B.length (Nat.le_refl _) (Nat.le_refl _)).2.1
        have hN : UnpN (B.take k) := by have := unp_pre (k := k) hM.wf hM.chk (by rw [hM.pk]; omega); rwa [hM.pk] at this
        refine wpIn_skip ?_
        refine thenN ?_
        refine wpIn_seq ?_
        refine wpIn_block ?_
        refine wpIn_seq ?_
        refine reg ?_
        refine qq hS (g_move _) ?_
        refine qq hS (g_movev (v := .int .i64 _) rfl) ?_
        refine qq hS (g_castT (g_sliceHN (h0 := k) Tryd.underlying25 Tryd.sizeOf5 rfl rfl (by omega) (by omega) (by omega)) hv1) ?_
        refine qe (d_call Tryd.call18 rfl (refN_c (B.take k) hN _ _ _ _ _ hS.imm (by rw [List.length_take]; omega) hs1)) ?_
        rintro _ w_5 ⟨I_f, rfl, hE⟩
        replace hS := hS.callE hE
        replace h20 := h20.mono hE.ext
        replace hm := hm.mono hE.ext
        refine qq hS (g_not rfl) ?_
        refine ol_nil (thenN ?_)
        refine cond_f (rfl) ?_
        refine wpIn_skip ?_
        refine blkN (thenN ?_)
        refine reg ?_
        refine qq hS (g_movev (v := .int .i64 _) rfl) ?_
        refine qq hS (g_add rfl rfl (by omega) (by omega)) ?_
        refine qq hS (g_assignv (v := .int .i64 _) rfl) ?_
        refine ol_nil (thenN ?_)
        exact ⟨k + 1, _, rfl, ⟨⟨rfl, rfl, rfl, rfl, trivial⟩, _, hS.sel [], by omega, h20, hm⟩, by omega⟩
      ·
        intro hc33
        try simp only [Bool.and_eq_true, Bool.or_eq_true, Bool.not_eq_true', Bool.and_eq_false_imp, Bool.or_eq_false_iff, Bool.not_eq_false', decide_eq_true_eq, decide_eq_false_iff_not] at hc33
        refine wpIn_exit ?_
        refine thenE (thenE (blkE ?_))
        refine thenN ?_
        refine wpIn_seq ?_
        refine (Classical.em (ms = [])).elim (fun hm0 => ?_) (fun hm0 => ?_)
        ·
          have hq50 : (false == decide ((0 : Int) < (ms.length : Int))) = true := by rw [hm0]; rfl
          refine reg ?_
          refine qe (d_buildSlice0 hS Tryd.underlying25 Tryd.sizeOf5) ?_
          clear hS
          rintro _ w_6 ⟨hS, b41_, rfl⟩
          refine qq hS (g_move _) ?_
          refine qe (i_appendF 0 hS rfl Tryd.underlying25 info5 rfl rfl rfl rfl byteC_len (fun _ => rfl) h20 rfl (by omega) (by omega)) ?_
          clear hS
          rintro _ w_7 ⟨a43, p43, rfl, hS⟩
          refine qq hS (g_move _) ?_
          refine qe (i_appendF 0 hS rfl Tryd.underlying25 info5 rfl rfl rfl rfl byteC_len (fun _ => rfl) hm rfl (by omega) (by omega)) ?_
          clear hS
          rintro _ w_8 ⟨a45, p45, rfl, hS⟩
          have hF := St.freezeRow (u := .slice a45 (0 + B.length + ms.length) p45) (m := (0 + B.length + ms.length)) (xs := (B ++ ms)) byteC_len (by rw [flat_append]; exact hS.ord [0]) (by rw [List.length_append]; omega)
          clear hS
          obtain ⟨I_hsp, hS, hI_hsp, hsp⟩ := hF
          replace h20 := h20.mono hI_hsp
          replace hm := hm.mono hI_hsp
          refine qe (d_call Tryd.call18 rfl (refY_c (B ++ ms) p (by have := unp_right hM.wf hM.chk; rw [hm0, List.append_nil]; rwa [hM.pk] at this) _ _ _ _ _ hS.imm (by rw [List.length_append]; omega) hsp)) ?_
          rintro _ w_9 ⟨I_f, rfl, hE⟩
          replace hS := hS.callE hE
          replace h20 := h20.mono hE.ext
          replace hm := hm.mono hE.ext
          replace hsp := hsp.mono hE.ext
          refine qq hS (g_move _) ?_
          refine qq hS (g_lenI rfl Tryd.underlying25 hm rfl) ?_
          refine qq hS (g_gtr rfl rfl) ?_
          refine qq hS (g_castT (g_eqlb Tryd.underlying4 rfl rfl) (congrArg Value.bool hq50)) ?_
          refine qq hS (g_movev (v := .bool _) rfl) ?_
          refine qqs rfl rfl hS (g_movev (v := .bool _) rfl) ?_
          refine qq hS (g_and rfl rfl (fun _ => rfl)) ?_
          refine qq hS (g_assignv (v := .bool _) rfl) ?_
          refine ol_nil (thenN ?_)
          refine wpIn_ret ?_
          refine ret1 Tryd.results6 (rv_tmp (v := .bool _) rfl) ?_
          exact ⟨_, rfl, hS.nil⟩
        ·
          have hq50 : (true == decide ((0 : Int) < (ms.length : Int))) = true := by have := List.length_pos_iff.2 hm0; simp; omega
          refine reg ?_
          refine qe (d_buildSlice0 hS Tryd.underlying25 Tryd.sizeOf5) ?_
          clear hS
          rintro _ w_10 ⟨hS, b41_, rfl⟩
          refine qq hS (g_move _) ?_
          refine qe (i_appendF 0 hS rfl Tryd.underlying25 info5 rfl rfl rfl rfl byteC_len (fun _ => rfl) h20 rfl (by omega) (by omega)) ?_
          clear hS
          rintro _ w_11 ⟨a43, p43, rfl, hS⟩
          refine qq hS (g_move _) ?_
          refine qe (i_appendF 0 hS rfl Tryd.underlying25 info5 rfl rfl rfl rfl byteC_len (fun _ => rfl) hm rfl (by omega) (by omega)) ?_
          clear hS
          rintro _ w_12 ⟨a45, p45, rfl, hS⟩
          have hF := St.freezeRow (u := .slice a45 (0 + B.length + ms.length) p45) (m := (0 + B.length + ms.length)) (xs := (B ++ ms)) byteC_len (by rw [flat_append]; exact hS.ord [0]) (by rw [List.length_append]; omega)
          clear hS
          obtain ⟨I_hsp, hS, hI_hsp, hsp⟩ := hF
          replace h20 := h20.mono hI_hsp
          replace hm := hm.mono hI_hsp
          refine qe (d_call Tryd.call18 rfl (refN_c (B ++ ms) (by have := unp_more hM.wf hM.chk hmb hm0; rwa [hM.pk] at this) _ _ _ _ _ hS.imm (by rw [List.length_append]; omega) hsp)) ?_
          rintro _ w_13 ⟨I_f, rfl, hE⟩
          replace hS := hS.callE hE
          replace h20 := h20.mono hE.ext
          replace hm := hm.mono hE.ext
          replace hsp := hsp.mono hE.ext
          refine qq hS (g_move _) ?_
          refine qq hS (g_lenI rfl Tryd.underlying25 hm rfl) ?_
          refine qq hS (g_gtr rfl rfl) ?_
          refine qq hS (g_castT (g_eqlb Tryd.underlying4 rfl rfl) (congrArg Value.bool hq50)) ?_
          refine qq hS (g_movev (v := .bool _) rfl) ?_
          refine qqs rfl rfl hS (g_movev (v := .bool _) rfl) ?_
          refine qq hS (g_and rfl rfl (fun _ => rfl)) ?_
          refine qq hS (g_assignv (v := .bool _) rfl) ?_
          refine ol_nil (thenN ?_)
          refine wpIn_ret ?_
          refine ret1 Tryd.results6 (rv_tmp (v := .bool _) rfl) ?_
          exact ⟨_, rfl, hS.nil⟩

end Go.Proofs.YtdgnojckkjfhfaaDoor

