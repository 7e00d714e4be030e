/- inlaylaw14.PackDamage and PackLengths: their functions answer true. Conditions: arguments are of their kinds. -/
import Derived.Test.YtdgnojckkjfhfaaDoorMk14
namespace Go.Proofs.YtdgnojckkjfhfaaDoor
open Go Go.RowKit Go.Inl
set_option linter.unusedSimpArgs false
set_option linter.unusedVariables false

theorem set_same {b : List Int} {k : Nat} {x : Int} (h : b[k]? = some x) : b.set k x = b := by
  obtain ⟨h1, h2⟩ := List.getElem?_eq_some_iff.1 h
  rw [← h2]; exact List.set_getElem_self h1

set_option maxRecDepth 20000 in
set_option maxHeartbeats 4000000 in
theorem pdamage_c (r : Int) (ad : Option Addr) (cap : Nat) (l : List Q4) (y : Int) (lf : Bool) (w0 : World) (I0 : Imm) (hI : Sat I0 w0) (hr : 0 ≤ r ∧ r ≤ 255) (h4 : RFl I0 4 q4C (.slice ad l.length cap) l) (hq : ∀ q ∈ l, q.wf) (hy : 0 ≤ y ∧ y ≤ 255) :
    Ctr Tryd.prog 5 [.agg #[.int .u8 r, .slice ad l.length cap], .int .u8 y, .bool lf] w0 (fun v w' => ∃ I', v = .bool true ∧ Ext w0 I0 w' I') := by
  obtain ⟨p, B, hM⟩ := mk14_of hq hr lf
  have hB1 := hM.len
  have hB2 := hM.ge

  refine fn (n := 49) Tryd.func5 rfl rfl rfl ?_
  have hS := St.start hI
  refine wpIn_seq ?_
  refine reg ?_
  refine qe (d_box (cs := [.int .u8 _, .slice _ _ _]) hS rfl) ?_
  clear hS
  rintro _ w_1 ⟨b3, rfl, hS⟩
  refine qq hS (g_assignv (v := .bool _) rfl) ?_
  refine ol_nil (thenN ?_)
  refine wpIn_seq ?_
  refine reg ?_
  refine qe (d_call Tryd.call9 rfl (sanity14_c _ _ hS.imm)) ?_
  rintro _ w_2 ⟨I_f, rfl, hE⟩
  replace hS := hS.callE hE
  replace h4 := h4.mono hE.ext
  refine qq hS (g_assignv (v := .bool _) rfl) ?_
  refine ol_nil (thenN ?_)
  refine wpIn_seq ?_
  refine reg ?_
  refine qq hS (g_ldO 0 (vs := [.int .u8 _, .slice _ _ _]) Tryd.sizeOf24 Tryd.isAgg24 rfl rfl rfl rfl) ?_
  refine qq hS (g_movev (v := .bool _) rfl) ?_
  refine qe (d_call Tryd.call10 rfl (made14_c r lf p ad cap l _ _ hS.imm h4 hq hr hM.eq)) ?_
  rintro _ w_3 ⟨I_f, a16, m16, c16, rfl, hE, h16⟩
  replace hS := hS.callE hE
  replace h4 := h4.mono hE.ext
  refine qe (d_call Tryd.call11 rfl (packB_c p B _ _ _ _ _ hS.imm h16 hM.wf hM.chk hM.pk)) ?_
  rintro _ w_4 ⟨I_f, a17, c17, rfl, hE, h17⟩
  replace hS := hS.callE hE
  replace h4 := h4.mono hE.ext
  replace h16 := h16.mono hE.ext
  refine qq hS (g_move _) ?_
  refine qq hS (g_extract rfl rfl) ?_
  refine qq hS (g_extract (v := .int .i64 _) rfl rfl) ?_
  refine qq hS (g_assign _) ?_
  refine qq hS (g_assignv (v := .int .i64 _) rfl) ?_
  refine ol_nil (thenN ?_)
  refine wpIn_seq ?_
  refine wpIn_seq ?_
  refine reg ?_
  refine qq hS (g_movev (v := .int .i64 _) rfl) ?_
  refine qq hS (g_neq rfl rfl) ?_
  refine qq hS (g_movev (v := .bool _) rfl) ?_
  refine qqs rfl rfl hS (g_move _) ?_
  refine qqs rfl rfl hS (g_lenI rfl Tryd.underlying25 h17 rfl) ?_
  refine qqs rfl rfl hS (g_gtF14 rfl rfl (by omega)) ?_
  refine qq hS (g_or rfl rfl (fun _ => rfl)) ?_
  refine ol_nil (thenN ?_)
  refine cond_f (rfl) ?_
  refine wpIn_skip ?_
  refine thenN ?_
  refine wpIn_seq ?_
  refine wpIn_seq ?_
  refine reg ?_
  refine qq hS (g_assignv (v := .int .i64 _) rfl) ?_
  refine ol_nil (thenN ?_)
  refine wpIn_block ?_
  refine loop (fun (k : Nat) σ w => okS σ [(1, .int .u8 y), (7, .bool true), (8, .slice a17 B.length c17), (10, .int .i64 k)] ∧ ∃ I, St [] w0 I0 I w [] ∧ k ≤ B.length ∧ RBytes I (.slice a17 B.length c17) B) (fun k => B.length - k) (0) ?_ ?_
  ·
    exact ⟨⟨rfl, rfl, rfl, rfl, trivial⟩, _, hS.sel [false], by omega, h17⟩
  ·
    rintro k σ w_l ⟨hs, I, hS, hk0, h17⟩
    rw [← upds_self hs]; clear hs
    refine wpIn_seq ?_
    refine wpIn_seq ?_
    refine reg ?_
    refine qq hS (g_movev (v := .int .i64 _) rfl) ?_
    refine qq hS (g_move _) ?_
    refine qq hS (g_lenI rfl Tryd.underlying25 h17 rfl) ?_
    refine qq hS (g_lss rfl rfl) ?_
    refine ol_nil (thenN ?_)
    refine cond_s rfl ?_ ?_
    ·
      intro hc30
      try simp only [Bool.and_eq_true, Bool.or_eq_true, Bool.not_eq_true', Bool.and_eq_false_imp, Bool.or_eq_false_iff, Bool.not_eq_false', decide_eq_true_eq, decide_eq_false_iff_not] at hc30
      obtain ⟨x, hxi⟩ : ∃ x, B[k]? = some x := ⟨_, List.getElem?_eq_getElem (by omega)⟩
      have hxb := hM.byt x (List.mem_of_getElem? hxi)
      refine wpIn_skip ?_
      refine thenN ?_
      refine wpIn_seq ?_
      refine wpIn_block ?_
      refine wpIn_seq ?_
      refine reg ?_
      refine qe (d_buildSlice0 hS Tryd.underlying25 Tryd.sizeOf5) ?_
      clear hS
      rintro _ w_5 ⟨hS, b33_, rfl⟩
      refine qq hS (g_move _) ?_
      refine qe (i_appendF 0 hS rfl Tryd.underlying25 info5 rfl rfl rfl rfl byteC_len (fun _ => rfl) h17 rfl (by omega) (by omega)) ?_
      clear hS
      rintro _ w_6 ⟨a35, p35, rfl, hS⟩
      refine qq hS (g_assign _) ?_
      refine ol_nil (thenN ?_)
      refine wpIn_seq ?_
      refine reg ?_
      refine qq hS (g_move _) ?_
      refine qq hS (g_movev (v := .int .i64 _) rfl) ?_
      refine qq hS (g_ixR 0 Tryd.underlying25 Tryd.sizeOf5 rfl rfl rfl (by omega) (by omega)) ?_
      refine qq hS (g_ldR1 0 Tryd.isAgg5 rfl rfl (flat_get byteC_len B k x hxi 0 _ rfl)) ?_
      refine qq hS (g_movev (v := .int .u8 _) rfl) ?_
      refine qq hS (g_addw rfl rfl) ?_
      refine qq hS (g_ixR 0 Tryd.underlying25 Tryd.sizeOf5 rfl rfl rfl (by omega) (by omega)) ?_
      refine qe (d_storeRow 0 (c := 0) byteC_len (IntKind.u8.wrap (x + y)) hS (Nat.zero_add _) hxi Tryd.sizeOf5 rfl rfl rfl (vs := [.int .u8 _]) rfl rfl rfl rfl rfl) ?_
      clear hS
      rintro _ w_7 ⟨rfl, hS⟩
      refine ol_nil (thenN ?_)
      refine wpIn_seq ?_
      refine (Classical.em (y = 0)).elim (fun hy0 => ?_) (fun hy0 => ?_)
      ·
        have hyw : IntKind.u8.wrap (x + y) = x := by rw [IntKind.wrap_u8]; omega
        have hset : B.set k (IntKind.u8.wrap (x + y)) = B := by rw [hyw]; exact set_same hxi
        have hF := St.freezeRow (u := .slice a35 (0 + B.length) p35) (m := (0 + B.length)) (xs := (B.set k (IntKind.u8.wrap (x + y)))) byteC_len (by exact hS.ord [0]) (by rw [List.length_set]; omega)
        clear hS
        obtain ⟨I_hsp, hS, hI_hsp, hsp⟩ := hF
        replace h17 := h17.mono hI_hsp
        refine reg ?_
        refine qq hS (g_move _) ?_
        refine qe (d_call Tryd.call18 rfl (refY_c B p (by have := unp_right hM.wf hM.chk; rwa [hM.pk] at this) _ _ _ _ _ hS.imm (Nat.zero_add _) (by rw [hset] at hsp; exact hsp))) ?_
        rintro _ w_8 ⟨I_f, rfl, hE⟩
        replace hS := hS.callE hE
        replace h17 := h17.mono hE.ext
        replace hsp := hsp.mono hE.ext
        refine qq hS (g_movev (v := .int .u8 _) rfl) ?_
        refine qq hS (g_neq rfl rfl) ?_
        refine qq hS (g_neqb Tryd.underlying4 rfl rfl) ?_
        refine ol_nil (thenN ?_)
        refine cond_f (congrArg Value.bool (by simp [hy0])) ?_
        refine wpIn_skip ?_
        refine blkN (thenN ?_)
        refine reg ?_
        refine qq hS (g_movev (v := .int .i64 _) rfl) ?_
        refine qq hS (g_add rfl rfl (by omega) (by omega)) ?_
        refine qq hS (g_assignv (v := .int .i64 _) rfl) ?_
        refine ol_nil (thenN ?_)
        exact ⟨k + 1, _, rfl, ⟨⟨rfl, rfl, rfl, rfl, trivial⟩, _, hS.sel [], by omega, h17⟩, by omega⟩
      ·
        have hyw : 0 ≤ IntKind.u8.wrap (x + y) ∧ IntKind.u8.wrap (x + y) ≤ 255 ∧ IntKind.u8.wrap (x + y) ≠ x := by rw [IntKind.wrap_u8]; omega
        have hdm := damage hM.byt (by omega) hM.sum hxi ⟨hyw.1, hyw.2.1⟩ hyw.2.2
        have hN : UnpN (B.set k (IntKind.u8.wrap (x + y))) := unp_sum (fun z hz => by
          rcases List.mem_or_eq_of_mem_set hz with h | rfl
          · exact hM.byt z h
          · exact ⟨hyw.1, hyw.2.1⟩) hdm
        have hF := St.freezeRow (u := .slice a35 (0 + B.length) p35) (m := (0 + B.length)) (xs := (B.set k (IntKind.u8.wrap (x + y)))) byteC_len (by exact hS.ord [0]) (by rw [List.length_set]; omega)
        clear hS
        obtain ⟨I_hsp, hS, hI_hsp, hsp⟩ := hF
        replace h17 := h17.mono hI_hsp
        refine reg ?_
        refine qq hS (g_move _) ?_
        refine qe (d_call Tryd.call18 rfl (refN_c _ hN _ _ _ _ _ hS.imm (by rw [List.length_set]; omega) hsp)) ?_
        rintro _ w_9 ⟨I_f, rfl, hE⟩
        replace hS := hS.callE hE
        replace h17 := h17.mono hE.ext
        replace hsp := hsp.mono hE.ext
        refine qq hS (g_movev (v := .int .u8 _) rfl) ?_
        refine qq hS (g_neq rfl rfl) ?_
        refine qq hS (g_neqb Tryd.underlying4 rfl rfl) ?_
        refine ol_nil (thenN ?_)
        refine cond_f (congrArg Value.bool (by simp [hy0])) ?_
        refine wpIn_skip ?_
        refine blkN (thenN ?_)
        refine reg ?_
        refine qq hS (g_movev (v := .int .i64 _) rfl) ?_
        refine qq hS (g_add rfl rfl (by omega) (by omega)) ?_
        refine qq hS (g_assignv (v := .int .i64 _) rfl) ?_
        refine ol_nil (thenN ?_)
        exact ⟨k + 1, _, rfl, ⟨⟨rfl, rfl, rfl, rfl, trivial⟩, _, hS.sel [], by omega, h17⟩, by omega⟩
    ·
      intro hc30
      try simp only [Bool.and_eq_true, Bool.or_eq_true, Bool.not_eq_true', Bool.and_eq_false_imp, Bool.or_eq_false_iff, Bool.not_eq_false', decide_eq_true_eq, decide_eq_false_iff_not] at hc30
      refine wpIn_exit ?_
      refine thenE (thenE (blkE ?_))
      refine thenN ?_
      refine wpIn_seq ?_
      refine reg ?_
      refine qq hS (g_movev (v := .bool _) rfl) ?_
      refine qq hS (g_assignv (v := .bool _) rfl) ?_
      refine ol_nil (thenN ?_)
      refine wpIn_ret ?_
      refine ret1 Tryd.results5 (rv_tmp (v := .bool _) rfl) ?_
      exact ⟨_, rfl, hS.nil⟩

end Go.Proofs.YtdgnojckkjfhfaaDoor

