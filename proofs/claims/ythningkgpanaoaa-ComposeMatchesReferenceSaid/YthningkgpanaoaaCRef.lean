/- inlaylaw09.ComposeMatchesReference: its function answers true. Conditions: arguments are of their kinds. -/
import Derived.Test.YthningkgpanaoaaBase9
namespace Go.Proofs.Ythningkgpanaoaa
open Go Go.RowKit Go.Inl
set_option linter.unusedSimpArgs false
set_option linter.unusedVariables false

set_option maxRecDepth 20000 in
set_option maxHeartbeats 4000000 in
theorem cref_c (ad a0 a1 : Option Addr) (cap m0 m1 : Nat) (l : List RawL) (l0 l1 : List Q2) (w v : Int) (w0 : World) (I0 : Imm) (hI : Sat I0 w0) (hl : RRaws I0 (.slice ad l.length cap) l) (hlw : ∀ x ∈ l, x.wf) (h0 : RFl I0 2 q2C (.slice a0 l0.length m0) l0) (hq0 : ∀ q ∈ l0, q.wf) (h1 : RFl I0 2 q2C (.slice a1 l1.length m1) l1) (hq1 : ∀ q ∈ l1, q.wf) (hw : 0 ≤ w ∧ w ≤ 255) (hv : 0 ≤ v ∧ v ≤ 255) :
    Ctr Try.prog 3 [.slice ad l.length cap, .agg #[.slice a0 l0.length m0, .slice a1 l1.length m1], .agg #[.int .u8 w, .int .u8 v]] w0 (fun v w' => ∃ I', v = .bool true ∧ Ext w0 I0 w' I') := by
  obtain ⟨n, p0, r0, hch, hn0, hn1, hok, hCw, hCl⟩ := chainP_ok (n := 4) hlw (Nat.le_refl _)
  obtain ⟨C, hC⟩ : ∃ C, chainP l 4 = C := ⟨_, rfl⟩
  rw [hC] at hch hCw hCl
  have hCn : 1 ≤ C.length := by rw [hch]; simp
  clear hch hok
  have hCwf : ∀ p ∈ C, p.wf := fun p hp => (hCw p hp).1
  have hAw := allP_wf hCwf
  obtain ⟨A, hA⟩ : ∃ A, allP C = A := ⟨_, rfl⟩
  rw [hA] at hAw
  obtain ⟨i, hi⟩ : ∃ i, w % (C.length : Int) = i := ⟨_, rfl⟩
  obtain ⟨j, hj⟩ : ∃ j, v % (C.length : Int) = j := ⟨_, rfl⟩
  have hi0 : 0 ≤ i := by rw [← hi]; exact Int.emod_nonneg _ (by omega)
  have hi1 : i < C.length := by rw [← hi]; exact Int.emod_lt_of_pos _ (by omega)
  have hj0 : 0 ≤ j := by rw [← hj]; exact Int.emod_nonneg _ (by omega)
  have hj1 : j < C.length := by rw [← hj]; exact Int.emod_lt_of_pos _ (by omega)
  obtain ⟨p, hpi⟩ : ∃ p, C[i.toNat]? = some p := ⟨_, List.getElem?_eq_getElem (by omega)⟩
  obtain ⟨q, hqi⟩ : ∃ q, C[j.toNat]? = some q := ⟨_, List.getElem?_eq_getElem (by omega)⟩
  have hpw := hCwf p (List.mem_of_getElem? hpi)
  have hqw := hCwf q (List.mem_of_getElem? hqi)
  have hFw := composeP_wf hpw hqw
  obtain ⟨F, hF⟩ : ∃ F, composeP p q = F := ⟨_, rfl⟩
  rw [hF] at hFw
  have hs : 0 ≤ 1 + w % 20 ∧ 1 + w % 20 ≤ 65536 := by omega
  have hXw := symsRaw_wf (size := 9) hq0 (by decide)
  have hYw := symsRaw_wf (size := 1 + w % 20) hq1 hs.2
  have hYl := symsRaw_len l1 (1 + w % 20)
  obtain ⟨X, hX⟩ : ∃ X, symsRaw l0 9 = X := ⟨_, rfl⟩
  obtain ⟨Y, hY⟩ : ∃ Y, symsRaw l1 (1 + w % 20) = Y := ⟨_, rfl⟩
  rw [hX] at hXw
  rw [hY] at hYw hYl
  obtain ⟨T, hT⟩ : ∃ T, throughP X Y = T := ⟨_, rfl⟩
  refine fn (n := 121) Try.func3 rfl rfl rfl ?_
  have hS := St.start hI
  refine wp_seq ?_
  refine reg ?_
  refine qe (d_box (cs := [.slice _ _ _, .slice _ _ _]) hS rfl) ?_
  clear hS
  rintro _ w_1 ⟨b4, rfl, hS⟩
  refine qe (d_box (cs := [.int .u8 _, .int .u8 _]) hS rfl) ?_
  clear hS
  rintro _ w_2 ⟨b5, rfl, hS⟩
  refine qq hS (g_assignv (v := .bool _) rfl) ?_
  refine ol_nil (thenN ?_)
  refine wp_seq ?_
  refine reg ?_
  refine qe (d_call Try.call12 rfl (sanity9_c _ _ hS.imm)) ?_
  rintro _ w_3 ⟨I_f, rfl, hE⟩
  replace hS := hS.callE hE
  replace hl := hl.mono hE.ext
  replace h0 := h0.mono hE.ext
  replace h1 := h1.mono hE.ext
  refine qq hS (g_assignv (v := .bool _) rfl) ?_
  refine ol_nil (thenN ?_)
  refine wp_seq ?_
  refine reg ?_
  refine qq hS (g_move _) ?_
  refine qe (d_call Try.call13 rfl (chain_E ad cap l 4 C _ _ hS.imm hl hlw (Nat.le_refl _) hC)) ?_
  rintro _ w_4 ⟨I_f, a27, c27, rfl, hE, h27⟩
  replace hS := hS.callE hE
  replace hl := hl.mono hE.ext
  replace h0 := h0.mono hE.ext
  replace h1 := h1.mono hE.ext
  refine qq hS (g_assign _) ?_
  refine ol_nil (thenN ?_)
  refine wp_seq ?_
  refine reg ?_
  refine qq hS (g_move _) ?_
  refine qe (d_call Try.call14 rfl (all_E a27 _ c27 C A _ _ hS.imm h27 rfl hCwf (by omega) hA)) ?_
  rintro _ w_5 ⟨I_f, a30, m30, c30, rfl, hE, h30⟩
  replace hS := hS.callE hE
  replace hl := hl.mono hE.ext
  replace h0 := h0.mono hE.ext
  replace h1 := h1.mono hE.ext
  replace h27 := h27.mono hE.ext
  refine qq hS (g_move _) ?_
  refine qq hS (g_extract rfl rfl) ?_
  refine qq hS (g_extract (v := .int .i64 _) rfl rfl) ?_
  refine qe (d_alloc (cs := [.bool _, .int .i64 _, .int .i64 _, .slice _ _ _]) hS Try.zeroValue31 rfl) ?_
  clear hS
  rintro _ w_6 ⟨b9, rfl, hS⟩
  refine qe (d_store 0 hS Try.sizeOf31 rfl rfl rfl (vs := [.bool _, .int .i64 _, .int .i64 _, .slice _ _ _]) rfl rfl rfl (Nat.le_of_ble_eq_true rfl) (cs' := [_, _, _, _]) rfl) ?_
  clear hS
  rintro _ w_7 ⟨rfl, hS⟩
  refine qq hS (g_assignv (v := .int .i64 _) rfl) ?_
  refine ol_nil (thenN ?_)
  refine wp_seq ?_
  refine reg ?_
  refine qq hS (g_move _) ?_
  refine qe (d_call Try.call15 rfl (refAll_E a27 _ c27 C A _ _ hS.imm h27 rfl hCwf (by omega) hA)) ?_
  rintro _ w_8 ⟨I_f, a35, m35, c35, rfl, hE, h35⟩
  replace hS := hS.callE hE
  replace hl := hl.mono hE.ext
  replace h0 := h0.mono hE.ext
  replace h1 := h1.mono hE.ext
  replace h27 := h27.mono hE.ext
  replace h30 := h30.mono hE.ext
  refine qq hS (g_move _) ?_
  refine qq hS (g_extract rfl rfl) ?_
  refine qq hS (g_extract (v := .int .i64 _) rfl rfl) ?_
  refine qe (d_alloc (cs := [.bool _, .int .i64 _, .int .i64 _, .slice _ _ _]) hS Try.zeroValue31 rfl) ?_
  clear hS
  rintro _ w_9 ⟨b11, rfl, hS⟩
  refine qe (d_store 0 hS Try.sizeOf31 rfl rfl rfl (vs := [.bool _, .int .i64 _, .int .i64 _, .slice _ _ _]) rfl rfl rfl (Nat.le_of_ble_eq_true rfl) (cs' := [_, _, _, _]) rfl) ?_
  clear hS
  rintro _ w_10 ⟨rfl, hS⟩
  refine qq hS (g_assignv (v := .int .i64 _) rfl) ?_
  refine ol_nil (thenN ?_)
  refine wp_seq ?_
  refine wp_seq ?_
  refine reg ?_
  refine qq hS (g_ldO 1 (vs := [.bool _, .int .i64 _, .int .i64 _, .slice _ _ _]) Try.sizeOf31 Try.isAgg31 rfl rfl rfl rfl) ?_
  refine qq hS (g_ldO 0 (vs := [.bool _, .int .i64 _, .int .i64 _, .slice _ _ _]) Try.sizeOf31 Try.isAgg31 rfl rfl rfl rfl) ?_
  refine qe (d_call Try.call16 rfl (same_T A.1 _ _ _ _ _ _ _ _ hS.imm h30 h35 hAw)) ?_
  rintro _ w_11 ⟨rfl, hE⟩
  replace hS := hS.callE hE
  refine qq hS (g_not rfl) ?_
  refine qq hS (g_movev (v := .bool _) rfl) ?_
  refine qqs rfl rfl hS (g_movev (v := .int .i64 _) rfl) ?_
  refine qqs rfl rfl hS (g_movev (v := .int .i64 _) rfl) ?_
  refine qqs rfl rfl hS (g_neF rfl rfl rfl) ?_
  refine qq hS (g_or rfl rfl (fun _ => rfl)) ?_
  refine ol_nil (thenN ?_)
  refine cond_f (rfl) ?_
  refine wp_skip ?_
  refine thenN ?_
  refine wp_seq ?_
  obtain ⟨cs, hcs4, hpA, hpc⟩ := RSl.at h27 hpi
  obtain ⟨adp, mp_, cp, rfl, hpo⟩ := hpc
  obtain ⟨cs, hds4, hqA, hqc⟩ := RSl.at h27 hqi
  obtain ⟨adq, mq, cq, rfl, hqo⟩ := hqc
  refine drawS [true, true, true, true] (.cons 0 .pure (.cons 1 .pure (.cons 2 .held (.cons 3 .pure (.cons 4 .pure (.cons 5 .pure (.cons 6 .pure (.cons 7 .pure (.cons 8 .held (.cons 9 .pure (.cons 10 .pure (.cons 11 .held (.cons 12 .pure (.cons 13 .pure (.cons 14 .pure (.cons 15 .pure (.cons 16 .pure (.cons 17 .held (.fork 18 (.cons 19 .eff (.cons 20 .eff (.cons 21 .eff .nil))) 19 (.cons 18 .eff (.cons 20 .eff (.cons 21 .eff .nil)))))))))))))))))))))) mixed (by kernel_rfl) hS ?_
  intro w_12 hS
  refine sp rfl (g_move _) ?_
  refine sp rfl (g_indexArr (o' := 0) Try.underlying25 Try.sizeOf5 rfl rfl (by decide) (by decide) rfl) ?_
  refine sh rfl (g_ldO1 2 Try.isAgg5 rfl rfl rfl) ?_
  refine sp rfl (g_convi Try.underlying5 Try.underlying3 rfl (by omega) (by omega)) ?_
  refine sp rfl (g_move _) ?_
  refine sp rfl (g_lenI rfl Try.underlying27 h27 rfl) ?_
  refine sp rfl (g_remE rfl rfl (by omega) (by omega) hi) ?_
  refine sp rfl (g_ixI Try.underlying27 Try.sizeOf31 h27 rfl rfl (hi0) (hi1)) ?_
  refine sh rfl (g_ldE (us := [.bool _, .int .i64 _, .int .i64 _, .slice _ _ _]) Try.sizeOf31 Try.isAgg31 hpA rfl rfl rfl) ?_
  refine sp rfl (g_move _) ?_
  refine sp rfl (g_indexArr (o' := 1) Try.underlying25 Try.sizeOf5 rfl rfl (by decide) (by decide) rfl) ?_
  refine sh rfl (g_ldO1 2 Try.isAgg5 rfl rfl rfl) ?_
  refine sp rfl (g_convi Try.underlying5 Try.underlying3 rfl (by omega) (by omega)) ?_
  refine sp rfl (g_move _) ?_
  refine sp rfl (g_lenI rfl Try.underlying27 h27 rfl) ?_
  refine sp rfl (g_remE rfl rfl (by omega) (by omega) hj) ?_
  refine sp rfl (g_ixI Try.underlying27 Try.sizeOf31 h27 rfl rfl (hj0) (hj1)) ?_
  refine sh rfl (g_ldE (us := [.bool _, .int .i64 _, .int .i64 _, .slice _ _ _]) Try.sizeOf31 Try.isAgg31 hqA rfl rfl rfl) ?_
  refine sk ?_ ?_
  ·
    have hS0 := hS
    refine se rfl (d_alloc (cs := [.bool _, .int .i64 _, .int .i64 _, .slice _ _ _]) hS Try.zeroValue31 rfl) ?_
    rintro _ w_13 ⟨b13, rfl, hS⟩
    refine ⟨_, _, fun _ h => h, hS.sel [false, true, true, true, true], ?_⟩
    have hS0 := hS
    refine se rfl (d_alloc (cs := [.bool _, .int .i64 _, .int .i64 _, .slice _ _ _]) hS Try.zeroValue31 rfl) ?_
    rintro _ w_14 ⟨b14, rfl, hS⟩
    refine ⟨_, _, fun _ h => h, hS.sel [false, false, true, true, true, true], ?_⟩
    have hS0 := hS
    refine se rfl (d_store 1 hS Try.sizeOf31 rfl rfl rfl (vs := [.bool _, .int .i64 _, .int .i64 _, .slice _ _ _]) rfl rfl rfl (Nat.le_of_ble_eq_true rfl) (cs' := [_, _, _, _]) rfl) ?_
    rintro _ w_15 ⟨rfl, hS⟩
    refine ⟨_, _, fun _ h => h, hS.sel [false, false, true, true, true, true], ?_⟩
    have hS0 := hS
    refine se rfl (d_store 0 hS Try.sizeOf31 rfl rfl rfl (vs := [.bool _, .int .i64 _, .int .i64 _, .slice _ _ _]) rfl rfl rfl (Nat.le_of_ble_eq_true rfl) (cs' := [_, _, _, _]) rfl) ?_
    rintro _ w_16 ⟨rfl, hS⟩
    refine ⟨_, _, fun _ h => h, hS.sel [false, false, true, true, true, true], ?_⟩
    refine sn (thenN ?_)
    refine wp_seq ?_
    refine reg ?_
    refine qq hS (g_ldO 1 (vs := [.bool _, .int .i64 _, .int .i64 _, .slice _ _ _]) Try.sizeOf31 Try.isAgg31 rfl rfl rfl rfl) ?_
    refine qq hS (g_ldO 0 (vs := [.bool _, .int .i64 _, .int .i64 _, .slice _ _ _]) Try.sizeOf31 Try.isAgg31 rfl rfl rfl rfl) ?_
    refine qe (d_call Try.call17 rfl (compose_E p q F _ _ _ _ _ _ _ _ hS.imm hpo hpw hqo hqw hF)) ?_
    rintro _ w_17 ⟨I_f, a68, m68, c68, rfl, hE, h68⟩
    replace hS := hS.callE hE
    replace hl := hl.mono hE.ext
    replace h0 := h0.mono hE.ext
    replace h1 := h1.mono hE.ext
    replace h27 := h27.mono hE.ext
    replace h30 := h30.mono hE.ext
    replace h35 := h35.mono hE.ext
    replace hpo := hpo.mono hE.ext
    replace hqo := hqo.mono hE.ext
    refine qq hS (g_move _) ?_
    refine qq hS (g_extract rfl rfl) ?_
    refine qq hS (g_extract (v := .int .i64 _) rfl rfl) ?_
    refine qe (d_alloc (cs := [.bool _, .int .i64 _, .int .i64 _, .slice _ _ _]) hS Try.zeroValue31 rfl) ?_
    clear hS
    rintro _ w_18 ⟨b15, rfl, hS⟩
    refine qe (d_store 0 hS Try.sizeOf31 rfl rfl rfl (vs := [.bool _, .int .i64 _, .int .i64 _, .slice _ _ _]) rfl rfl rfl (Nat.le_of_ble_eq_true rfl) (cs' := [_, _, _, _]) rfl) ?_
    clear hS
    rintro _ w_19 ⟨rfl, hS⟩
    refine qq hS (g_assignv (v := .int .i64 _) rfl) ?_
    refine ol_nil (thenN ?_)
    refine wp_seq ?_
    refine reg ?_
    refine qq hS (g_ldO 2 (vs := [.bool _, .int .i64 _, .int .i64 _, .slice _ _ _]) Try.sizeOf31 Try.isAgg31 rfl rfl rfl rfl) ?_
    refine qq hS (g_ldO 1 (vs := [.bool _, .int .i64 _, .int .i64 _, .slice _ _ _]) Try.sizeOf31 Try.isAgg31 rfl rfl rfl rfl) ?_
    refine qe (d_call Try.call18 rfl (refCompose_E p q F _ _ _ _ _ _ _ _ hS.imm hpo hpw hqo hqw hF)) ?_
    rintro _ w_20 ⟨I_f, a74, m74, c74, rfl, hE, h74⟩
    replace hS := hS.callE hE
    replace hl := hl.mono hE.ext
    replace h0 := h0.mono hE.ext
    replace h1 := h1.mono hE.ext
    replace h27 := h27.mono hE.ext
    replace h30 := h30.mono hE.ext
    replace h35 := h35.mono hE.ext
    replace hpo := hpo.mono hE.ext
    replace hqo := hqo.mono hE.ext
    replace h68 := h68.mono hE.ext
    refine qq hS (g_move _) ?_
    refine qq hS (g_extract rfl rfl) ?_
    refine qq hS (g_extract (v := .int .i64 _) rfl rfl) ?_
    refine qe (d_alloc (cs := [.bool _, .int .i64 _, .int .i64 _, .slice _ _ _]) hS Try.zeroValue31 rfl) ?_
    clear hS
    rintro _ w_21 ⟨b17, rfl, hS⟩
    refine qe (d_store 0 hS Try.sizeOf31 rfl rfl rfl (vs := [.bool _, .int .i64 _, .int .i64 _, .slice _ _ _]) rfl rfl rfl (Nat.le_of_ble_eq_true rfl) (cs' := [_, _, _, _]) rfl) ?_
    clear hS
    rintro _ w_22 ⟨rfl, hS⟩
    refine qq hS (g_assignv (v := .int .i64 _) rfl) ?_
    refine ol_nil (thenN ?_)
    refine wp_seq ?_
    refine draw (.cons 0 .pure (.cons 1 .held (.cons 3 .pure (.cons 4 .held (.cons 5 .pure (.cons 6 .held (.cons 7 .pure (.cons 8 .pure (.cons 9 .pure (.cons 2 .eff (.cons 10 .eff (.cons 11 .pure (.cons 12 .pure .nil))))))))))))) mixed (by kernel_rfl) hS ?_
    intro w_23 hS
    refine sp rfl (g_indexArr (o' := 0) Try.underlying24 Try.sizeOf23 rfl rfl (by decide) (by decide) rfl) ?_
    refine sh rfl (g_ldO1 7 Try.isAgg23 rfl rfl rfl) ?_
    refine sp rfl (g_indexArr (o' := 1) Try.underlying24 Try.sizeOf23 rfl rfl (by decide) (by decide) rfl) ?_
    refine sh rfl (g_ldO1 7 Try.isAgg23 rfl rfl rfl) ?_
    refine sp rfl (g_indexArr (o' := 0) Try.underlying25 Try.sizeOf5 rfl rfl (by decide) (by decide) rfl) ?_
    refine sh rfl (g_ldO1 6 Try.isAgg5 rfl rfl rfl) ?_
    refine sp rfl (g_convi Try.underlying5 Try.underlying3 rfl (by omega) (by omega)) ?_
    refine sp rfl (g_rem rfl rfl (by omega) (by omega)) ?_
    refine sp rfl (g_add rfl rfl (by omega) (by omega)) ?_
    have hS0 := hS
    refine se rfl (d_call Try.call19 rfl (rawSyms_E a0 m0 l0 9 X _ _ hS.imm h0 hq0 (by decide) hX)) ?_
    rintro _ w_24 ⟨I_f, a79, c79, rfl, hE, h79⟩
    replace hS := hS.call hE
    replace hl := hl.mono hE.ext
    replace h0 := h0.mono hE.ext
    replace h1 := h1.mono hE.ext
    replace h27 := h27.mono hE.ext
    replace h30 := h30.mono hE.ext
    replace h35 := h35.mono hE.ext
    replace hpo := hpo.mono hE.ext
    replace hqo := hqo.mono hE.ext
    replace h68 := h68.mono hE.ext
    replace h74 := h74.mono hE.ext
    refine ⟨_, _, hS0.le hE.ext (List.Sublist.refl _), hS, ?_⟩
    have hS0 := hS
    refine se rfl (d_call Try.call19 rfl (rawSyms_E a1 m1 l1 _ Y _ _ hS.imm h1 hq1 hs hY)) ?_
    rintro _ w_25 ⟨I_f, a87, c87, rfl, hE, h87⟩
    replace hS := hS.call hE
    replace hl := hl.mono hE.ext
    replace h0 := h0.mono hE.ext
    replace h1 := h1.mono hE.ext
    replace h27 := h27.mono hE.ext
    replace h30 := h30.mono hE.ext
    replace h35 := h35.mono hE.ext
    replace hpo := hpo.mono hE.ext
    replace hqo := hqo.mono hE.ext
    replace h68 := h68.mono hE.ext
    replace h74 := h74.mono hE.ext
    replace h79 := h79.mono hE.ext
    refine ⟨_, _, hS0.le hE.ext (List.Sublist.refl _), hS, ?_⟩
    refine sp rfl (g_assign _) ?_
    refine sp rfl (g_assign _) ?_
    refine sn (thenN ?_)
    refine wp_seq ?_
    refine reg ?_
    refine qq hS (g_move _) ?_
    refine qq hS (g_move _) ?_
    refine qe (d_call Try.call20 rfl (through_E _ _ _ _ _ _ X Y T _ _ hS.imm h79 rfl h87 rfl hYw (by omega) hT)) ?_
    rintro _ w_26 ⟨I_f, a91, c91, rfl, hE, h91⟩
    replace hS := hS.callE hE
    replace hl := hl.mono hE.ext
    replace h0 := h0.mono hE.ext
    replace h1 := h1.mono hE.ext
    replace h27 := h27.mono hE.ext
    replace h30 := h30.mono hE.ext
    replace h35 := h35.mono hE.ext
    replace hpo := hpo.mono hE.ext
    replace hqo := hqo.mono hE.ext
    replace h68 := h68.mono hE.ext
    replace h74 := h74.mono hE.ext
    replace h79 := h79.mono hE.ext
    replace h87 := h87.mono hE.ext
    refine qq hS (g_move _) ?_
    refine qq hS (g_extract rfl rfl) ?_
    refine qq hS (g_extract (v := .int .i64 _) rfl rfl) ?_
    refine qq hS (g_assign _) ?_
    refine qq hS (g_assignv (v := .int .i64 _) rfl) ?_
    refine ol_nil (thenN ?_)
    refine wp_seq ?_
    refine reg ?_
    refine qq hS (g_move _) ?_
    refine qq hS (g_move _) ?_
    refine qe (d_call Try.call21 rfl (refThrough_e _ _ _ _ X Y T _ _ hS.imm h79 h87 hYw (by omega) hT)) ?_
    rintro _ w_27 ⟨I_f, a97, c97, rfl, hE, h97⟩
    replace hS := hS.callE hE
    replace hl := hl.mono hE.ext
    replace h0 := h0.mono hE.ext
    replace h1 := h1.mono hE.ext
    replace h27 := h27.mono hE.ext
    replace h30 := h30.mono hE.ext
    replace h35 := h35.mono hE.ext
    replace hpo := hpo.mono hE.ext
    replace hqo := hqo.mono hE.ext
    replace h68 := h68.mono hE.ext
    replace h74 := h74.mono hE.ext
    replace h79 := h79.mono hE.ext
    replace h87 := h87.mono hE.ext
    replace h91 := h91.mono hE.ext
    refine qq hS (g_move _) ?_
    refine qq hS (g_extract rfl rfl) ?_
    refine qq hS (g_extract (v := .int .i64 _) rfl rfl) ?_
    refine qq hS (g_assign _) ?_
    refine qq hS (g_assignv (v := .int .i64 _) rfl) ?_
    refine ol_nil (thenN ?_)
    refine wp_seq ?_
    refine reg ?_
    refine qq hS (g_ldO 1 (vs := [.bool _, .int .i64 _, .int .i64 _, .slice _ _ _]) Try.sizeOf31 Try.isAgg31 rfl rfl rfl rfl) ?_
    refine qq hS (g_ldO 0 (vs := [.bool _, .int .i64 _, .int .i64 _, .slice _ _ _]) Try.sizeOf31 Try.isAgg31 rfl rfl rfl rfl) ?_
    refine qe (d_call Try.call16 rfl (same_T F.1 _ _ _ _ _ _ _ _ hS.imm h68 h74 hFw)) ?_
    rintro _ w_28 ⟨rfl, hE⟩
    replace hS := hS.callE hE
    refine qq hS (g_movev (v := .bool _) rfl) ?_
    refine qqs rfl rfl hS (g_movev (v := .int .i64 _) rfl) ?_
    refine qqs rfl rfl hS (g_movev (v := .int .i64 _) rfl) ?_
    refine qqs rfl rfl hS (g_eqT rfl rfl rfl) ?_
    refine qq hS (g_and rfl rfl (fun _ => rfl)) ?_
    refine qq hS (g_movev (v := .bool _) rfl) ?_
    refine qqs rfl rfl hS (g_move _) ?_
    refine qqs rfl rfl hS (g_move _) ?_
    refine qes rfl rfl (d_call Try.call22 rfl (sameSyms_T _ _ T.1 _ _ hS.imm h91 h97)) ?_
    rintro _ w_29 ⟨rfl, hE⟩
    replace hS := hS.callE hE
    refine qq hS (g_and rfl rfl (fun _ => rfl)) ?_
    refine qq hS (g_movev (v := .bool _) rfl) ?_
    refine qqs rfl rfl hS (g_movev (v := .int .i64 _) rfl) ?_
    refine qqs rfl rfl hS (g_movev (v := .int .i64 _) rfl) ?_
    refine qqs rfl rfl hS (g_eqT rfl rfl rfl) ?_
    refine qq hS (g_and rfl rfl (fun _ => rfl)) ?_
    refine qq hS (g_movev (v := .bool _) rfl) ?_
    refine qqs rfl rfl hS (g_movev (v := .bool _) rfl) ?_
    refine qq hS (g_and rfl rfl (fun _ => rfl)) ?_
    refine qq hS (g_assignv (v := .bool _) rfl) ?_
    refine ol_nil (thenN ?_)
    refine wp_ret ?_
    refine ret1 Try.results3 (rv_tmp (v := .bool _) rfl) ?_
    exact ⟨_, rfl, hS.nil⟩
  ·
    have hS0 := hS
    refine se rfl (d_alloc (cs := [.bool _, .int .i64 _, .int .i64 _, .slice _ _ _]) hS Try.zeroValue31 rfl) ?_
    rintro _ w_30 ⟨b14, rfl, hS⟩
    refine ⟨_, _, fun _ h => h, hS.sel [false, true, true, true, true], ?_⟩
    have hS0 := hS
    refine se rfl (d_alloc (cs := [.bool _, .int .i64 _, .int .i64 _, .slice _ _ _]) hS Try.zeroValue31 rfl) ?_
    rintro _ w_31 ⟨b13, rfl, hS⟩
    refine ⟨_, _, fun _ h => h, hS.sel [false, false, true, true, true, true], ?_⟩
    have hS0 := hS
    refine se rfl (d_store 0 hS Try.sizeOf31 rfl rfl rfl (vs := [.bool _, .int .i64 _, .int .i64 _, .slice _ _ _]) rfl rfl rfl (Nat.le_of_ble_eq_true rfl) (cs' := [_, _, _, _]) rfl) ?_
    rintro _ w_32 ⟨rfl, hS⟩
    refine ⟨_, _, fun _ h => h, hS.sel [false, false, true, true, true, true], ?_⟩
    have hS0 := hS
    refine se rfl (d_store 1 hS Try.sizeOf31 rfl rfl rfl (vs := [.bool _, .int .i64 _, .int .i64 _, .slice _ _ _]) rfl rfl rfl (Nat.le_of_ble_eq_true rfl) (cs' := [_, _, _, _]) rfl) ?_
    rintro _ w_33 ⟨rfl, hS⟩
    refine ⟨_, _, fun _ h => h, hS.sel [false, false, true, true, true, true], ?_⟩
    refine sn (thenN ?_)
    refine wp_seq ?_
    refine reg ?_
    refine qq hS (g_ldO 0 (vs := [.bool _, .int .i64 _, .int .i64 _, .slice _ _ _]) Try.sizeOf31 Try.isAgg31 rfl rfl rfl rfl) ?_
    refine qq hS (g_ldO 1 (vs := [.bool _, .int .i64 _, .int .i64 _, .slice _ _ _]) Try.sizeOf31 Try.isAgg31 rfl rfl rfl rfl) ?_
    refine qe (d_call Try.call17 rfl (compose_E p q F _ _ _ _ _ _ _ _ hS.imm hpo hpw hqo hqw hF)) ?_
    rintro _ w_34 ⟨I_f, a68, m68, c68, rfl, hE, h68⟩
    replace hS := hS.callE hE
    replace hl := hl.mono hE.ext
    replace h0 := h0.mono hE.ext
    replace h1 := h1.mono hE.ext
    replace h27 := h27.mono hE.ext
    replace h30 := h30.mono hE.ext
    replace h35 := h35.mono hE.ext
    replace hpo := hpo.mono hE.ext
    replace hqo := hqo.mono hE.ext
    refine qq hS (g_move _) ?_
    refine qq hS (g_extract rfl rfl) ?_
    refine qq hS (g_extract (v := .int .i64 _) rfl rfl) ?_
    refine qe (d_alloc (cs := [.bool _, .int .i64 _, .int .i64 _, .slice _ _ _]) hS Try.zeroValue31 rfl) ?_
    clear hS
    rintro _ w_35 ⟨b15, rfl, hS⟩
    refine qe (d_store 0 hS Try.sizeOf31 rfl rfl rfl (vs := [.bool _, .int .i64 _, .int .i64 _, .slice _ _ _]) rfl rfl rfl (Nat.le_of_ble_eq_true rfl) (cs' := [_, _, _, _]) rfl) ?_
    clear hS
    rintro _ w_36 ⟨rfl, hS⟩
    refine qq hS (g_assignv (v := .int .i64 _) rfl) ?_
    refine ol_nil (thenN ?_)
    refine wp_seq ?_
    refine reg ?_
    refine qq hS (g_ldO 1 (vs := [.bool _, .int .i64 _, .int .i64 _, .slice _ _ _]) Try.sizeOf31 Try.isAgg31 rfl rfl rfl rfl) ?_
    refine qq hS (g_ldO 2 (vs := [.bool _, .int .i64 _, .int .i64 _, .slice _ _ _]) Try.sizeOf31 Try.isAgg31 rfl rfl rfl rfl) ?_
    refine qe (d_call Try.call18 rfl (refCompose_E p q F _ _ _ _ _ _ _ _ hS.imm hpo hpw hqo hqw hF)) ?_
    rintro _ w_37 ⟨I_f, a74, m74, c74, rfl, hE, h74⟩
    replace hS := hS.callE hE
    replace hl := hl.mono hE.ext
    replace h0 := h0.mono hE.ext
    replace h1 := h1.mono hE.ext
    replace h27 := h27.mono hE.ext
    replace h30 := h30.mono hE.ext
    replace h35 := h35.mono hE.ext
    replace hpo := hpo.mono hE.ext
    replace hqo := hqo.mono hE.ext
    replace h68 := h68.mono hE.ext
    refine qq hS (g_move _) ?_
    refine qq hS (g_extract rfl rfl) ?_
    refine qq hS (g_extract (v := .int .i64 _) rfl rfl) ?_
    refine qe (d_alloc (cs := [.bool _, .int .i64 _, .int .i64 _, .slice _ _ _]) hS Try.zeroValue31 rfl) ?_
    clear hS
    rintro _ w_38 ⟨b17, rfl, hS⟩
    refine qe (d_store 0 hS Try.sizeOf31 rfl rfl rfl (vs := [.bool _, .int .i64 _, .int .i64 _, .slice _ _ _]) rfl rfl rfl (Nat.le_of_ble_eq_true rfl) (cs' := [_, _, _, _]) rfl) ?_
    clear hS
    rintro _ w_39 ⟨rfl, hS⟩
    refine qq hS (g_assignv (v := .int .i64 _) rfl) ?_
    refine ol_nil (thenN ?_)
    refine wp_seq ?_
    refine draw (.cons 0 .pure (.cons 1 .held (.cons 3 .pure (.cons 4 .held (.cons 5 .pure (.cons 6 .held (.cons 7 .pure (.cons 8 .pure (.cons 9 .pure (.cons 2 .eff (.cons 10 .eff (.cons 11 .pure (.cons 12 .pure .nil))))))))))))) mixed (by kernel_rfl) hS ?_
    intro w_40 hS
    refine sp rfl (g_indexArr (o' := 0) Try.underlying24 Try.sizeOf23 rfl rfl (by decide) (by decide) rfl) ?_
    refine sh rfl (g_ldO1 7 Try.isAgg23 rfl rfl rfl) ?_
    refine sp rfl (g_indexArr (o' := 1) Try.underlying24 Try.sizeOf23 rfl rfl (by decide) (by decide) rfl) ?_
    refine sh rfl (g_ldO1 7 Try.isAgg23 rfl rfl rfl) ?_
    refine sp rfl (g_indexArr (o' := 0) Try.underlying25 Try.sizeOf5 rfl rfl (by decide) (by decide) rfl) ?_
    refine sh rfl (g_ldO1 6 Try.isAgg5 rfl rfl rfl) ?_
    refine sp rfl (g_convi Try.underlying5 Try.underlying3 rfl (by omega) (by omega)) ?_
    refine sp rfl (g_rem rfl rfl (by omega) (by omega)) ?_
    refine sp rfl (g_add rfl rfl (by omega) (by omega)) ?_
    have hS0 := hS
    refine se rfl (d_call Try.call19 rfl (rawSyms_E a0 m0 l0 9 X _ _ hS.imm h0 hq0 (by decide) hX)) ?_
    rintro _ w_41 ⟨I_f, a79, c79, rfl, hE, h79⟩
    replace hS := hS.call hE
    replace hl := hl.mono hE.ext
    replace h0 := h0.mono hE.ext
    replace h1 := h1.mono hE.ext
    replace h27 := h27.mono hE.ext
    replace h30 := h30.mono hE.ext
    replace h35 := h35.mono hE.ext
    replace hpo := hpo.mono hE.ext
    replace hqo := hqo.mono hE.ext
    replace h68 := h68.mono hE.ext
    replace h74 := h74.mono hE.ext
    refine ⟨_, _, hS0.le hE.ext (List.Sublist.refl _), hS, ?_⟩
    have hS0 := hS
    refine se rfl (d_call Try.call19 rfl (rawSyms_E a1 m1 l1 _ Y _ _ hS.imm h1 hq1 hs hY)) ?_
    rintro _ w_42 ⟨I_f, a87, c87, rfl, hE, h87⟩
    replace hS := hS.call hE
    replace hl := hl.mono hE.ext
    replace h0 := h0.mono hE.ext
    replace h1 := h1.mono hE.ext
    replace h27 := h27.mono hE.ext
    replace h30 := h30.mono hE.ext
    replace h35 := h35.mono hE.ext
    replace hpo := hpo.mono hE.ext
    replace hqo := hqo.mono hE.ext
    replace h68 := h68.mono hE.ext
    replace h74 := h74.mono hE.ext
    replace h79 := h79.mono hE.ext
    refine ⟨_, _, hS0.le hE.ext (List.Sublist.refl _), hS, ?_⟩
    refine sp rfl (g_assign _) ?_
    refine sp rfl (g_assign _) ?_
    refine sn (thenN ?_)
    refine wp_seq ?_
    refine reg ?_
    refine qq hS (g_move _) ?_
    refine qq hS (g_move _) ?_
    refine qe (d_call Try.call20 rfl (through_E _ _ _ _ _ _ X Y T _ _ hS.imm h79 rfl h87 rfl hYw (by omega) hT)) ?_
    rintro _ w_43 ⟨I_f, a91, c91, rfl, hE, h91⟩
    replace hS := hS.callE hE
    replace hl := hl.mono hE.ext
    replace h0 := h0.mono hE.ext
    replace h1 := h1.mono hE.ext
    replace h27 := h27.mono hE.ext
    replace h30 := h30.mono hE.ext
    replace h35 := h35.mono hE.ext
    replace hpo := hpo.mono hE.ext
    replace hqo := hqo.mono hE.ext
    replace h68 := h68.mono hE.ext
    replace h74 := h74.mono hE.ext
    replace h79 := h79.mono hE.ext
    replace h87 := h87.mono hE.ext
    refine qq hS (g_move _) ?_
    refine qq hS (g_extract rfl rfl) ?_
    refine qq hS (g_extract (v := .int .i64 _) rfl rfl) ?_
    refine qq hS (g_assign _) ?_
    refine qq hS (g_assignv (v := .int .i64 _) rfl) ?_
    refine ol_nil (thenN ?_)
    refine wp_seq ?_
    refine reg ?_
    refine qq hS (g_move _) ?_
    refine qq hS (g_move _) ?_
    refine qe (d_call Try.call21 rfl (refThrough_e _ _ _ _ X Y T _ _ hS.imm h79 h87 hYw (by omega) hT)) ?_
    rintro _ w_44 ⟨I_f, a97, c97, rfl, hE, h97⟩
    replace hS := hS.callE hE
    replace hl := hl.mono hE.ext
    replace h0 := h0.mono hE.ext
    replace h1 := h1.mono hE.ext
    replace h27 := h27.mono hE.ext
    replace h30 := h30.mono hE.ext
    replace h35 := h35.mono hE.ext
    replace hpo := hpo.mono hE.ext
    replace hqo := hqo.mono hE.ext
    replace h68 := h68.mono hE.ext
    replace h74 := h74.mono hE.ext
    replace h79 := h79.mono hE.ext
    replace h87 := h87.mono hE.ext
    replace h91 := h91.mono hE.ext
    refine qq hS (g_move _) ?_
    refine qq hS (g_extract rfl rfl) ?_
    refine qq hS (g_extract (v := .int .i64 _) rfl rfl) ?_
    refine qq hS (g_assign _) ?_
    refine qq hS (g_assignv (v := .int .i64 _) rfl) ?_
    refine ol_nil (thenN ?_)
    refine wp_seq ?_
    refine reg ?_
    refine qq hS (g_ldO 1 (vs := [.bool _, .int .i64 _, .int .i64 _, .slice _ _ _]) Try.sizeOf31 Try.isAgg31 rfl rfl rfl rfl) ?_
    refine qq hS (g_ldO 0 (vs := [.bool _, .int .i64 _, .int .i64 _, .slice _ _ _]) Try.sizeOf31 Try.isAgg31 rfl rfl rfl rfl) ?_
    refine qe (d_call Try.call16 rfl (same_T F.1 _ _ _ _ _ _ _ _ hS.imm h68 h74 hFw)) ?_
    rintro _ w_45 ⟨rfl, hE⟩
    replace hS := hS.callE hE
    refine qq hS (g_movev (v := .bool _) rfl) ?_
    refine qqs rfl rfl hS (g_movev (v := .int .i64 _) rfl) ?_
    refine qqs rfl rfl hS (g_movev (v := .int .i64 _) rfl) ?_
    refine qqs rfl rfl hS (g_eqT rfl rfl rfl) ?_
    refine qq hS (g_and rfl rfl (fun _ => rfl)) ?_
    refine qq hS (g_movev (v := .bool _) rfl) ?_
    refine qqs rfl rfl hS (g_move _) ?_
    refine qqs rfl rfl hS (g_move _) ?_
    refine qes rfl rfl (d_call Try.call22 rfl (sameSyms_T _ _ T.1 _ _ hS.imm h91 h97)) ?_
    rintro _ w_46 ⟨rfl, hE⟩
    replace hS := hS.callE hE
    refine qq hS (g_and rfl rfl (fun _ => rfl)) ?_
    refine qq hS (g_movev (v := .bool _) rfl) ?_
    refine qqs rfl rfl hS (g_movev (v := .int .i64 _) rfl) ?_
    refine qqs rfl rfl hS (g_movev (v := .int .i64 _) rfl) ?_
    refine qqs rfl rfl hS (g_eqT rfl rfl rfl) ?_
    refine qq hS (g_and rfl rfl (fun _ => rfl)) ?_
    refine qq hS (g_movev (v := .bool _) rfl) ?_
    refine qqs rfl rfl hS (g_movev (v := .bool _) rfl) ?_
    refine qq hS (g_and rfl rfl (fun _ => rfl)) ?_
    refine qq hS (g_assignv (v := .bool _) rfl) ?_
    refine ol_nil (thenN ?_)
    refine wp_ret ?_
    refine ret1 Try.results3 (rv_tmp (v := .bool _) rfl) ?_
    exact ⟨_, rfl, hS.nil⟩

end Go.Proofs.Ythningkgpanaoaa

