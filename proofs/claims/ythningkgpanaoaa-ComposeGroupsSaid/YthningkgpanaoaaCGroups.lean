/- inlaylaw09.ComposeGroups: its function answers true. Conditions: arguments are of their kinds. -/
import Derived.Test.YthningkgpanaoaaBase9
namespace Go.Proofs.Ythningkgpanaoaa
open Go Go.RowKit Go.Inl
set_option linter.unusedSimpArgs false
set_option linter.unusedVariables false

set_option maxRecDepth 20000 in
set_option maxHeartbeats 4000000 in
theorem cgroups_c (ad : Option Addr) (cap : Nat) (l : List RawL) (w v : Int) (w0 : World) (I0 : Imm) (hI : Sat I0 w0) (hl : RRaws I0 (.slice ad l.length cap) l) (hlw : ∀ x ∈ l, x.wf) (hw : 0 ≤ w ∧ w ≤ 255) :
    Ctr Try.prog 4 [.slice ad l.length cap, .agg #[.int .u8 w, .int .u8 v]] w0 (fun v w' => ∃ I', v = .bool true ∧ Ext w0 I0 w' I') := by
  obtain ⟨n, p, r, hch, hn0, hn1, hok, hCw, hCl⟩ := chainP_ok (n := 4) hlw (Nat.le_refl _)
  obtain ⟨C, hC⟩ : ∃ C, chainP l 4 = C := ⟨_, rfl⟩
  rw [hC] at hch hCw hCl
  have hokC : ChainOk n C := by rw [hch]; exact hok
  have hCn : 1 ≤ C.length := by rw [hch]; simp
  have hCwf : ∀ p ∈ C, p.wf := fun p hp => (hCw p hp).1
  have hAw := allP_wf hCwf
  have hpi : C[0]? = some p := by rw [hch]; rfl
  have hpw := hCwf p (List.mem_of_getElem? hpi)
  have hall := (allP_ok ⟨hn0, by omega⟩ hok).1
  rw [← hch] at hall
  obtain ⟨F, hF⟩ : ∃ F, formOf false n (foldT (symsOf p.ops) r) = F := ⟨_, rfl⟩
  rw [hF] at hall
  rw [hall] at hAw
  dsimp only at hAw
  refine fn (n := 94) Try.func4 rfl rfl rfl ?_
  have hS := St.start hI
  refine wp_seq ?_
  refine reg ?_
  refine qe (d_box (cs := [.int .u8 _, .int .u8 _]) hS rfl) ?_
  clear hS
  rintro _ w_1 ⟨b3, rfl, hS⟩
  refine qq hS (g_assignv (v := .bool _) rfl) ?_
  refine ol_nil (thenN ?_)
  refine wp_seq ?_
  refine reg ?_
  refine qe (d_call Try.call12 rfl (sanity9_c _ _ hS.imm)) ?_
  rintro _ w_2 ⟨I_f, rfl, hE⟩
  replace hS := hS.callE hE
  replace hl := hl.mono hE.ext
  refine qq hS (g_assignv (v := .bool _) rfl) ?_
  refine ol_nil (thenN ?_)
  refine wp_seq ?_
  refine reg ?_
  refine qq hS (g_move _) ?_
  refine qe (d_call Try.call13 rfl (chain_E ad cap l 4 C _ _ hS.imm hl hlw (Nat.le_refl _) hC)) ?_
  rintro _ w_3 ⟨I_f, a20, c20, rfl, hE, h20⟩
  replace hS := hS.callE hE
  replace hl := hl.mono hE.ext
  have hc20 := (RSl.resl2 h20 C.length C.length (Nat.le_refl _) (Nat.le_refl _)).2.1
  refine qq hS (g_assign _) ?_
  refine ol_nil (thenN ?_)
  refine wp_seq ?_
  refine reg ?_
  refine qq hS (g_move _) ?_
  refine qe (d_call Try.call14 rfl (all_E a20 _ c20 C (F, 0) _ _ hS.imm h20 rfl hCwf (by omega) hall)) ?_
  rintro _ w_4 ⟨I_f, a23, m23, c23, rfl, hE, h23⟩
  replace hS := hS.callE hE
  replace hl := hl.mono hE.ext
  replace h20 := h20.mono hE.ext
  refine qq hS (g_move _) ?_
  refine qq hS (g_extract rfl rfl) ?_
  refine qq hS (g_extract (v := .int .i64 _) rfl rfl) ?_
  refine qe (d_alloc (cs := [.bool _, .int .i64 _, .int .i64 _, .slice _ _ _]) hS Try.zeroValue31 rfl) ?_
  clear hS
  rintro _ w_5 ⟨b7, rfl, hS⟩
  refine qe (d_store 0 hS Try.sizeOf31 rfl rfl rfl (vs := [.bool _, .int .i64 _, .int .i64 _, .slice _ _ _]) rfl rfl rfl (Nat.le_of_ble_eq_true rfl) (cs' := [_, _, _, _]) rfl) ?_
  clear hS
  rintro _ w_6 ⟨rfl, hS⟩
  refine qq hS (g_assignv (v := .int .i64 _) rfl) ?_
  refine ol_nil (thenN ?_)
  refine wp_seq ?_
  refine wp_seq ?_
  refine reg ?_
  refine qq hS (g_movev (v := .int .i64 _) rfl) ?_
  refine qq hS (g_neq rfl rfl) ?_
  refine ol_nil (thenN ?_)
  refine cond_f (rfl) ?_
  refine wp_skip ?_
  refine thenN ?_
  refine wp_seq ?_
  refine wp_seq ?_
  refine reg ?_
  refine qq hS (g_move _) ?_
  refine qq hS (g_lenI rfl Try.underlying27 h20 rfl) ?_
  refine qq hS (g_lss rfl rfl) ?_
  refine ol_nil (thenN ?_)
  refine cond_s rfl ?_ ?_
  ·
    intro hc30
    try simp only [Bool.and_eq_true, Bool.or_eq_true, Bool.not_eq_true', Bool.and_eq_false_imp, Bool.or_eq_false_iff, Bool.not_eq_false', decide_eq_true_eq, decide_eq_false_iff_not] at hc30
    have hlen := congrArg List.length hch
    rw [List.length_cons] at hlen
    have hr0 : r = [] := List.length_eq_zero_iff.1 (by omega)
    have hform : formP p = (F, 0) := by
      obtain ⟨c1, c2, c3, c4, c5⟩ := hok
      rw [formP_ok c2 c4, c3, c1, ← hF, hr0]
      rfl
    obtain ⟨cs, hcs4, hpA, hpc⟩ := RSl.at h20 hpi
    obtain ⟨adp, mp_, cp, rfl, hpo⟩ := hpc
    refine wp_seq ?_
    refine reg ?_
    refine qq hS (g_move _) ?_
    refine qq hS (g_ixI Try.underlying27 Try.sizeOf31 h20 rfl rfl (by decide) (by omega)) ?_
    refine qq hS (g_ldE (us := [.bool _, .int .i64 _, .int .i64 _, .slice _ _ _]) Try.sizeOf31 Try.isAgg31 hpA rfl rfl rfl) ?_
    refine qe (d_call Try.call23 rfl (form_F p adp mp_ cp (F, 0) _ _ hS.imm hpo hpw hform)) ?_
    rintro _ w_7 ⟨I_f, a35, m35, c35, rfl, hE, h35⟩
    replace hS := hS.callE hE
    replace hl := hl.mono hE.ext
    replace h20 := h20.mono hE.ext
    replace h23 := h23.mono hE.ext
    replace hpo := hpo.mono hE.ext
    refine qq hS (g_move _) ?_
    refine qq hS (g_extract rfl rfl) ?_
    refine qq hS (g_extract (v := .int .i64 _) rfl rfl) ?_
    refine qe (d_alloc (cs := [.bool _, .int .i64 _, .int .i64 _, .slice _ _ _]) hS Try.zeroValue31 rfl) ?_
    clear hS
    rintro _ w_8 ⟨b9, rfl, hS⟩
    refine qe (d_store 0 hS Try.sizeOf31 rfl rfl rfl (vs := [.bool _, .int .i64 _, .int .i64 _, .slice _ _ _]) rfl rfl rfl (Nat.le_of_ble_eq_true rfl) (cs' := [_, _, _, _]) rfl) ?_
    clear hS
    rintro _ w_9 ⟨rfl, hS⟩
    refine qq hS (g_assignv (v := .int .i64 _) rfl) ?_
    refine ol_nil (thenN ?_)
    refine wp_seq ?_
    refine reg ?_
    refine qq hS (g_movev (v := .int .i64 _) rfl) ?_
    refine qq hS (g_eqT rfl rfl rfl) ?_
    refine qq hS (g_movev (v := .bool _) rfl) ?_
    refine qqs rfl rfl hS (g_ldO 0 (vs := [.bool _, .int .i64 _, .int .i64 _, .slice _ _ _]) Try.sizeOf31 Try.isAgg31 rfl rfl rfl rfl) ?_
    refine qqs rfl rfl hS (g_ldO 1 (vs := [.bool _, .int .i64 _, .int .i64 _, .slice _ _ _]) Try.sizeOf31 Try.isAgg31 rfl rfl rfl rfl) ?_
    refine qes rfl rfl (d_call Try.call16 rfl (same_T F _ _ _ _ _ _ _ _ hS.imm h35 h23 hAw)) ?_
    rintro _ w_10 ⟨rfl, hE⟩
    replace hS := hS.callE hE
    refine qq hS (g_and rfl rfl (fun _ => rfl)) ?_
    refine qq hS (g_movev (v := .bool _) rfl) ?_
    refine qqs rfl rfl hS (g_movev (v := .bool _) rfl) ?_
    refine qq hS (g_and rfl rfl (fun _ => rfl)) ?_
    refine qq hS (g_assignv (v := .bool _) rfl) ?_
    refine ol_nil (thenN ?_)
    refine wp_ret ?_
    refine thenR ?_
    refine ret1 Try.results4 (rv_tmp (v := .bool _) rfl) ?_
    exact ⟨_, rfl, hS.nil⟩
  ·
    intro hc30
    try simp only [Bool.and_eq_true, Bool.or_eq_true, Bool.not_eq_true', Bool.and_eq_false_imp, Bool.or_eq_false_iff, Bool.not_eq_false', decide_eq_true_eq, decide_eq_false_iff_not] at hc30
    obtain ⟨j, hj⟩ : ∃ j, w % ((C.length : Int) - 1) = j := ⟨_, rfl⟩
    have hj0 : 0 ≤ j := by rw [← hj]; exact Int.emod_nonneg _ (by omega)
    have hj1 : j < (C.length : Int) - 1 := by rw [← hj]; exact Int.emod_lt_of_pos _ (by omega)
    obtain ⟨k, hk⟩ : ∃ k : Nat, (1 + j).toNat = k := ⟨_, rfl⟩
    obtain ⟨A, B, F', hA, hB, hAB, hF'⟩ := groups (n := n) (C := C) (k := k) ⟨hn0, by omega⟩ hokC (by omega) (by omega)
    have hFF : F' = F := by rw [hall] at hF'; exact (Prod.mk.inj hF').1.symm
    rw [hFF] at hAB
    have hAw2 := allP_wf (l := C.take k) (fun p hp => hCwf p (List.mem_of_mem_take hp))
    rw [hA] at hAw2
    have hBw2 := allP_wf (l := C.drop k) (fun p hp => hCwf p (List.mem_of_mem_drop hp))
    rw [hB] at hBw2
    dsimp only at hAw2 hBw2
    refine wp_skip ?_
    refine thenN ?_
    refine wp_seq ?_
    refine reg ?_
    refine qq hS (g_indexArr (o' := 0) Try.underlying25 Try.sizeOf5 rfl rfl (by decide) (by decide) rfl) ?_
    refine qq hS (g_ldO1 1 Try.isAgg5 rfl rfl rfl) ?_
    refine qq hS (g_convi Try.underlying5 Try.underlying3 rfl (by omega) (by omega)) ?_
    refine qq hS (g_move _) ?_
    refine qq hS (g_lenI rfl Try.underlying27 h20 rfl) ?_
    refine qq hS (g_sub rfl rfl (by omega) (by omega)) ?_
    refine qq hS (g_remE rfl rfl (by omega) (by omega) hj) ?_
    refine qq hS (g_add rfl rfl (by omega) (by omega)) ?_
    refine qq hS (g_assignv (v := .int .i64 _) rfl) ?_
    refine ol_nil (thenN ?_)
    refine wp_seq ?_
    refine reg ?_
    refine qq hS (g_move _) ?_
    refine qq hS (g_movev (v := .int .i64 _) rfl) ?_
    refine qq hS (g_sliceHN (h0 := k) Try.underlying27 Try.sizeOf31 rfl rfl (by omega) (by omega) (by omega)) ?_
    refine qe (d_call Try.call14 rfl (all_E _ _ _ (C.take k) (A, 0) _ _ hS.imm (RSl.slH h20 k (by omega)) (by rw [List.length_take]; omega) (fun p hp => hCwf p (List.mem_of_mem_take hp)) (by rw [List.length_take]; omega) hA)) ?_
    rintro _ w_11 ⟨I_f, a60, m60, c60, rfl, hE, h60⟩
    replace hS := hS.callE hE
    replace hl := hl.mono hE.ext
    replace h20 := h20.mono hE.ext
    replace h23 := h23.mono hE.ext
    refine qq hS (g_move _) ?_
    refine qq hS (g_extract rfl rfl) ?_
    refine qq hS (g_extract (v := .int .i64 _) rfl rfl) ?_
    refine qe (d_alloc (cs := [.bool _, .int .i64 _, .int .i64 _, .slice _ _ _]) hS Try.zeroValue31 rfl) ?_
    clear hS
    rintro _ w_12 ⟨b12, rfl, hS⟩
    refine qe (d_store 0 hS Try.sizeOf31 rfl rfl rfl (vs := [.bool _, .int .i64 _, .int .i64 _, .slice _ _ _]) rfl rfl rfl (Nat.le_of_ble_eq_true rfl) (cs' := [_, _, _, _]) rfl) ?_
    clear hS
    rintro _ w_13 ⟨rfl, hS⟩
    refine qq hS (g_assignv (v := .int .i64 _) rfl) ?_
    refine ol_nil (thenN ?_)
    refine wp_seq ?_
    refine reg ?_
    refine qq hS (g_move _) ?_
    refine qq hS (g_movev (v := .int .i64 _) rfl) ?_
    refine qq hS (g_sliceLN (l0 := k) Try.underlying27 Try.sizeOf31 rfl rfl (by omega) (by omega) (by omega)) ?_
    refine qe (d_call Try.call14 rfl (all_E _ _ _ (C.drop k) (B, 0) _ _ hS.imm (h20.slL k (by omega)) (by rw [List.length_drop]) (fun p hp => hCwf p (List.mem_of_mem_drop hp)) (by rw [List.length_drop]; omega) hB)) ?_
    rintro _ w_14 ⟨I_f, a67, m67, c67, rfl, hE, h67⟩
    replace hS := hS.callE hE
    replace hl := hl.mono hE.ext
    replace h20 := h20.mono hE.ext
    replace h23 := h23.mono hE.ext
    replace h60 := h60.mono hE.ext
    refine qq hS (g_move _) ?_
    refine qq hS (g_extract rfl rfl) ?_
    refine qq hS (g_extract (v := .int .i64 _) rfl rfl) ?_
    refine qe (d_alloc (cs := [.bool _, .int .i64 _, .int .i64 _, .slice _ _ _]) hS Try.zeroValue31 rfl) ?_
    clear hS
    rintro _ w_15 ⟨b14, rfl, hS⟩
    refine qe (d_store 0 hS Try.sizeOf31 rfl rfl rfl (vs := [.bool _, .int .i64 _, .int .i64 _, .slice _ _ _]) rfl rfl rfl (Nat.le_of_ble_eq_true rfl) (cs' := [_, _, _, _]) rfl) ?_
    clear hS
    rintro _ w_16 ⟨rfl, hS⟩
    refine qq hS (g_assignv (v := .int .i64 _) rfl) ?_
    refine ol_nil (thenN ?_)
    refine wp_seq ?_
    refine reg ?_
    refine qq hS (g_ldO 1 (vs := [.bool _, .int .i64 _, .int .i64 _, .slice _ _ _]) Try.sizeOf31 Try.isAgg31 rfl rfl rfl rfl) ?_
    refine qq hS (g_ldO 0 (vs := [.bool _, .int .i64 _, .int .i64 _, .slice _ _ _]) Try.sizeOf31 Try.isAgg31 rfl rfl rfl rfl) ?_
    refine qe (d_call Try.call17 rfl (compose_E A B (F, 0) _ _ _ _ _ _ _ _ hS.imm h60 hAw2 h67 hBw2 hAB)) ?_
    rintro _ w_17 ⟨I_f, a73, m73, c73, rfl, hE, h73⟩
    replace hS := hS.callE hE
    replace hl := hl.mono hE.ext
    replace h20 := h20.mono hE.ext
    replace h23 := h23.mono hE.ext
    replace h60 := h60.mono hE.ext
    replace h67 := h67.mono hE.ext
    refine qq hS (g_move _) ?_
    refine qq hS (g_extract rfl rfl) ?_
    refine qq hS (g_extract (v := .int .i64 _) rfl rfl) ?_
    refine qe (d_alloc (cs := [.bool _, .int .i64 _, .int .i64 _, .slice _ _ _]) hS Try.zeroValue31 rfl) ?_
    clear hS
    rintro _ w_18 ⟨b16, rfl, hS⟩
    refine qe (d_store 0 hS Try.sizeOf31 rfl rfl rfl (vs := [.bool _, .int .i64 _, .int .i64 _, .slice _ _ _]) rfl rfl rfl (Nat.le_of_ble_eq_true rfl) (cs' := [_, _, _, _]) rfl) ?_
    clear hS
    rintro _ w_19 ⟨rfl, hS⟩
    refine qq hS (g_assignv (v := .int .i64 _) rfl) ?_
    refine ol_nil (thenN ?_)
    refine wp_seq ?_
    refine reg ?_
    refine qq hS (g_movev (v := .int .i64 _) rfl) ?_
    refine qq hS (g_eqT rfl rfl rfl) ?_
    refine qq hS (g_movev (v := .bool _) rfl) ?_
    refine qqs rfl rfl hS (g_movev (v := .int .i64 _) rfl) ?_
    refine qqs rfl rfl hS (g_eqT rfl rfl rfl) ?_
    refine qq hS (g_and rfl rfl (fun _ => rfl)) ?_
    refine qq hS (g_movev (v := .bool _) rfl) ?_
    refine qqs rfl rfl hS (g_movev (v := .int .i64 _) rfl) ?_
    refine qqs rfl rfl hS (g_eqT rfl rfl rfl) ?_
    refine qq hS (g_and rfl rfl (fun _ => rfl)) ?_
    refine qq hS (g_movev (v := .bool _) rfl) ?_
    refine qqs rfl rfl hS (g_ldO 0 (vs := [.bool _, .int .i64 _, .int .i64 _, .slice _ _ _]) Try.sizeOf31 Try.isAgg31 rfl rfl rfl rfl) ?_
    refine qqs rfl rfl hS (g_ldO 3 (vs := [.bool _, .int .i64 _, .int .i64 _, .slice _ _ _]) Try.sizeOf31 Try.isAgg31 rfl rfl rfl rfl) ?_
    refine qes rfl rfl (d_call Try.call16 rfl (same_T F _ _ _ _ _ _ _ _ hS.imm h73 h23 hAw)) ?_
    rintro _ w_20 ⟨rfl, hE⟩
    replace hS := hS.callE hE
    refine qq hS (g_and rfl rfl (fun _ => rfl)) ?_
    refine qq hS (g_movev (v := .bool _) rfl) ?_
    refine qqs rfl rfl hS (g_movev (v := .bool _) rfl) ?_
    refine qq hS (g_and rfl rfl (fun _ => rfl)) ?_
    refine qq hS (g_assignv (v := .bool _) rfl) ?_
    refine ol_nil (thenN ?_)
    refine wp_ret ?_
    refine ret1 Try.results4 (rv_tmp (v := .bool _) rfl) ?_
    exact ⟨_, rfl, hS.nil⟩

end Go.Proofs.Ythningkgpanaoaa

