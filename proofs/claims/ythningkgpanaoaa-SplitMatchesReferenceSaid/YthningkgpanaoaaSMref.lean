/- inlaylaw12.SplitMatchesReference: its function answers true. Conditions: arguments are of their kinds. -/
import Derived.Test.YthningkgpanaoaaBase12
namespace Go.Proofs.Ythningkgpanaoaa
open Go Go.RowKit Go.Inl
set_option linter.unusedSimpArgs false
set_option linter.unusedVariables false

set_option maxRecDepth 20000 in
set_option maxHeartbeats 4000000 in
theorem smref_c (ad sd : Option Addr) (cap scap : Nat) (l : List RawL) (s : List R1L) (u v : Int) (w0 : World) (I0 : Imm) (hI : Sat I0 w0) (hl : RRaws I0 (.slice ad l.length cap) l) (hlw : ∀ x ∈ l, x.wf) (hs : RFl I0 4 r1C (.slice sd s.length scap) s) (hsw : ∀ r ∈ s, r.wf) (hu : -128 ≤ u ∧ u ≤ 127) (hv : -128 ≤ v ∧ v ≤ 127) :
    Ctr Try.prog 9 [.slice ad l.length cap, .slice sd s.length scap, .agg #[.int .i8 u, .int .i8 v]] w0 (fun v w' => ∃ I', v = .bool true ∧ Ext w0 I0 w' I') := by
  obtain ⟨hM, hM1, hM4⟩ := many_ok (n := 4) hlw (Nat.le_refl _)
  obtain ⟨C, hC⟩ : ∃ C, manyP l 4 = C := ⟨_, rfl⟩
  rw [hC] at hM hM1 hM4
  have hCw : ∀ p ∈ C, p.wf := fun p hp => (hM p hp).1
  obtain ⟨p, hpi⟩ : ∃ p, C[0]? = some p := ⟨_, List.getElem?_eq_getElem (by omega)⟩
  obtain ⟨hpw, hpk, hpo30, hpf⟩ := hM p (List.mem_of_getElem? hpi)
  have hpo0 := (checkP_ok hpk).2.2.2.2.1
  have ho : p.out ≤ 4096 := by omega
  obtain ⟨ht1, ht2⟩ := tmod3 v
  obtain ⟨N, hN⟩ : ∃ N, (if p.out + v.tmod 3 > 0 then p.out + v.tmod 3 else 0) = N := ⟨_, rfl⟩
  have hNm : Mid N := by rw [← hN]; unfold Mid; split <;> omega
  have hok := madeS_ok N hsw
  obtain ⟨S, hSe⟩ : ∃ S, madeS s N = S := ⟨_, rfl⟩
  rw [hSe] at hok
  have hum : Mid u := by unfold Mid; omega
  have hAw := splitP_wf hpw S
  have hBw := sectorsP_wf hpw u
  have hJw := joinP_wf hCw
  obtain ⟨A, hA⟩ : ∃ A, splitP p S = A := ⟨_, rfl⟩
  obtain ⟨B, hB⟩ : ∃ B, sectorsP p u = B := ⟨_, rfl⟩
  obtain ⟨J, hJ⟩ : ∃ J, joinP C = J := ⟨_, rfl⟩
  rw [hA] at hAw
  rw [hB] at hBw
  rw [hJ] at hJw
  refine fn (n := 108) Try.func9 rfl rfl rfl ?_
  have hS := St.start hI
  refine wpIn_seq ?_
  refine reg ?_
  refine qe (d_box (cs := [.int .i8 _, .int .i8 _]) hS rfl) ?_
  clear hS
  rintro _ w_1 ⟨b5, rfl, hS⟩
  refine qq hS (g_assignv (v := .bool _) rfl) ?_
  refine ol_nil (thenN ?_)
  refine wpIn_seq ?_
  refine reg ?_
  refine qe (d_call Try.call34 rfl (sanity12_c _ _ hS.imm)) ?_
  rintro _ w_2 ⟨I_f, rfl, hE⟩
  replace hS := hS.callE hE
  replace hl := hl.mono hE.ext
  replace hs := hs.mono hE.ext
  refine qq hS (g_assignv (v := .bool _) rfl) ?_
  refine ol_nil (thenN ?_)
  refine wpIn_seq ?_
  refine reg ?_
  refine qq hS (g_move _) ?_
  refine qe (d_call Try.call35 rfl (many_E ad cap l C _ _ hS.imm hl hlw hC)) ?_
  rintro _ w_3 ⟨I_f, a25, c25, rfl, hE, h25⟩
  replace hS := hS.callE hE
  replace hl := hl.mono hE.ext
  replace hs := hs.mono hE.ext
  refine qq hS (g_assign _) ?_
  refine ol_nil (thenN ?_)
  refine wpIn_seq ?_
  obtain ⟨cs, hcs4, hpA, hpc⟩ := RSl.at h25 hpi
  obtain ⟨adp, mp_, cp, rfl, hpo⟩ := hpc
  refine reg ?_
  refine qq hS (g_move _) ?_
  refine qq hS (g_ixI Try.underlying27 Try.sizeOf31 h25 rfl rfl (by decide) (by omega)) ?_
  refine qq hS (g_ldE (us := [.bool _, .int .i64 _, .int .i64 _, .slice _ _ _]) Try.sizeOf31 Try.isAgg31 hpA rfl rfl rfl) ?_
  refine qe (d_alloc (cs := [.bool _, .int .i64 _, .int .i64 _, .slice _ _ _]) hS Try.zeroValue31 rfl) ?_
  clear hS
  rintro _ w_4 ⟨b9, rfl, hS⟩
  refine qe (d_store 0 hS Try.sizeOf31 rfl rfl rfl (vs := [.bool _, .int .i64 _, .int .i64 _, .slice _ _ _]) rfl rfl rfl (Nat.le_of_ble_eq_true rfl) (cs' := [_, _, _, _]) rfl) ?_
  clear hS
  rintro _ w_5 ⟨rfl, hS⟩
  refine ol_nil (thenN ?_)
  refine wpIn_seq ?_
  refine reg ?_
  refine qq hS (g_move _) ?_
  refine qq hS (g_fieldAddr (o' := 2) Try.underlying31 rfl Try.sizeOf3 rfl rfl rfl) ?_
  refine qq hS (g_ldO1 0 Try.isAgg3 rfl rfl rfl) ?_
  refine qq hS (g_indexArr (o' := 1) Try.underlying69 Try.sizeOf50 rfl rfl (by decide) (by decide) rfl) ?_
  refine qq hS (g_ldO1 1 Try.isAgg50 rfl rfl rfl) ?_
  refine qq hS (g_convi Try.underlying50 Try.underlying3 rfl (by omega) (by omega)) ?_
  refine qq hS (g_remz rfl rfl (by decide)) ?_
  refine qq hS (g_add rfl rfl (by omega) (by omega)) ?_
  refine qq hS (g_max rfl rfl) ?_
  refine qe (d_call Try.call36 rfl (made1_E sd scap s _ S _ _ hS.imm hs hsw (by rw [hN]; exact hNm) (by rw [hN]; exact hSe))) ?_
  rintro _ w_6 ⟨I_f, a38, c38, rfl, hE, h38⟩
  replace hS := hS.callE hE
  replace hl := hl.mono hE.ext
  replace hs := hs.mono hE.ext
  replace h25 := h25.mono hE.ext
  replace hpo := hpo.mono hE.ext
  refine qq hS (g_assign _) ?_
  refine ol_nil (thenN ?_)
  refine wpIn_seq ?_
  refine reg ?_
  refine qq hS (g_ldO 0 (vs := [.bool _, .int .i64 _, .int .i64 _, .slice _ _ _]) Try.sizeOf31 Try.isAgg31 rfl rfl rfl rfl) ?_
  refine qq hS (g_move _) ?_
  refine qe (d_call Try.call37 rfl (split_E p S A _ _ _ _ _ _ _ _ hS.imm hpo hpw ho h38 rfl hok hA)) ?_
  rintro _ w_7 ⟨I_f, a42, c42, rfl, hE, h42⟩
  replace hS := hS.callE hE
  replace hl := hl.mono hE.ext
  replace hs := hs.mono hE.ext
  replace h25 := h25.mono hE.ext
  replace hpo := hpo.mono hE.ext
  replace h38 := h38.mono hE.ext
  refine qq hS (g_move _) ?_
  refine qq hS (g_extract rfl rfl) ?_
  refine qq hS (g_extract (v := .int .i64 _) rfl rfl) ?_
  refine qq hS (g_assign _) ?_
  refine qq hS (g_assignv (v := .int .i64 _) rfl) ?_
  refine ol_nil (thenN ?_)
  refine wpIn_seq ?_
  refine reg ?_
  refine qq hS (g_ldO 0 (vs := [.bool _, .int .i64 _, .int .i64 _, .slice _ _ _]) Try.sizeOf31 Try.isAgg31 rfl rfl rfl rfl) ?_
  refine qq hS (g_move _) ?_
  refine qe (d_call Try.call38 rfl (refSplit_E p S A _ _ _ _ _ _ _ _ hS.imm hpo hpw ho h38 rfl hok hA)) ?_
  rintro _ w_8 ⟨I_f, a48, c48, rfl, hE, h48⟩
  replace hS := hS.callE hE
  replace hl := hl.mono hE.ext
  replace hs := hs.mono hE.ext
  replace h25 := h25.mono hE.ext
  replace hpo := hpo.mono hE.ext
  replace h38 := h38.mono hE.ext
  replace h42 := h42.mono hE.ext
  refine qq hS (g_move _) ?_
  refine qq hS (g_extract rfl rfl) ?_
  refine qq hS (g_extract (v := .int .i64 _) rfl rfl) ?_
  refine qq hS (g_assign _) ?_
  refine qq hS (g_assignv (v := .int .i64 _) rfl) ?_
  refine ol_nil (thenN ?_)
  refine wpIn_seq ?_
  refine reg ?_
  refine qq hS (g_ldO 0 (vs := [.bool _, .int .i64 _, .int .i64 _, .slice _ _ _]) Try.sizeOf31 Try.isAgg31 rfl rfl rfl rfl) ?_
  refine qq hS (g_indexArr (o' := 0) Try.underlying69 Try.sizeOf50 rfl rfl (by decide) (by decide) rfl) ?_
  refine qq hS (g_ldO1 1 Try.isAgg50 rfl rfl rfl) ?_
  refine qq hS (g_convi Try.underlying50 Try.underlying3 rfl (by omega) (by omega)) ?_
  refine qe (d_call Try.call39 rfl (sectors_E p u B _ _ _ _ _ hS.imm hpo hpw ho hum hB)) ?_
  rintro _ w_9 ⟨I_f, a56, c56, rfl, hE, h56⟩
  replace hS := hS.callE hE
  replace hl := hl.mono hE.ext
  replace hs := hs.mono hE.ext
  replace h25 := h25.mono hE.ext
  replace hpo := hpo.mono hE.ext
  replace h38 := h38.mono hE.ext
  replace h42 := h42.mono hE.ext
  replace h48 := h48.mono hE.ext
  refine qq hS (g_move _) ?_
  refine qq hS (g_extract rfl rfl) ?_
  refine qq hS (g_extract (v := .int .i64 _) rfl rfl) ?_
  refine qq hS (g_assign _) ?_
  refine qq hS (g_assignv (v := .int .i64 _) rfl) ?_
  refine ol_nil (thenN ?_)
  refine wpIn_seq ?_
  refine reg ?_
  refine qq hS (g_ldO 0 (vs := [.bool _, .int .i64 _, .int .i64 _, .slice _ _ _]) Try.sizeOf31 Try.isAgg31 rfl rfl rfl rfl) ?_
  refine qq hS (g_indexArr (o' := 0) Try.underlying69 Try.sizeOf50 rfl rfl (by decide) (by decide) rfl) ?_
  refine qq hS (g_ldO1 1 Try.isAgg50 rfl rfl rfl) ?_
  refine qq hS (g_convi Try.underlying50 Try.underlying3 rfl (by omega) (by omega)) ?_
  refine qe (d_call Try.call40 rfl (refSectors_E p u B _ _ _ _ _ hS.imm hpo hpw ho hum hB)) ?_
  rintro _ w_10 ⟨I_f, a64, c64, rfl, hE, h64⟩
  replace hS := hS.callE hE
  replace hl := hl.mono hE.ext
  replace hs := hs.mono hE.ext
  replace h25 := h25.mono hE.ext
  replace hpo := hpo.mono hE.ext
  replace h38 := h38.mono hE.ext
  replace h42 := h42.mono hE.ext
  replace h48 := h48.mono hE.ext
  replace h56 := h56.mono hE.ext
  refine qq hS (g_move _) ?_
  refine qq hS (g_extract rfl rfl) ?_
  refine qq hS (g_extract (v := .int .i64 _) rfl rfl) ?_
  refine qq hS (g_assign _) ?_
  refine qq hS (g_assignv (v := .int .i64 _) rfl) ?_
  refine ol_nil (thenN ?_)
  refine wpIn_seq ?_
  refine reg ?_
  refine qq hS (g_move _) ?_
  refine qe (d_call Try.call41 rfl (join_E C J _ _ _ _ _ hS.imm h25 rfl hCw (by omega) hJ)) ?_
  rintro _ w_11 ⟨I_f, a69, m69, c69, rfl, hE, h69⟩
  replace hS := hS.callE hE
  replace hl := hl.mono hE.ext
  replace hs := hs.mono hE.ext
  replace h25 := h25.mono hE.ext
  replace hpo := hpo.mono hE.ext
  replace h38 := h38.mono hE.ext
  replace h42 := h42.mono hE.ext
  replace h48 := h48.mono hE.ext
  replace h56 := h56.mono hE.ext
  replace h64 := h64.mono hE.ext
  refine qq hS (g_move _) ?_
  refine qq hS (g_extract rfl rfl) ?_
  refine qq hS (g_extract (v := .int .i64 _) rfl rfl) ?_
  refine qe (d_alloc (cs := [.bool _, .int .i64 _, .int .i64 _, .slice _ _ _]) hS Try.zeroValue31 rfl) ?_
  clear hS
  rintro _ w_12 ⟨b19, rfl, hS⟩
  refine qe (d_store 0 hS Try.sizeOf31 rfl rfl rfl (vs := [.bool _, .int .i64 _, .int .i64 _, .slice _ _ _]) rfl rfl rfl (Nat.le_of_ble_eq_true rfl) (cs' := [_, _, _, _]) rfl) ?_
  clear hS
  rintro _ w_13 ⟨rfl, hS⟩
  refine qq hS (g_assignv (v := .int .i64 _) rfl) ?_
  refine ol_nil (thenN ?_)
  refine wpIn_seq ?_
  refine reg ?_
  refine qq hS (g_move _) ?_
  refine qe (d_call Try.call42 rfl (refJoin_E C J _ _ _ _ _ hS.imm h25 rfl hCw (by omega) hJ)) ?_
  rintro _ w_14 ⟨I_f, a74, m74, c74, rfl, hE, h74⟩
  replace hS := hS.callE hE
  replace hl := hl.mono hE.ext
  replace hs := hs.mono hE.ext
  replace h25 := h25.mono hE.ext
  replace hpo := hpo.mono hE.ext
  replace h38 := h38.mono hE.ext
  replace h42 := h42.mono hE.ext
  replace h48 := h48.mono hE.ext
  replace h56 := h56.mono hE.ext
  replace h64 := h64.mono hE.ext
  replace h69 := h69.mono hE.ext
  refine qq hS (g_move _) ?_
  refine qq hS (g_extract rfl rfl) ?_
  refine qq hS (g_extract (v := .int .i64 _) rfl rfl) ?_
  refine qe (d_alloc (cs := [.bool _, .int .i64 _, .int .i64 _, .slice _ _ _]) hS Try.zeroValue31 rfl) ?_
  clear hS
  rintro _ w_15 ⟨b21, rfl, hS⟩
  refine qe (d_store 0 hS Try.sizeOf31 rfl rfl rfl (vs := [.bool _, .int .i64 _, .int .i64 _, .slice _ _ _]) rfl rfl rfl (Nat.le_of_ble_eq_true rfl) (cs' := [_, _, _, _]) rfl) ?_
  clear hS
  rintro _ w_16 ⟨rfl, hS⟩
  refine qq hS (g_assignv (v := .int .i64 _) rfl) ?_
  refine ol_nil (thenN ?_)
  refine wpIn_seq ?_
  refine reg ?_
  refine qq hS (g_move _) ?_
  refine qq hS (g_move _) ?_
  refine qe (d_call Try.call43 rfl (samePL_T A.1 _ _ _ _ _ _ _ _ hS.imm h42 h48 rfl rfl hAw)) ?_
  rintro _ w_17 ⟨rfl, hE⟩
  replace hS := hS.callE hE
  refine qq hS (g_movev (v := .bool _) rfl) ?_
  refine qqs rfl rfl hS (g_movev (v := .int .i64 _) rfl) ?_
  refine qqs rfl rfl hS (g_movev (v := .int .i64 _) rfl) ?_
  refine qqs rfl rfl hS (g_eqT rfl rfl rfl) ?_
  refine qq hS (g_and rfl rfl (fun _ => rfl)) ?_
  refine qq hS (g_movev (v := .bool _) rfl) ?_
  refine qqs rfl rfl hS (g_move _) ?_
  refine qqs rfl rfl hS (g_move _) ?_
  refine qes rfl rfl (d_call Try.call43 rfl (samePL_T B.1 _ _ _ _ _ _ _ _ hS.imm h56 h64 rfl rfl hBw)) ?_
  rintro _ w_18 ⟨rfl, hE⟩
  replace hS := hS.callE hE
  refine qq hS (g_and rfl rfl (fun _ => rfl)) ?_
  refine qq hS (g_movev (v := .bool _) rfl) ?_
  refine qqs rfl rfl hS (g_movev (v := .int .i64 _) rfl) ?_
  refine qqs rfl rfl hS (g_movev (v := .int .i64 _) rfl) ?_
  refine qqs rfl rfl hS (g_eqT rfl rfl rfl) ?_
  refine qq hS (g_and rfl rfl (fun _ => rfl)) ?_
  refine qq hS (g_movev (v := .bool _) rfl) ?_
  refine qqs rfl rfl hS (g_ldO 1 (vs := [.bool _, .int .i64 _, .int .i64 _, .slice _ _ _]) Try.sizeOf31 Try.isAgg31 rfl rfl rfl rfl) ?_
  refine qqs rfl rfl hS (g_ldO 0 (vs := [.bool _, .int .i64 _, .int .i64 _, .slice _ _ _]) Try.sizeOf31 Try.isAgg31 rfl rfl rfl rfl) ?_
  refine qes rfl rfl (d_call Try.call16 rfl (same_T J.1 _ _ _ _ _ _ _ _ hS.imm h69 h74 hJw)) ?_
  rintro _ w_19 ⟨rfl, hE⟩
  replace hS := hS.callE hE
  refine qq hS (g_and rfl rfl (fun _ => rfl)) ?_
  refine qq hS (g_movev (v := .bool _) rfl) ?_
  refine qqs rfl rfl hS (g_movev (v := .int .i64 _) rfl) ?_
  refine qqs rfl rfl hS (g_movev (v := .int .i64 _) rfl) ?_
  refine qqs rfl rfl hS (g_eqT rfl rfl rfl) ?_
  refine qq hS (g_and rfl rfl (fun _ => rfl)) ?_
  refine qq hS (g_movev (v := .bool _) rfl) ?_
  refine qqs rfl rfl hS (g_movev (v := .bool _) rfl) ?_
  refine qq hS (g_and rfl rfl (fun _ => rfl)) ?_
  refine qq hS (g_assignv (v := .bool _) rfl) ?_
  refine ol_nil (thenN ?_)
  refine wpIn_ret ?_
  refine ret1 Try.results9 (rv_tmp (v := .bool _) rfl) ?_
  exact ⟨_, rfl, hS.nil⟩

end Go.Proofs.Ythningkgpanaoaa

