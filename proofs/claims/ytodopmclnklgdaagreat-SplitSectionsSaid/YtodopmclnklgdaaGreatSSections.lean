/- inlaylaw12.SplitSections: its function answers true. Conditions: arguments are of their kinds. -/
import Derived.Test.YtodopmclnklgdaaGreatParts12
namespace Go.Proofs.YtodopmclnklgdaaGreat
open Go Go.RowKit Go.Inl
set_option linter.unusedSimpArgs false
set_option linter.unusedVariables false

set_option maxRecDepth 20000 in
set_option maxHeartbeats 4000000 in
theorem ssections_c (r : Int) (ad sd bd : Option Addr) (cap scap capb : Nat) (l : List Q4) (ss : List R1L) (bs : List Int) (w0 : World) (I0 : Imm) (hI : Sat I0 w0) (hr : 0 ≤ r ∧ r ≤ 255) (h4 : RFl I0 4 q4C (.slice ad l.length cap) l) (hq : ∀ q ∈ l, q.wf) (hs : RFl I0 4 r1C (.slice sd ss.length scap) ss) (hsw : ∀ r ∈ ss, r.wf) (hb : RBytes I0 (.slice bd bs.length capb) bs) (hbb : ∀ y ∈ bs, 0 ≤ y ∧ y ≤ 255) :
    Ctr Tryz.prog 11 [.agg #[.int .u8 r, .slice ad l.length cap], .slice sd ss.length scap, .slice bd bs.length capb] w0 (fun v w' => ∃ I', v = .bool true ∧ Ext w0 I0 w' I') := by
  have hr13 : 0 ≤ r % 13 ∧ r % 13 ≤ 65536 := by omega
  have hpw := madeP_wf (size := r % 13) hq hr13
  obtain ⟨hpk, hpo, hpl⟩ := madeP_ok (size := r % 13) hq hr13
  have hlf : (madeP l (r % 13)).lifted = false := rfl
  have hin0 : (madeP l (r % 13)).in_ = r % 13 := rfl
  obtain ⟨p, hp⟩ : ∃ p, madeP l (r % 13) = p := ⟨_, rfl⟩
  rw [hp] at hpw hpk hpo hpl hlf hin0
  obtain ⟨k1, k2, k3, k4, k5, k6, k7⟩ := checkP_ok hpk
  have hOl := inputP_len bs p.in_.toNat
  have hOb := inputP_bd (n := p.in_.toNat) hbb
  obtain ⟨O, hO⟩ : ∃ O, inputP bs p.in_.toNat = O := ⟨_, rfl⟩
  rw [hO] at hOl hOb
  have hin : p.in_ = O.length := by omega
  have hXA := applyP_right hpk hin
  obtain ⟨F, hF⟩ := form_for hpw hpk (by omega)
  have hFb := (form_best hF hpk (by omega)).2
  have hPF := part_for hpw hpk (show p.out ≤ 4096 by omega)
  have hRo : (((symsOf p.ops).map (runB O)).length : Int) = p.out := by rw [List.length_map]; omega
  have hok := madeS_ok p.out hsw
  have hto := madeS_to (n := p.out) hsw
  obtain ⟨S, hSe⟩ : ∃ S, madeS ss p.out = S := ⟨_, rfl⟩
  rw [hSe] at hok hto
  have hSl8 := hok.len
  have hA := splitP_ok hpk hlf hto
  have hDat : ∀ i s, S[i]? = some s → (partsP p (S.map secR))[i]? = some (partP p (secR s)) := fun i s h => by unfold partsP; rw [List.getElem?_map, List.getElem?_map, h]; rfl
  have hDl : (partsP p (S.map secR)).length = S.length := by unfold partsP; rw [List.length_map, List.length_map]
  obtain ⟨D, hD⟩ : ∃ D, partsP p (S.map secR) = D := ⟨_, rfl⟩
  rw [hD] at hA hDl
  simp only [hD] at hDat
  have hDS : (D.length : Int) = S.length := by omega
  have hrl : ((symsOf p.ops).map (runB O)).length = (symsOf p.ops).length := List.length_map _
  refine fn (n := 117) Tryz.func11 rfl rfl rfl ?_
  have hS := St.start hI
  refine wpIn_seq ?_
  refine reg ?_
  refine qe (d_box (cs := [.int .u8 _, .slice _ _ _]) hS rfl) ?_
  clear hS
  rintro _ w_1 ⟨b3, rfl, hS⟩
  refine qq hS (g_assignv (v := .bool _) rfl) ?_
  refine ol_nil (thenN ?_)
  refine wpIn_seq ?_
  refine reg ?_
  refine qe (d_call Tryz.call37 rfl (sanity12_c _ _ hS.imm)) ?_
  rintro _ w_2 ⟨I_f, rfl, hE⟩
  replace hS := hS.callE hE
  replace h4 := h4.mono hE.ext
  replace hs := hs.mono hE.ext
  replace hb := hb.mono hE.ext
  refine qq hS (g_assignv (v := .bool _) rfl) ?_
  refine ol_nil (thenN ?_)
  refine wpIn_seq ?_
  refine reg ?_
  refine qq hS (g_ldO 0 (vs := [.int .u8 _, .slice _ _ _]) Tryz.sizeOf24 Tryz.isAgg24 rfl rfl rfl rfl) ?_
  refine qe (d_call Tryz.call13 rfl (made6_E r ad cap l p _ _ hS.imm h4 hq hr hp)) ?_
  rintro _ w_3 ⟨I_f, a22, m22, c22, rfl, hE, h22⟩
  replace hS := hS.callE hE
  replace h4 := h4.mono hE.ext
  replace hs := hs.mono hE.ext
  replace hb := hb.mono hE.ext
  refine qe (d_alloc (cs := [.bool _, .int .i64 _, .int .i64 _, .slice _ _ _]) hS Tryz.zeroValue29 rfl) ?_
  clear hS
  rintro _ w_4 ⟨b8, rfl, hS⟩
  refine qe (d_store 0 hS Tryz.sizeOf29 rfl rfl rfl (vs := [.bool _, .int .i64 _, .int .i64 _, .slice _ _ _]) rfl rfl rfl (Nat.le_of_ble_eq_true rfl) (cs' := [_, _, _, _]) rfl) ?_
  clear hS
  rintro _ w_5 ⟨rfl, hS⟩
  refine ol_nil (thenN ?_)
  refine wpIn_seq ?_
  refine reg ?_
  refine qq hS (g_move _) ?_
  refine qq hS (g_fieldAddr (o' := 2) Tryz.underlying29 rfl Tryz.sizeOf3 rfl rfl rfl) ?_
  refine qq hS (g_ldO1 0 Tryz.isAgg3 rfl rfl rfl) ?_
  refine qe (d_call Tryz.call42 rfl (made1_E sd scap ss p.out S _ _ hS.imm hs hsw ⟨by omega, by omega⟩ hSe)) ?_
  rintro _ w_6 ⟨I_f, a26, c26, rfl, hE, h26⟩
  replace hS := hS.callE hE
  replace h4 := h4.mono hE.ext
  replace hs := hs.mono hE.ext
  replace hb := hb.mono hE.ext
  replace h22 := h22.mono hE.ext
  refine qq hS (g_assign _) ?_
  refine ol_nil (thenN ?_)
  refine wpIn_seq ?_
  refine reg ?_
  refine qq hS (g_move _) ?_
  refine qq hS (g_fieldAddr (o' := 1) Tryz.underlying29 rfl Tryz.sizeOf3 rfl rfl rfl) ?_
  refine qq hS (g_ldO1 0 Tryz.isAgg3 rfl rfl rfl) ?_
  refine qe (d_call Tryz.call18 rfl (input_E _ _ bs p.in_ O _ _ hS.imm hb hbb ⟨k3, k4⟩ hO)) ?_
  rintro _ w_7 ⟨I_f, a30, c30, rfl, hE, h30⟩
  replace hS := hS.callE hE
  replace h4 := h4.mono hE.ext
  replace hs := hs.mono hE.ext
  replace hb := hb.mono hE.ext
  replace h22 := h22.mono hE.ext
  replace h26 := h26.mono hE.ext
  refine qq hS (g_assign _) ?_
  refine ol_nil (thenN ?_)
  refine wpIn_seq ?_
  refine reg ?_
  refine qq hS (g_move _) ?_
  refine qq hS (g_ldO 0 (vs := [.bool _, .int .i64 _, .int .i64 _, .slice _ _ _]) Tryz.sizeOf29 Tryz.isAgg29 rfl rfl rfl rfl) ?_
  refine qe (d_call Tryz.call19 rfl (apply_L p _ _ _ _ _ _ O ((symsOf p.ops).map (runB O)) 0 _ _ hS.imm h22 hpw hlf h30 rfl hXA)) ?_
  rintro _ w_8 ⟨I_f, a34, c34, rfl, hE, h34⟩
  replace hS := hS.callE hE
  replace h4 := h4.mono hE.ext
  replace hs := hs.mono hE.ext
  replace hb := hb.mono hE.ext
  replace h22 := h22.mono hE.ext
  replace h26 := h26.mono hE.ext
  replace h30 := h30.mono hE.ext
  have hc34 := (RSl.resl2 h34 ((symsOf p.ops).map (runB O)).length ((symsOf p.ops).map (runB O)).length (Nat.le_refl _) (Nat.le_refl _)).2.1
  refine qq hS (g_move _) ?_
  refine qq hS (g_extract rfl rfl) ?_
  refine qq hS (g_extract (v := .int .i64 _) rfl rfl) ?_
  refine qq hS (g_assign _) ?_
  refine qq hS (g_assignv (v := .int .i64 _) rfl) ?_
  refine ol_nil (thenN ?_)
  refine wpIn_seq ?_
  refine reg ?_
  refine qq hS (g_ldO 0 (vs := [.bool _, .int .i64 _, .int .i64 _, .slice _ _ _]) Tryz.sizeOf29 Tryz.isAgg29 rfl rfl rfl rfl) ?_
  refine qq hS (g_move _) ?_
  refine qe (d_call Tryz.call43 rfl (split_K p S D 0 _ _ _ _ _ _ _ _ hS.imm h22 hpw (by omega) h26 rfl hok hA)) ?_
  rintro _ w_9 ⟨I_f, a40, c40, rfl, hE, h40⟩
  replace hS := hS.callE hE
  replace h4 := h4.mono hE.ext
  replace hs := hs.mono hE.ext
  replace hb := hb.mono hE.ext
  replace h22 := h22.mono hE.ext
  replace h26 := h26.mono hE.ext
  replace h30 := h30.mono hE.ext
  replace h34 := h34.mono hE.ext
  refine qq hS (g_move _) ?_
  refine qq hS (g_extract rfl rfl) ?_
  refine qq hS (g_extract (v := .int .i64 _) rfl rfl) ?_
  refine qq hS (g_assign _) ?_
  refine qq hS (g_assignv (v := .int .i64 _) rfl) ?_
  refine ol_nil (thenN ?_)
  refine wpIn_seq ?_
  refine reg ?_
  refine qq hS (g_ldO 0 (vs := [.bool _, .int .i64 _, .int .i64 _, .slice _ _ _]) Tryz.sizeOf29 Tryz.isAgg29 rfl rfl rfl rfl) ?_
  refine qe (d_call Tryz.call14 rfl (form_e p _ _ _ F 0 _ _ hS.imm h22 hpw hF.form)) ?_
  rintro _ w_10 ⟨I_f, a45, m45, c45, rfl, hE, h45⟩
  replace hS := hS.callE hE
  replace h4 := h4.mono hE.ext
  replace hs := hs.mono hE.ext
  replace hb := hb.mono hE.ext
  replace h22 := h22.mono hE.ext
  replace h26 := h26.mono hE.ext
  replace h30 := h30.mono hE.ext
  replace h34 := h34.mono hE.ext
  replace h40 := h40.mono hE.ext
  refine qq hS (g_move _) ?_
  refine qq hS (g_extract rfl rfl) ?_
  refine qq hS (g_extract (v := .int .i64 _) rfl rfl) ?_
  refine qe (d_alloc (cs := [.bool _, .int .i64 _, .int .i64 _, .slice _ _ _]) hS Tryz.zeroValue29 rfl) ?_
  clear hS
  rintro _ w_11 ⟨b15, rfl, hS⟩
  refine qe (d_store 0 hS Tryz.sizeOf29 rfl rfl rfl (vs := [.bool _, .int .i64 _, .int .i64 _, .slice _ _ _]) rfl rfl rfl (Nat.le_of_ble_eq_true rfl) (cs' := [_, _, _, _]) rfl) ?_
  clear hS
  rintro _ w_12 ⟨rfl, hS⟩
  refine qq hS (g_assignv (v := .int .i64 _) rfl) ?_
  refine ol_nil (thenN ?_)
  refine wpIn_seq ?_
  refine wpIn_seq ?_
  refine reg ?_
  refine qq hS (g_movev (v := .int .i64 _) rfl) ?_
  refine qq hS (g_neq rfl rfl) ?_
  refine qq hS (g_movev (v := .bool _) rfl) ?_
  refine qqs rfl rfl hS (g_movev (v := .int .i64 _) rfl) ?_
  refine qqs rfl rfl hS (g_neq rfl rfl) ?_
  refine qq hS (g_or rfl rfl (fun _ => rfl)) ?_
  refine qq hS (g_movev (v := .bool _) rfl) ?_
  refine qqs rfl rfl hS (g_movev (v := .int .i64 _) rfl) ?_
  refine qqs rfl rfl hS (g_neq rfl rfl) ?_
  refine qq hS (g_or rfl rfl (fun _ => rfl)) ?_
  refine qq hS (g_movev (v := .bool _) rfl) ?_
  refine qqs rfl rfl hS (g_move _) ?_
  refine qqs rfl rfl hS (g_lenI rfl Tryz.underlying42 h40 rfl) ?_
  refine qqs rfl rfl hS (g_move _) ?_
  refine qqs rfl rfl hS (g_lenI rfl Tryz.underlying73 h26 rfl) ?_
  refine qqs rfl rfl hS (g_neqF rfl rfl hDS) ?_
  refine qq hS (g_or rfl rfl (fun _ => rfl)) ?_
  refine qq hS (g_movev (v := .bool _) rfl) ?_
  refine qqs rfl rfl hS (g_move _) ?_
  refine qqs rfl rfl hS (g_lenI rfl Tryz.underlying25 h34 rfl) ?_
  refine qqs rfl rfl hS (g_fieldAddr (o' := 2) Tryz.underlying29 rfl Tryz.sizeOf3 rfl rfl rfl) ?_
  refine qqs rfl rfl hS (g_ldO1 1 Tryz.isAgg3 rfl rfl rfl) ?_
  refine qqs rfl rfl hS (g_neqF rfl rfl hRo) ?_
  refine qq hS (g_or rfl rfl (fun _ => rfl)) ?_
  refine ol_nil (thenN ?_)
  refine cond_f (rfl) ?_
  refine wpIn_skip ?_
  refine thenN ?_
  refine wpIn_seq ?_
  refine wpIn_seq ?_
  refine reg ?_
  refine qq hS (g_assignv (v := .int .i64 _) rfl) ?_
  refine ol_nil (thenN ?_)
  refine wpIn_block ?_
  refine loop (fun (i : Nat) σ w => okS σ [(7, .bool true), (9, .slice a26 S.length c26), (10, .slice a30 O.length c30), (11, .slice a34 ((symsOf p.ops).map (runB O)).length c34), (13, .slice a40 D.length c40), (15, .pointer (some ⟨b15, 0, none⟩)), (17, .int .i64 i)] ∧ ∃ I, St [] w0 I0 I w [.cel b15 29 [.bool F.lifted, .int .i64 F.in_, .int .i64 F.out, .slice a45 m45 c45]] ∧ i ≤ S.length ∧ RSecs I (.slice a26 S.length c26) S ∧ RBytes I (.slice a30 O.length c30) O ∧ RBytes I (.slice a34 ((symsOf p.ops).map (runB O)).length c34) ((symsOf p.ops).map (runB O)) ∧ RPats I (.slice a40 D.length c40) D ∧ ROps I (.slice a45 m45 c45) F.ops) (fun i => S.length - i) (0) ?_ ?_
  ·
    exact ⟨⟨rfl, rfl, rfl, rfl, rfl, rfl, rfl, trivial⟩, _, hS.sel [true, false, false], by omega, h26, h30, h34, h40, h45⟩
  ·
    rintro i σ w_l ⟨hs, I, hS, hi0, h26, h30, h34, h40, h45⟩
    rw [← upds_self hs]; clear hs
    refine wpIn_seq ?_
    refine wpIn_seq ?_
    refine reg ?_
    refine qq hS (g_movev (v := .int .i64 _) rfl) ?_
    refine qq hS (g_move _) ?_
    refine qq hS (g_lenI rfl Tryz.underlying42 h40 rfl) ?_
    refine qq hS (g_lss rfl rfl) ?_
    refine ol_nil (thenN ?_)
    refine cond_s rfl ?_ ?_
    ·
      intro hc75
      try simp only [Bool.and_eq_true, Bool.or_eq_true, Bool.not_eq_true', Bool.and_eq_false_imp, Bool.or_eq_false_iff, Bool.not_eq_false', decide_eq_true_eq, decide_eq_false_iff_not] at hc75
      obtain ⟨s, hsi⟩ : ∃ s, S[i]? = some s := ⟨_, List.getElem?_eq_getElem (by omega)⟩
      have hqi := hDat i s hsi
      have hPq := hPF (secR s)
      obtain ⟨q, hqe⟩ : ∃ q, partP p (secR s) = q := ⟨_, rfl⟩
      rw [hqe] at hqi hPq
      have hs1 := (hok.each i s hsi).2.2.1
      have hs2 := hok.ge i s hsi
      have hs3 := hto s (List.mem_of_getElem? hsi)
      have hXq := applyP_right (lo := O) hPq.chk (hPq.in_.trans hin)
      rw [hPq.syms] at hXq
      have hcost : sumC q.ops ≤ sumC F.ops := by rw [hFb]; exact hPq.cost
      obtain ⟨X, hX⟩ : ∃ X, (((symsOf p.ops).take (secR s).2.toNat).drop (secR s).1.toNat).map (runB O) = X := ⟨_, rfl⟩
      rw [hX] at hXq
      have hXe : X = (((symsOf p.ops).map (runB O)).take s.to.toNat).drop s.from_.toNat := by rw [← hX, List.map_drop, List.map_take]; rfl
      have hsA := h26.at hsi
      obtain ⟨cs, hcs4, hqA, hqc⟩ := RSl.at h40 hqi
      obtain ⟨adq, mq, cq, rfl, hqo⟩ := hqc
      refine wpIn_skip ?_
      refine thenN ?_
      refine wpIn_seq ?_
      refine wpIn_block ?_
      refine wpIn_seq ?_
      refine reg ?_
      refine qq hS (g_move _) ?_
      refine qq hS (g_move _) ?_
      refine qq hS (g_movev (v := .int .i64 _) rfl) ?_
      refine qq hS (g_ixI Tryz.underlying42 Tryz.sizeOf29 h40 rfl rfl (by omega) (by omega)) ?_
      refine qq hS (g_ldE (us := [.bool _, .int .i64 _, .int .i64 _, .slice _ _ _]) Tryz.sizeOf29 Tryz.isAgg29 hqA rfl rfl rfl) ?_
      refine qe (d_call Tryz.call19 rfl (apply_L q _ _ _ _ _ _ O X 0 _ _ hS.imm hqo hPq.wf hPq.lif h30 rfl hXq)) ?_
      rintro _ w_13 ⟨I_f, a84, c84, rfl, hE, h84⟩
      replace hS := hS.callE hE
      replace h26 := h26.mono hE.ext
      replace h30 := h30.mono hE.ext
      replace h34 := h34.mono hE.ext
      replace h40 := h40.mono hE.ext
      replace h45 := h45.mono hE.ext
      replace hqo := hqo.mono hE.ext
      replace hqA := hqA.mono hE.ext
      replace hsA := hsA.mono hE.ext
      refine qq hS (g_move _) ?_
      refine qq hS (g_extract rfl rfl) ?_
      refine qq hS (g_extract (v := .int .i64 _) rfl rfl) ?_
      refine qq hS (g_assign _) ?_
      refine qq hS (g_assignv (v := .int .i64 _) rfl) ?_
      refine ol_nil (thenN ?_)
      refine wpIn_seq ?_
      refine draw (.cons 0 .pure (.cons 1 .pure (.cons 2 .pure (.cons 3 .pure (.cons 4 .pure (.cons 5 .pure (.cons 6 .pure (.cons 7 .pure (.cons 8 .pure (.cons 9 .held (.cons 10 .pure (.cons 11 .pure (.cons 12 .pure (.cons 13 .pure (.cons 14 .held (.cons 15 .pure (.cons 16 .eff (.cons 17 .pure (.cons 18 .pure (.cons 19 .pure (.cons 20 .pure (.cons 21 .pure (.cons 22 .pure (.cons 23 .held (.cons 25 .held (.cons 24 .eff (.cons 26 .eff (.cons 27 .pure (.cons 28 .pure .nil))))))))))))))))))))))))))))) mixed (by kernel_rfl) hS ?_
      intro w_14 hS
      refine sp rfl (g_movev (v := .int .i64 _) rfl) ?_
      refine sp rfl (g_neq rfl rfl) ?_
      refine sp rfl (g_movev (v := .bool _) rfl) ?_
      refine spt rfl rfl rfl (g_move _) ?_
      refine spt rfl rfl rfl (g_move _) ?_
      refine spt rfl rfl rfl (g_move _) ?_
      refine spt rfl rfl rfl (g_movev (v := .int .i64 _) rfl) ?_
      refine spt rfl rfl rfl (g_ixI Tryz.underlying73 Tryz.sizeOf77 h26 rfl rfl (by omega) (by omega)) ?_
      refine spt rfl rfl rfl (g_fieldE (c' := 1) Tryz.underlying77 rfl Tryz.sizeOf3 rfl rfl rfl) ?_
      refine sht rfl rfl rfl (g_ldE1 Tryz.isAgg3 hsA rfl rfl) ?_
      refine spt rfl rfl rfl (g_move _) ?_
      refine spt rfl rfl rfl (g_movev (v := .int .i64 _) rfl) ?_
      refine spt rfl rfl rfl (g_ixI Tryz.underlying73 Tryz.sizeOf77 h26 rfl rfl (by omega) (by omega)) ?_
      refine spt rfl rfl rfl (g_fieldE (c' := 2) Tryz.underlying77 rfl Tryz.sizeOf3 rfl rfl rfl) ?_
      refine sht rfl rfl rfl (g_ldE1 Tryz.isAgg3 hsA rfl rfl) ?_
      refine spt rfl rfl rfl (g_slice2N (l0 := s.from_.toNat) (h0 := s.to.toNat) Tryz.underlying25 Tryz.sizeOf5 rfl rfl rfl (by omega) (by omega) (by omega) rfl rfl) ?_
      have hS0 := hS
      refine Inl.set rfl rfl rfl (d_call Tryz.call23 rfl (sameB_E _ _ X ((((symsOf p.ops).map (runB O)).take s.to.toNat).drop s.from_.toNat) _ _ hS.imm h84 (RSl.resl2 h34 _ _ (by omega) (by omega)).1 hXe)) ?_
      rintro _ w_15 ⟨rfl, hE⟩
      replace hS := hS.call hE
      refine ⟨_, _, hS0.le hE.ext (List.Sublist.refl _), hS, ?_⟩
      refine spt rfl rfl rfl (g_not rfl) ?_
      refine sp rfl (g_or rfl rfl (fun _ => rfl)) ?_
      refine sp rfl (g_movev (v := .bool _) rfl) ?_
      refine spt rfl rfl rfl (g_move _) ?_
      refine spt rfl rfl rfl (g_movev (v := .int .i64 _) rfl) ?_
      refine spt rfl rfl rfl (g_ixI Tryz.underlying42 Tryz.sizeOf29 h40 rfl rfl (by omega) (by omega)) ?_
      refine sht rfl rfl rfl (g_ldE (us := [.bool _, .int .i64 _, .int .i64 _, .slice _ _ _]) Tryz.sizeOf29 Tryz.isAgg29 hqA rfl rfl rfl) ?_
      refine sht rfl rfl rfl (g_ldO 0 (vs := [.bool _, .int .i64 _, .int .i64 _, .slice _ _ _]) Tryz.sizeOf29 Tryz.isAgg29 rfl rfl rfl rfl) ?_
      have hS0 := hS
      refine Inl.set rfl rfl rfl (d_call Tryz.call17 rfl (costN_E q _ _ _ _ _ _ hS.imm hqo hPq.wf hPq.chk rfl)) ?_
      rintro _ w_16 ⟨rfl, hE⟩
      replace hS := hS.call hE
      refine ⟨_, _, hS0.le hE.ext (List.Sublist.refl _), hS, ?_⟩
      have hS0 := hS
      refine Inl.set rfl rfl rfl (d_call Tryz.call17 rfl (costN_E F _ _ _ _ _ _ hS.imm h45 hF.wf hF.chk rfl)) ?_
      rintro _ w_17 ⟨rfl, hE⟩
      replace hS := hS.call hE
      refine ⟨_, _, hS0.le hE.ext (List.Sublist.refl _), hS, ?_⟩
      refine spt rfl rfl rfl (g_gtF rfl rfl hcost) ?_
      refine sp rfl (g_or rfl rfl (fun _ => rfl)) ?_
      refine sn (thenN ?_)
      refine cond_f (rfl) ?_
      refine wpIn_skip ?_
      refine blkN (thenN ?_)
      refine reg ?_
      refine qq hS (g_movev (v := .int .i64 _) rfl) ?_
      refine qq hS (g_add rfl rfl (by omega) (by omega)) ?_
      refine qq hS (g_assignv (v := .int .i64 _) rfl) ?_
      refine ol_nil (thenN ?_)
      exact ⟨i + 1, _, rfl, ⟨⟨rfl, rfl, rfl, rfl, rfl, rfl, rfl, trivial⟩, _, hS.sel [true], by omega, h26, h30, h34, h40, h45⟩, by omega⟩
    ·
      intro hc75
      try simp only [Bool.and_eq_true, Bool.or_eq_true, Bool.not_eq_true', Bool.and_eq_false_imp, Bool.or_eq_false_iff, Bool.not_eq_false', decide_eq_true_eq, decide_eq_false_iff_not] at hc75
      refine wpIn_exit ?_
      refine thenE (thenE (blkE ?_))
      refine thenN ?_
      refine wpIn_seq ?_
      refine reg ?_
      refine qq hS (g_movev (v := .bool _) rfl) ?_
      refine qq hS (g_assignv (v := .bool _) rfl) ?_
      refine ol_nil (thenN ?_)
      refine wpIn_ret ?_
      refine ret1 Tryz.results11 (rv_tmp (v := .bool _) rfl) ?_
      exact ⟨_, rfl, hS.nil⟩

end Go.Proofs.YtodopmclnklgdaaGreat

