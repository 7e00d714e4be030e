/- inlaylaw11.MergeBoth: its function answers true. Conditions: arguments are of their kinds. -/
import Derived.Test.YtodopmclnklgdaaGreatMTouched
namespace Go.Proofs.YtodopmclnklgdaaGreat
open Go Go.RowKit Go.Inl
set_option linter.unusedSimpArgs false
set_option linter.unusedVariables false
theorem merge_two {p q : PatL} {n : Int} (hp : Good11 p n) (hq : Good11 q n) (hn : 0 ≤ n ∧ n ≤ 4096) : ((mergeP p q).2 = 0 ∧ clashL (symsP p) (symsP q) = [] ∧ Good11 (mergeP p q).1 n ∧ symsP (mergeP p q).1 = mergeS (symsP p) (symsP q)) ∨ (mergeP p q).2 = 110 := by
  by_cases h : clashL (symsP p) (symsP q) = []
  · obtain ⟨h1, h2, h3⟩ := merge_good hp hq hn h
    rw [h1]
    exact .inl ⟨rfl, h, h2, h3⟩
  · exact .inr (by rw [merge_bad hp hq h])

set_option maxRecDepth 20000 in
set_option maxHeartbeats 4000000 in
theorem mboth_c (r s : Int) (ad bd ed : Option Addr) (cap capb cape : Nat) (l lb : List Q4) (bs : List Int) (w0 : World) (I0 : Imm) (hI : Sat I0 w0) (hr : 0 ≤ r ∧ r ≤ 255) (h4 : RFl I0 4 q4C (.slice ad l.length cap) l) (hq : ∀ q ∈ l, q.wf) (h5 : RFl I0 4 q4C (.slice bd lb.length capb) lb) (hqb : ∀ q ∈ lb, q.wf) (hb : RBytes I0 (.slice ed bs.length cape) bs) (hbb : ∀ y ∈ bs, 0 ≤ y ∧ y ≤ 255) :
    Ctr Tryz.prog 6 [.agg #[.int .u8 r, .slice ad l.length cap, .int .u8 s, .slice bd lb.length capb], .slice ed bs.length cape] w0 (fun v w' => ∃ I', v = .bool true ∧ Ext w0 I0 w' I') := by
  refine fn (n := 136) Tryz.func6 rfl rfl rfl ?_
  have hS := St.start hI
  refine wpIn_seq ?_
  refine reg ?_
  refine qe (d_box (cs := [.int .u8 _, .slice _ _ _, .int .u8 _, .slice _ _ _]) hS rfl) ?_
  clear hS
  rintro _ w_1 ⟨b2, rfl, hS⟩
  refine qq hS (g_assignv (v := .bool _) rfl) ?_
  refine ol_nil (thenN ?_)
  refine wpIn_seq ?_
  refine reg ?_
  refine qe (d_call Tryz.call24 rfl (sanity11_c _ _ hS.imm)) ?_
  rintro _ w_2 ⟨I_f, rfl, hE⟩
  replace hS := hS.callE hE
  replace h4 := h4.mono hE.ext
  replace h5 := h5.mono hE.ext
  replace hb := hb.mono hE.ext
  refine qq hS (g_assignv (v := .bool _) rfl) ?_
  refine ol_nil (thenN ?_)
  refine wpIn_seq ?_
  refine reg ?_
  refine qq hS (g_indexArr (o' := 0) Tryz.underlying56 Tryz.sizeOf48 rfl rfl (by decide) (by decide) rfl) ?_
  refine qq hS (g_ldO 0 (vs := [.int .u8 _, .slice _ _ _]) Tryz.sizeOf48 Tryz.isAgg48 rfl rfl rfl rfl) ?_
  refine qe (d_call Tryz.call25 rfl (made11_c r ad cap l _ _ hS.imm hr h4 hq)) ?_
  rintro _ w_3 ⟨I_f, p, a22, m22, c22, rfl, hE, h22, hgp⟩
  replace hS := hS.callE hE
  replace h4 := h4.mono hE.ext
  replace h5 := h5.mono hE.ext
  replace hb := hb.mono hE.ext
  refine qe (d_alloc (cs := [.bool _, .int .i64 _, .int .i64 _, .slice _ _ _]) hS Tryz.zeroValue29 rfl) ?_
  clear hS
  rintro _ w_4 ⟨b6, rfl, hS⟩
  refine qe (d_store 0 hS Tryz.sizeOf29 rfl rfl rfl (vs := [.bool _, .int .i64 _, .int .i64 _, .slice _ _ _]) rfl rfl rfl (Nat.le_of_ble_eq_true rfl) (cs' := [_, _, _, _]) rfl) ?_
  clear hS
  rintro _ w_5 ⟨rfl, hS⟩
  refine ol_nil (thenN ?_)
  refine wpIn_seq ?_
  refine reg ?_
  refine qq hS (g_indexArr (o' := 2) Tryz.underlying56 Tryz.sizeOf48 rfl rfl (by decide) (by decide) rfl) ?_
  refine qq hS (g_ldO 1 (vs := [.int .u8 _, .slice _ _ _]) Tryz.sizeOf48 Tryz.isAgg48 rfl rfl rfl rfl) ?_
  refine qq hS (g_fieldAddr (o' := 1) Tryz.underlying29 rfl Tryz.sizeOf3 rfl rfl rfl) ?_
  refine qq hS (g_ldO1 0 Tryz.isAgg3 rfl rfl rfl) ?_
  refine qe (d_call Tryz.call30 rfl (sized11_c s p.in_ bd capb lb _ _ hS.imm h5 hqb (by have := hgp.in_; omega))) ?_
  rintro _ w_6 ⟨I_f, q, a27, m27, c27, rfl, hE, h27, hgq⟩
  replace hS := hS.callE hE
  replace h4 := h4.mono hE.ext
  replace h5 := h5.mono hE.ext
  replace hb := hb.mono hE.ext
  replace h22 := h22.mono hE.ext
  refine qe (d_alloc (cs := [.bool _, .int .i64 _, .int .i64 _, .slice _ _ _]) hS Tryz.zeroValue29 rfl) ?_
  clear hS
  rintro _ w_7 ⟨b7, rfl, hS⟩
  refine qe (d_store 0 hS Tryz.sizeOf29 rfl rfl rfl (vs := [.bool _, .int .i64 _, .int .i64 _, .slice _ _ _]) rfl rfl rfl (Nat.le_of_ble_eq_true rfl) (cs' := [_, _, _, _]) rfl) ?_
  clear hS
  rintro _ w_8 ⟨rfl, hS⟩
  refine ol_nil (thenN ?_)
  refine wpIn_seq ?_
  have hpn : 0 ≤ p.in_ ∧ p.in_ ≤ 12 := by have := hgp.in_; omega
  replace hgp : Good11 p p.in_ := ⟨hgp.wf, hgp.ck, hgp.lif, rfl, by rw [hgp.out, hgp.in_]⟩
  have hn4 : 0 ≤ p.in_ ∧ p.in_ ≤ 4096 := by omega
  have hck := good_checkM hgp hgq
  obtain ⟨S, T, N, hA, hB, hlq⟩ := even_two hck
  have hAs := hA.s
  have hBs := hB.s
  have hin := hA.i
  have hSn := hA.n
  have hTn := hB.n
  have hNb := hA.b
  have h2 := merge_two hgp hgq hn4
  obtain ⟨M, hM⟩ : ∃ M, mergeP p q = M := ⟨_, rfl⟩
  rw [hM, hAs, hBs] at h2
  refine reg ?_
  refine qq hS (g_ldO 1 (vs := [.bool _, .int .i64 _, .int .i64 _, .slice _ _ _]) Tryz.sizeOf29 Tryz.isAgg29 rfl rfl rfl rfl) ?_
  refine qq hS (g_ldO 0 (vs := [.bool _, .int .i64 _, .int .i64 _, .slice _ _ _]) Tryz.sizeOf29 Tryz.isAgg29 rfl rfl rfl rfl) ?_
  refine qe (d_call Tryz.call31 rfl (merge_L p q M.1 M.2 _ _ _ _ _ _ _ _ hS.imm hgp.wf h22 hgq.wf h27 hM)) ?_
  rintro _ w_9 ⟨I_f, a31, m31, c31, rfl, hE, h31⟩
  replace hS := hS.callE hE
  replace h4 := h4.mono hE.ext
  replace h5 := h5.mono hE.ext
  replace hb := hb.mono hE.ext
  replace h22 := h22.mono hE.ext
  replace h27 := h27.mono hE.ext
  refine qq hS (g_move _) ?_
  refine qq hS (g_extract rfl rfl) ?_
  refine qq hS (g_extract (v := .int .i64 _) rfl rfl) ?_
  refine qe (d_alloc (cs := [.bool _, .int .i64 _, .int .i64 _, .slice _ _ _]) hS Tryz.zeroValue29 rfl) ?_
  clear hS
  rintro _ w_10 ⟨b8, rfl, hS⟩
  refine qe (d_store 0 hS Tryz.sizeOf29 rfl rfl rfl (vs := [.bool _, .int .i64 _, .int .i64 _, .slice _ _ _]) rfl rfl rfl (Nat.le_of_ble_eq_true rfl) (cs' := [_, _, _, _]) rfl) ?_
  clear hS
  rintro _ w_11 ⟨rfl, hS⟩
  refine qq hS (g_assignv (v := .int .i64 _) rfl) ?_
  refine ol_nil (thenN ?_)
  refine wpIn_seq ?_
  refine wpIn_seq ?_
  refine reg ?_
  refine qq hS (g_movev (v := .int .i64 _) rfl) ?_
  refine qq hS (g_neq rfl rfl) ?_
  refine ol_nil (thenN ?_)
  refine cond_s rfl ?_ ?_
  ·
    intro hc35
    try simp only [Bool.and_eq_true, Bool.or_eq_true, Bool.not_eq_true', Bool.and_eq_false_imp, Bool.or_eq_false_iff, Bool.not_eq_false', decide_eq_true_eq, decide_eq_false_iff_not] at hc35
    have h110 : M.2 = 110 := by
      rcases h2 with ⟨h, _⟩ | h
      · exact absurd h hc35
      · exact h
    refine wpIn_seq ?_
    refine reg ?_
    refine qq hS (g_movev (v := .int .i64 _) rfl) ?_
    refine qq hS (g_eqT6 rfl rfl h110) ?_
    refine qq hS (g_movev (v := .bool _) rfl) ?_
    refine qqs rfl rfl hS (g_movev (v := .bool _) rfl) ?_
    refine qq hS (g_and rfl rfl (fun _ => rfl)) ?_
    refine qq hS (g_assignv (v := .bool _) rfl) ?_
    refine ol_nil (thenN ?_)
    refine wpIn_ret ?_
    refine thenR ?_
    refine ret1 Tryz.results6 (rv_tmp (v := .bool _) rfl) ?_
    exact ⟨_, rfl, hS.nil⟩
  ·
    intro hc35
    try simp only [Bool.and_eq_true, Bool.or_eq_true, Bool.not_eq_true', Bool.and_eq_false_imp, Bool.or_eq_false_iff, Bool.not_eq_false', decide_eq_true_eq, decide_eq_false_iff_not] at hc35
    have ⟨hgM, hMs⟩ : Good11 M.1 p.in_ ∧ symsP M.1 = mergeS S T := by
      rcases h2 with ⟨_, _, h3, h4⟩ | h
      · exact ⟨h3, h4⟩
      · omega
    refine wpIn_skip ?_
    refine thenN ?_
    refine wpIn_seq ?_
    have hOl := inputP_len bs p.in_.toNat
    have hOb := inputP_bd (n := p.in_.toNat) hbb
    obtain ⟨O, hO⟩ : ∃ O, inputP bs p.in_.toNat = O := ⟨_, rfl⟩
    rw [hO] at hOl hOb
    have hinO : p.in_ = O.length := by omega
    have hXA := apply_good hgp hinO
    have hXB := apply_good hgq hinO
    have hXM := apply_good hgM hinO
    rw [hAs] at hXA
    rw [hBs] at hXB
    rw [hMs] at hXM
    have hRn : ((S.map (runB O)).length : Int) = p.in_ := by rw [List.length_map]; omega
    have hRt : ((T.map (runB O)).length : Int) = p.in_ := by rw [List.length_map]; omega
    have hRm : (((mergeS S T).map (runB O)).length : Int) = p.in_ := by rw [List.length_map, mergeS_len]; omega
    have htl := marks_len N (touched S)
    refine reg ?_
    refine qq hS (g_move _) ?_
    refine qq hS (g_fieldAddr (o' := 1) Tryz.underlying29 rfl Tryz.sizeOf3 rfl rfl rfl) ?_
    refine qq hS (g_ldO1 2 Tryz.isAgg3 rfl rfl rfl) ?_
    refine qe (d_call Tryz.call18 rfl (input_E _ _ bs p.in_ O _ _ hS.imm hb hbb ⟨by omega, by omega⟩ hO)) ?_
    rintro _ w_12 ⟨I_f, a44, c44, rfl, hE, h44⟩
    replace hS := hS.callE hE
    replace h4 := h4.mono hE.ext
    replace h5 := h5.mono hE.ext
    replace hb := hb.mono hE.ext
    replace h22 := h22.mono hE.ext
    replace h27 := h27.mono hE.ext
    replace h31 := h31.mono hE.ext
    refine qq hS (g_assign _) ?_
    refine ol_nil (thenN ?_)
    refine wpIn_seq ?_
    refine reg ?_
    refine qq hS (g_move _) ?_
    refine qq hS (g_ldO 2 (vs := [.bool _, .int .i64 _, .int .i64 _, .slice _ _ _]) Tryz.sizeOf29 Tryz.isAgg29 rfl rfl rfl rfl) ?_
    refine qe (d_call Tryz.call19 rfl (apply_L p _ _ _ _ _ _ O (S.map (runB O)) 0 _ _ hS.imm h22 hgp.wf hgp.lif h44 rfl hXA)) ?_
    rintro _ w_13 ⟨I_f, a48, c48, rfl, hE, h48⟩
    replace hS := hS.callE hE
    replace h4 := h4.mono hE.ext
    replace h5 := h5.mono hE.ext
    replace hb := hb.mono hE.ext
    replace h22 := h22.mono hE.ext
    replace h27 := h27.mono hE.ext
    replace h31 := h31.mono hE.ext
    replace h44 := h44.mono hE.ext
    refine qq hS (g_move _) ?_
    refine qq hS (g_extract rfl rfl) ?_
    refine qq hS (g_extract (v := .int .i64 _) rfl rfl) ?_
    refine qq hS (g_assign _) ?_
    refine qq hS (g_assignv (v := .int .i64 _) rfl) ?_
    refine ol_nil (thenN ?_)
    refine wpIn_seq ?_
    refine reg ?_
    refine qq hS (g_move _) ?_
    refine qq hS (g_ldO 1 (vs := [.bool _, .int .i64 _, .int .i64 _, .slice _ _ _]) Tryz.sizeOf29 Tryz.isAgg29 rfl rfl rfl rfl) ?_
    refine qe (d_call Tryz.call19 rfl (apply_L q _ _ _ _ _ _ O (T.map (runB O)) 0 _ _ hS.imm h27 hgq.wf hgq.lif h44 rfl hXB)) ?_
    rintro _ w_14 ⟨I_f, a54, c54, rfl, hE, h54⟩
    replace hS := hS.callE hE
    replace h4 := h4.mono hE.ext
    replace h5 := h5.mono hE.ext
    replace hb := hb.mono hE.ext
    replace h22 := h22.mono hE.ext
    replace h27 := h27.mono hE.ext
    replace h31 := h31.mono hE.ext
    replace h44 := h44.mono hE.ext
    replace h48 := h48.mono hE.ext
    refine qq hS (g_move _) ?_
    refine qq hS (g_extract rfl rfl) ?_
    refine qq hS (g_extract (v := .int .i64 _) rfl rfl) ?_
    refine qq hS (g_assign _) ?_
    refine qq hS (g_assignv (v := .int .i64 _) rfl) ?_
    refine ol_nil (thenN ?_)
    refine wpIn_seq ?_
    refine reg ?_
    refine qq hS (g_move _) ?_
    refine qq hS (g_ldO 0 (vs := [.bool _, .int .i64 _, .int .i64 _, .slice _ _ _]) Tryz.sizeOf29 Tryz.isAgg29 rfl rfl rfl rfl) ?_
    refine qe (d_call Tryz.call19 rfl (apply_L M.1 _ _ _ _ _ _ O ((mergeS S T).map (runB O)) 0 _ _ hS.imm h31 hgM.wf hgM.lif h44 rfl hXM)) ?_
    rintro _ w_15 ⟨I_f, a60, c60, rfl, hE, h60⟩
    replace hS := hS.callE hE
    replace h4 := h4.mono hE.ext
    replace h5 := h5.mono hE.ext
    replace hb := hb.mono hE.ext
    replace h22 := h22.mono hE.ext
    replace h27 := h27.mono hE.ext
    replace h31 := h31.mono hE.ext
    replace h44 := h44.mono hE.ext
    replace h48 := h48.mono hE.ext
    replace h54 := h54.mono hE.ext
    refine qq hS (g_move _) ?_
    refine qq hS (g_extract rfl rfl) ?_
    refine qq hS (g_extract (v := .int .i64 _) rfl rfl) ?_
    refine qq hS (g_assign _) ?_
    refine qq hS (g_assignv (v := .int .i64 _) rfl) ?_
    refine ol_nil (thenN ?_)
    refine wpIn_seq ?_
    refine wpIn_seq ?_
    refine reg ?_
    refine qq hS (g_movev (v := .int .i64 _) rfl) ?_
    refine qq hS (g_neq rfl rfl) ?_
    refine qq hS (g_movev (v := .bool _) rfl) ?_
    refine qqs rfl rfl hS (g_movev (v := .int .i64 _) rfl) ?_
    refine qqs rfl rfl hS (g_neq rfl rfl) ?_
    refine qq hS (g_or rfl rfl (fun _ => rfl)) ?_
    refine qq hS (g_movev (v := .bool _) rfl) ?_
    refine qqs rfl rfl hS (g_movev (v := .int .i64 _) rfl) ?_
    refine qqs rfl rfl hS (g_neq rfl rfl) ?_
    refine qq hS (g_or rfl rfl (fun _ => rfl)) ?_
    refine qq hS (g_movev (v := .bool _) rfl) ?_
    refine qqs rfl rfl hS (g_move _) ?_
    refine qqs rfl rfl hS (g_lenI rfl Tryz.underlying25 h48 rfl) ?_
    refine qqs rfl rfl hS (g_fieldAddr (o' := 1) Tryz.underlying29 rfl Tryz.sizeOf3 rfl rfl rfl) ?_
    refine qqs rfl rfl hS (g_ldO1 2 Tryz.isAgg3 rfl rfl rfl) ?_
    refine qqs rfl rfl hS (g_neqF rfl rfl hRn) ?_
    refine qq hS (g_or rfl rfl (fun _ => rfl)) ?_
    refine qq hS (g_movev (v := .bool _) rfl) ?_
    refine qqs rfl rfl hS (g_move _) ?_
    refine qqs rfl rfl hS (g_lenI rfl Tryz.underlying25 h54 rfl) ?_
    refine qqs rfl rfl hS (g_fieldAddr (o' := 1) Tryz.underlying29 rfl Tryz.sizeOf3 rfl rfl rfl) ?_
    refine qqs rfl rfl hS (g_ldO1 2 Tryz.isAgg3 rfl rfl rfl) ?_
    refine qqs rfl rfl hS (g_neqF rfl rfl hRt) ?_
    refine qq hS (g_or rfl rfl (fun _ => rfl)) ?_
    refine qq hS (g_movev (v := .bool _) rfl) ?_
    refine qqs rfl rfl hS (g_move _) ?_
    refine qqs rfl rfl hS (g_lenI rfl Tryz.underlying25 h60 rfl) ?_
    refine qqs rfl rfl hS (g_fieldAddr (o' := 1) Tryz.underlying29 rfl Tryz.sizeOf3 rfl rfl rfl) ?_
    refine qqs rfl rfl hS (g_ldO1 2 Tryz.isAgg3 rfl rfl rfl) ?_
    refine qqs rfl rfl hS (g_neqF rfl rfl hRm) ?_
    refine qq hS (g_or rfl rfl (fun _ => rfl)) ?_
    refine ol_nil (thenN ?_)
    refine cond_f (rfl) ?_
    refine wpIn_skip ?_
    refine thenN ?_
    refine wpIn_seq ?_
    refine reg ?_
    refine qq hS (g_ldO 2 (vs := [.bool _, .int .i64 _, .int .i64 _, .slice _ _ _]) Tryz.sizeOf29 Tryz.isAgg29 rfl rfl rfl rfl) ?_
    refine qe (d_call Tryz.call32 rfl (touches_c p S N _ _ _ _ _ hS.imm hgp.wf h22 hA.c hA.s hA.n hA.i hA.b)) ?_
    rintro _ w_16 ⟨I_f, a95, c95, rfl, hE, h95⟩
    replace hS := hS.callE hE
    replace h4 := h4.mono hE.ext
    replace h5 := h5.mono hE.ext
    replace hb := hb.mono hE.ext
    replace h22 := h22.mono hE.ext
    replace h27 := h27.mono hE.ext
    replace h31 := h31.mono hE.ext
    replace h44 := h44.mono hE.ext
    replace h48 := h48.mono hE.ext
    replace h54 := h54.mono hE.ext
    replace h60 := h60.mono hE.ext
    refine qq hS (g_assign _) ?_
    refine ol_nil (thenN ?_)
    refine wpIn_seq ?_
    refine wpIn_seq ?_
    refine reg ?_
    refine qq hS (g_assignv (v := .int .i64 _) rfl) ?_
    refine ol_nil (thenN ?_)
    refine wpIn_block ?_
    refine loop (fun (i : Nat) σ w => okS σ [(5, .bool true), (6, .pointer (some ⟨b6, 0, none⟩)), (11, .slice a48 (S.map (runB O)).length c48), (13, .slice a54 (T.map (runB O)).length c54), (15, .slice a60 ((mergeS S T).map (runB O)).length c60), (17, .slice a95 N c95), (18, .int .i64 i)] ∧ St [] w0 I0 I_f w [.cel b6 29 [.bool p.lifted, .int .i64 p.in_, .int .i64 p.out, .slice a22 m22 c22]] ∧ i ≤ N) (fun i => N - i) (0) ?_ ?_
    ·
      exact ⟨⟨rfl, rfl, rfl, rfl, rfl, rfl, rfl, trivial⟩, hS.sel [false, false, true, false], by omega⟩
    ·
      rintro i σ w_l ⟨hs, hS, hi0⟩
      rw [← upds_self hs]; clear hs
      refine wpIn_seq ?_
      refine wpIn_seq ?_
      refine reg ?_
      refine qq hS (g_movev (v := .int .i64 _) rfl) ?_
      refine qq hS (g_fieldAddr (o' := 1) Tryz.underlying29 rfl Tryz.sizeOf3 rfl rfl rfl) ?_
      refine qq hS (g_ldO1 0 Tryz.isAgg3 rfl rfl rfl) ?_
      refine qq hS (g_lss rfl rfl) ?_
      refine ol_nil (thenN ?_)
      refine cond_s rfl ?_ ?_
      ·
        intro hc99
        try simp only [Bool.and_eq_true, Bool.or_eq_true, Bool.not_eq_true', Bool.and_eq_false_imp, Bool.or_eq_false_iff, Bool.not_eq_false', decide_eq_true_eq, decide_eq_false_iff_not] at hc99
        obtain ⟨s1, hsi⟩ : ∃ s, S[i]? = some s := ⟨_, List.getElem?_eq_getElem (by omega)⟩
        obtain ⟨t1, hti⟩ : ∃ s, T[i]? = some s := ⟨_, List.getElem?_eq_getElem (by omega)⟩
        obtain ⟨m1, hmi⟩ : ∃ s, (mergeS S T)[i]? = some s := ⟨_, List.getElem?_eq_getElem (by rw [mergeS_len]; omega)⟩
        have hme := mergeS_at (S := S) (T := T) (i := i) (by omega)
        rw [sAt_of hmi, sAt_of hsi, sAt_of hti] at hme
        have hmA := h95.at (marks_at (f := touched S) (show i < N by omega))
        have hyA := h48.at (show (S.map (runB O))[i]? = some (runB O s1) by rw [List.getElem?_map, hsi]; rfl)
        have hzA := h54.at (show (T.map (runB O))[i]? = some (runB O t1) by rw [List.getElem?_map, hti]; rfl)
        have hoA := h60.at (show ((mergeS S T).map (runB O))[i]? = some (runB O m1) by rw [List.getElem?_map, hmi]; rfl)
        have hfin : (touched S i && !decide (runB O m1 = runB O s1) || !touched S i && !decide (runB O m1 = runB O t1)) = false := by
          rw [hme]
          cases touched S i <;> simp
        refine wpIn_skip ?_
        refine thenN ?_
        refine wpIn_seq ?_
        refine wpIn_block ?_
        refine wpIn_seq ?_
        refine draw (.cons 0 .pure (.cons 1 .pure (.cons 2 .pure (.cons 3 .held (.cons 4 .pure (.cons 5 .pure (.cons 6 .pure (.cons 7 .pure (.cons 8 .held (.cons 9 .pure (.cons 10 .pure (.cons 11 .pure (.cons 12 .held (.cons 13 .pure (.cons 14 .pure (.cons 15 .pure (.cons 16 .pure (.cons 17 .pure (.cons 18 .pure (.cons 19 .held (.cons 20 .pure (.cons 21 .pure (.cons 22 .pure (.cons 23 .pure (.cons 24 .pure (.cons 25 .held (.cons 26 .pure (.cons 27 .pure (.cons 28 .pure (.cons 29 .held (.cons 30 .pure (.cons 31 .pure (.cons 32 .pure .nil))))))))))))))))))))))))))))))))) mixed (by kernel_rfl) hS ?_
        intro w_17 hS
        refine sp rfl (g_move _) ?_
        refine sp rfl (g_movev (v := .int .i64 _) rfl) ?_
        refine sp rfl (g_ixI Tryz.underlying59 Tryz.sizeOf4 h95 rfl rfl (by omega) (by omega)) ?_
        refine sh rfl (g_ldE1 Tryz.isAgg4 hmA rfl rfl) ?_
        refine sp rfl (g_movev (v := .bool _) rfl) ?_
        refine spu rfl rfl rfl (fun hg => (g_move _)) ?_
        intro u107 hu107 hn107
        refine spu rfl rfl rfl (fun hg => (g_movev (v := .int .i64 _) rfl)) ?_
        intro u108 hu108 hn108
        refine spu rfl rfl rfl (fun hg => (g_ixI Tryz.underlying25 Tryz.sizeOf5 h60 (hu107 hg) (hu108 hg) (by omega) (by omega))) ?_
        intro u109 hu109 hn109
        refine shu rfl rfl rfl (fun hg => (g_ldE1 Tryz.isAgg5 hoA (hu109 hg) rfl)) ?_
        intro u110 hu110 hn110
        refine spu rfl rfl rfl (fun hg => (g_move _)) ?_
        intro u111 hu111 hn111
        refine spu rfl rfl rfl (fun hg => (g_movev (v := .int .i64 _) rfl)) ?_
        intro u112 hu112 hn112
        refine spu rfl rfl rfl (fun hg => (g_ixI Tryz.underlying25 Tryz.sizeOf5 h48 (hu111 hg) (hu112 hg) (by omega) (by omega))) ?_
        intro u113 hu113 hn113
        refine shu rfl rfl rfl (fun hg => (g_ldE1 Tryz.isAgg5 hyA (hu113 hg) rfl)) ?_
        intro u114 hu114 hn114
        refine spu rfl rfl rfl (fun hg => (g_neq (hu110 hg) (hu114 hg))) ?_
        intro u115 hu115 hn115
        refine sp rfl (g_and rfl rfl (fun hq => hu115 hq)) ?_
        refine sp rfl (g_movev (v := .bool _) rfl) ?_
        refine spu rfl rfl rfl (fun hg => (g_move _)) ?_
        intro u118 hu118 hn118
        refine spu rfl rfl rfl (fun hg => (g_movev (v := .int .i64 _) rfl)) ?_
        intro u119 hu119 hn119
        refine spu rfl rfl rfl (fun hg => (g_ixI Tryz.underlying59 Tryz.sizeOf4 h95 (hu118 hg) (hu119 hg) (by omega) (by omega))) ?_
        intro u120 hu120 hn120
        refine shu rfl rfl rfl (fun hg => (g_ldE1 Tryz.isAgg4 hmA (hu120 hg) rfl)) ?_
        intro u121 hu121 hn121
        refine spu rfl rfl rfl (fun hg => (g_not (hu121 hg))) ?_
        intro u122 hu122 hn122
        refine spu rfl rfl rfl (fun hg => (g_movev (hu122 hg))) ?_
        intro u123 hu123 hn123
        refine spn (P := Tryz.prog) rfl rfl (C := _) hu123 hn123 (fun hg => (g_move _)) ?_
        intro u124 hu124 hn124
        refine spn (P := Tryz.prog) rfl rfl (C := _) hu123 hn123 (fun hg => (g_movev (v := .int .i64 _) rfl)) ?_
        intro u125 hu125 hn125
        refine spn (P := Tryz.prog) rfl rfl (C := _) hu123 hn123 (fun hg => (g_ixI Tryz.underlying25 Tryz.sizeOf5 h60 (hu124 hg) (hu125 hg) (by omega) (by omega))) ?_
        intro u126 hu126 hn126
        refine shn (P := Tryz.prog) rfl rfl (C := _) hu123 hn123 (fun hg => (g_ldE1 Tryz.isAgg5 hoA (hu126 hg) rfl)) ?_
        intro u127 hu127 hn127
        refine spn (P := Tryz.prog) rfl rfl (C := _) hu123 hn123 (fun hg => (g_move _)) ?_
        intro u128 hu128 hn128
        refine spn (P := Tryz.prog) rfl rfl (C := _) hu123 hn123 (fun hg => (g_movev (v := .int .i64 _) rfl)) ?_
        intro u129 hu129 hn129
        refine spn (P := Tryz.prog) rfl rfl (C := _) hu123 hn123 (fun hg => (g_ixI Tryz.underlying25 Tryz.sizeOf5 h54 (hu128 hg) (hu129 hg) (by omega) (by omega))) ?_
        intro u130 hu130 hn130
        refine shn (P := Tryz.prog) rfl rfl (C := _) hu123 hn123 (fun hg => (g_ldE1 Tryz.isAgg5 hzA (hu130 hg) rfl)) ?_
        intro u131 hu131 hn131
        refine spn (P := Tryz.prog) rfl rfl (C := _) hu123 hn123 (fun hg => (g_neq (hu127 hg) (hu131 hg))) ?_
        intro u132 hu132 hn132
        refine spu rfl rfl rfl (fun hg => (g_and (hu123 hg) rfl (fun hq => hu132 ⟨hg, hq⟩))) ?_
        intro u133 hu133 hn133
        refine sp rfl (g_or rfl rfl (fun hq => hu133 hq)) ?_
        refine sn (thenN ?_)
        refine cond_f (congrArg Value.bool hfin) ?_
        refine wpIn_skip ?_
        refine blkN (thenN ?_)
        refine reg ?_
        refine qq hS (g_movev (v := .int .i64 _) rfl) ?_
        refine qq hS (g_add rfl rfl (by omega) (by omega)) ?_
        refine qq hS (g_assignv (v := .int .i64 _) rfl) ?_
        refine ol_nil (thenN ?_)
        exact ⟨i + 1, _, rfl, ⟨⟨rfl, rfl, rfl, rfl, rfl, rfl, rfl, trivial⟩, hS.sel [true], by omega⟩, by omega⟩
      ·
        intro hc99
        try simp only [Bool.and_eq_true, Bool.or_eq_true, Bool.not_eq_true', Bool.and_eq_false_imp, Bool.or_eq_false_iff, Bool.not_eq_false', decide_eq_true_eq, decide_eq_false_iff_not] at hc99
        refine wpIn_exit ?_
        refine thenE (thenE (blkE ?_))
        refine thenN ?_
        refine wpIn_seq ?_
        refine reg ?_
        refine qq hS (g_movev (v := .bool _) rfl) ?_
        refine qq hS (g_assignv (v := .bool _) rfl) ?_
        refine ol_nil (thenN ?_)
        refine wpIn_ret ?_
        refine ret1 Tryz.results6 (rv_tmp (v := .bool _) rfl) ?_
        exact ⟨_, rfl, hS.nil⟩

end Go.Proofs.YtodopmclnklgdaaGreat

