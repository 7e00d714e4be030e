/- inlaylaw11.MergeTouched: its function answers true. Conditions: arguments are of their kinds. -/
import Derived.Test.YtodopmclnklgdaaGreatMOrder
import Derived.Test.YtodopmclnklgdaaGreatCommon6
namespace Go.Proofs.YtodopmclnklgdaaGreat
open Go Go.RowKit Go.Inl
set_option linter.unusedSimpArgs false
set_option linter.unusedVariables false
theorem runB_at {O : List Int} {i : Nat} {o : Int} (h : O[i]? = some o) (hb : 0 ≤ o ∧ o ≤ 255) : runB O ⟨true, i, 0⟩ = o := by
  have hy : O[((⟨true, i, 0⟩ : Sym).at_).toNat]? = some o := by simpa using h
  rw [runB_old rfl hy, Int.zero_add, wrap8 hb]
theorem apply_good {p : PatL} {n : Int} {O : List Int} (h : Good11 p n) (hn : n = O.length) : applyP O p = ((symsP p).map (runB O), 0) :=
  applyP_right h.ck (h.in_.trans hn)
theorem touchedP_good {p : PatL} {n : Int} (h : Good11 p n) (hn : n ≤ 65536) : touchedP p = (rngs (symsP p).length (touched (symsP p)), 0) := by
  unfold touchedP
  rw [if_neg]
  have hc := good_checkM h h
  unfold checkM at hc ⊢
  simp only [List.all_cons, List.all_nil, List.any_cons, List.any_nil, List.find?_cons, List.find?_nil] at hc ⊢
  first
    | simpa using hc
    | (simp at hc ⊢; exact hc)
theorem whole_touches {n : Int} (hn : 0 ≤ n ∧ n ≤ 4096) : touchedP (wholeP n) = ([], 0) := by
  have hg := whole_good hn
  rw [touchedP_good hg (by omega)]
  have hl := good_len hg
  rw [rngs_empty fun i hi => whole_touched hn.1 (by omega)]

set_option maxRecDepth 20000 in
set_option maxHeartbeats 4000000 in
theorem mtouched_c (r : Int) (ad ed : Option Addr) (cap cape : Nat) (l : List Q4) (bs : List Int) (w0 : World) (I0 : Imm) (hI : Sat I0 w0) (hr : 0 ≤ r ∧ r ≤ 255) (h4 : RFl I0 4 q4C (.slice ad l.length cap) l) (hq : ∀ q ∈ l, q.wf) (hb : RBytes I0 (.slice ed bs.length cape) bs) (hbb : ∀ y ∈ bs, 0 ≤ y ∧ y ≤ 255) :
    Ctr Tryz.prog 8 [.agg #[.int .u8 r, .slice ad l.length cap], .slice ed bs.length cape] w0 (fun v w' => ∃ I', v = .bool true ∧ Ext w0 I0 w' I') := by
  refine fn (n := 91) Tryz.func8 rfl rfl rfl ?_
  have hS := St.start hI
  refine wpIn_seq ?_
  refine reg ?_
  refine qe (d_box (cs := [.int .u8 _, .slice _ _ _]) hS rfl) ?_
  clear hS
  rintro _ w_1 ⟨b2, rfl, hS⟩
  refine qq hS (g_assignv (v := .bool _) rfl) ?_
  refine ol_nil (thenN ?_)
  refine wpIn_seq ?_
  refine reg ?_
  refine qe (d_call Tryz.call24 rfl (sanity11_c _ _ hS.imm)) ?_
  rintro _ w_2 ⟨I_f, rfl, hE⟩
  replace hS := hS.callE hE
  replace h4 := h4.mono hE.ext
  replace hb := hb.mono hE.ext
  refine qq hS (g_assignv (v := .bool _) rfl) ?_
  refine ol_nil (thenN ?_)
  refine wpIn_seq ?_
  refine reg ?_
  refine qq hS (g_ldO 0 (vs := [.int .u8 _, .slice _ _ _]) Tryz.sizeOf48 Tryz.isAgg48 rfl rfl rfl rfl) ?_
  refine qe (d_call Tryz.call25 rfl (made11_c r ad cap l _ _ hS.imm hr h4 hq)) ?_
  rintro _ w_3 ⟨I_f, p, a17, m17, c17, rfl, hE, h17, hgp⟩
  replace hS := hS.callE hE
  replace h4 := h4.mono hE.ext
  replace hb := hb.mono hE.ext
  refine qe (d_alloc (cs := [.bool _, .int .i64 _, .int .i64 _, .slice _ _ _]) hS Tryz.zeroValue29 rfl) ?_
  clear hS
  rintro _ w_4 ⟨b6, rfl, hS⟩
  refine qe (d_store 0 hS Tryz.sizeOf29 rfl rfl rfl (vs := [.bool _, .int .i64 _, .int .i64 _, .slice _ _ _]) rfl rfl rfl (Nat.le_of_ble_eq_true rfl) (cs' := [_, _, _, _]) rfl) ?_
  clear hS
  rintro _ w_5 ⟨rfl, hS⟩
  refine ol_nil (thenN ?_)
  refine wpIn_seq ?_
  have hpn : 0 ≤ p.in_ ∧ p.in_ ≤ 12 := by have := hgp.in_; omega
  replace hgp : Good11 p p.in_ := ⟨hgp.wf, hgp.ck, hgp.lif, rfl, by rw [hgp.out, hgp.in_]⟩
  have hn4 : 0 ≤ p.in_ ∧ p.in_ ≤ 4096 := by omega
  have hOl := inputP_len bs p.in_.toNat
  have hOb := inputP_bd (n := p.in_.toNat) hbb
  obtain ⟨O, hO⟩ : ∃ O, inputP bs p.in_.toNat = O := ⟨_, rfl⟩
  rw [hO] at hOl hOb
  have hinO : p.in_ = O.length := by omega
  have hXA := apply_good hgp hinO
  have hTP := touchedP_good hgp (by omega)
  have hSl := good_len hgp
  obtain ⟨S, hSe⟩ : ∃ S, symsP p = S := ⟨_, rfl⟩
  rw [hSe] at hXA hTP hSl
  obtain ⟨N, hN⟩ : ∃ N, S.length = N := ⟨_, rfl⟩
  rw [hN] at hTP hSl
  have hgW := whole_good hn4
  have hTW := whole_touches hn4
  obtain ⟨W, hWe⟩ : ∃ W, wholeP p.in_ = W := ⟨_, rfl⟩
  rw [hWe] at hgW hTW
  have hRn : ((S.map (runB O)).length : Int) = p.in_ := by rw [List.length_map]; omega
  have hri : rightL (rngs N (touched S)) p.in_ = true := rngs_right (by omega)
  have hmid : ∀ r ∈ (rngs N (touched S)), Mid r.1 ∧ Mid r.2 := rngs_mid (by omega)
  refine reg ?_
  refine qq hS (g_ldO 0 (vs := [.bool _, .int .i64 _, .int .i64 _, .slice _ _ _]) Tryz.sizeOf29 Tryz.isAgg29 rfl rfl rfl rfl) ?_
  refine qe (d_call Tryz.call26 rfl (touched_L p (rngs N (touched S)) 0 (rngs N (touched S)).length _ _ _ _ _ hS.imm hgp.wf h17 hTP rfl)) ?_
  rintro _ w_6 ⟨I_f, a20, c20, rfl, hE, h20⟩
  replace hS := hS.callE hE
  replace h4 := h4.mono hE.ext
  replace hb := hb.mono hE.ext
  replace h17 := h17.mono hE.ext
  refine qq hS (g_move _) ?_
  refine qq hS (g_extract rfl rfl) ?_
  refine qq hS (g_extract (v := .int .i64 _) rfl rfl) ?_
  refine qq hS (g_assign _) ?_
  refine qq hS (g_assignv (v := .int .i64 _) rfl) ?_
  refine ol_nil (thenN ?_)
  refine wpIn_seq ?_
  refine reg ?_
  refine qq hS (g_fieldAddr (o' := 1) Tryz.underlying29 rfl Tryz.sizeOf3 rfl rfl rfl) ?_
  refine qq hS (g_ldO1 0 Tryz.isAgg3 rfl rfl rfl) ?_
  refine qe (d_call Tryz.call36 rfl (whole_L p.in_ W _ _ hS.imm ⟨by omega, by omega⟩ hWe)) ?_
  rintro _ w_7 ⟨I_f, a26, m26, c26, rfl, hE, h26⟩
  replace hS := hS.callE hE
  replace h4 := h4.mono hE.ext
  replace hb := hb.mono hE.ext
  replace h17 := h17.mono hE.ext
  replace h20 := h20.mono hE.ext
  refine qe (d_call Tryz.call26 rfl (touched_L W [] 0 0 _ _ _ _ _ hS.imm hgW.wf h26 hTW rfl)) ?_
  rintro _ w_8 ⟨I_f, a27, c27, rfl, hE, h27⟩
  replace hS := hS.callE hE
  replace h4 := h4.mono hE.ext
  replace hb := hb.mono hE.ext
  replace h17 := h17.mono hE.ext
  replace h20 := h20.mono hE.ext
  replace h26 := h26.mono hE.ext
  refine qq hS (g_move _) ?_
  refine qq hS (g_extract rfl rfl) ?_
  refine qq hS (g_extract (v := .int .i64 _) rfl rfl) ?_
  refine qq hS (g_assign _) ?_
  refine qq hS (g_assignv (v := .int .i64 _) rfl) ?_
  refine ol_nil (thenN ?_)
  refine wpIn_seq ?_
  refine reg ?_
  refine qq hS (g_move _) ?_
  refine qq hS (g_fieldAddr (o' := 1) Tryz.underlying29 rfl Tryz.sizeOf3 rfl rfl rfl) ?_
  refine qq hS (g_ldO1 0 Tryz.isAgg3 rfl rfl rfl) ?_
  refine qe (d_call Tryz.call18 rfl (input_E _ _ bs p.in_ O _ _ hS.imm hb hbb ⟨by omega, by omega⟩ hO)) ?_
  rintro _ w_9 ⟨I_f, a33, c33, rfl, hE, h33⟩
  replace hS := hS.callE hE
  replace h4 := h4.mono hE.ext
  replace hb := hb.mono hE.ext
  replace h17 := h17.mono hE.ext
  replace h20 := h20.mono hE.ext
  replace h26 := h26.mono hE.ext
  replace h27 := h27.mono hE.ext
  refine qq hS (g_assign _) ?_
  refine ol_nil (thenN ?_)
  refine wpIn_seq ?_
  refine reg ?_
  refine qq hS (g_move _) ?_
  refine qq hS (g_ldO 0 (vs := [.bool _, .int .i64 _, .int .i64 _, .slice _ _ _]) Tryz.sizeOf29 Tryz.isAgg29 rfl rfl rfl rfl) ?_
  refine qe (d_call Tryz.call19 rfl (apply_L p _ _ _ _ _ _ O (S.map (runB O)) 0 _ _ hS.imm h17 hgp.wf hgp.lif h33 rfl hXA)) ?_
  rintro _ w_10 ⟨I_f, a37, c37, rfl, hE, h37⟩
  replace hS := hS.callE hE
  replace h4 := h4.mono hE.ext
  replace hb := hb.mono hE.ext
  replace h17 := h17.mono hE.ext
  replace h20 := h20.mono hE.ext
  replace h26 := h26.mono hE.ext
  replace h27 := h27.mono hE.ext
  replace h33 := h33.mono hE.ext
  refine qq hS (g_move _) ?_
  refine qq hS (g_extract rfl rfl) ?_
  refine qq hS (g_extract (v := .int .i64 _) rfl rfl) ?_
  refine qq hS (g_assign _) ?_
  refine qq hS (g_assignv (v := .int .i64 _) rfl) ?_
  refine ol_nil (thenN ?_)
  refine wpIn_seq ?_
  refine wpIn_seq ?_
  refine reg ?_
  refine qq hS (g_movev (v := .int .i64 _) rfl) ?_
  refine qq hS (g_neq rfl rfl) ?_
  refine qq hS (g_movev (v := .bool _) rfl) ?_
  refine qqs rfl rfl hS (g_movev (v := .int .i64 _) rfl) ?_
  refine qqs rfl rfl hS (g_neq rfl rfl) ?_
  refine qq hS (g_or rfl rfl (fun _ => rfl)) ?_
  refine qq hS (g_movev (v := .bool _) rfl) ?_
  refine qqs rfl rfl hS (g_move _) ?_
  refine qqs rfl rfl hS (g_lenI rfl Tryz.underlying51 h27 rfl) ?_
  refine qqs rfl rfl hS (g_neq rfl rfl) ?_
  refine qq hS (g_or rfl rfl (fun _ => rfl)) ?_
  refine qq hS (g_movev (v := .bool _) rfl) ?_
  refine qqs rfl rfl hS (g_movev (v := .int .i64 _) rfl) ?_
  refine qqs rfl rfl hS (g_neq rfl rfl) ?_
  refine qq hS (g_or rfl rfl (fun _ => rfl)) ?_
  refine qq hS (g_movev (v := .bool _) rfl) ?_
  refine qqs rfl rfl hS (g_move _) ?_
  refine qqs rfl rfl hS (g_lenI rfl Tryz.underlying25 h37 rfl) ?_
  refine qqs rfl rfl hS (g_fieldAddr (o' := 1) Tryz.underlying29 rfl Tryz.sizeOf3 rfl rfl rfl) ?_
  refine qqs rfl rfl hS (g_ldO1 0 Tryz.isAgg3 rfl rfl rfl) ?_
  refine qqs rfl rfl hS (g_neqF rfl rfl hRn) ?_
  refine qq hS (g_or rfl rfl (fun _ => rfl)) ?_
  refine qq hS (g_movev (v := .bool _) rfl) ?_
  refine qqs rfl rfl hS (g_move _) ?_
  refine qqs rfl rfl hS (g_fieldAddr (o' := 1) Tryz.underlying29 rfl Tryz.sizeOf3 rfl rfl rfl) ?_
  refine qqs rfl rfl hS (g_ldO1 0 Tryz.isAgg3 rfl rfl rfl) ?_
  refine qes rfl rfl (d_call Tryz.call28 rfl (right11_T (rngs N (touched S)) p.in_ _ _ _ _ _ hS.imm h20 rfl hri)) ?_
  rintro _ w_11 ⟨rfl, hE⟩
  replace hS := hS.callE hE
  refine qqs rfl rfl hS (g_not rfl) ?_
  refine qq hS (g_or rfl rfl (fun _ => rfl)) ?_
  refine ol_nil (thenN ?_)
  refine cond_f (rfl) ?_
  refine wpIn_skip ?_
  refine thenN ?_
  refine wpIn_seq ?_
  refine wpIn_seq ?_
  refine reg ?_
  refine qq hS (g_assignv (v := .int .i64 _) rfl) ?_
  refine ol_nil (thenN ?_)
  refine wpIn_block ?_
  refine loop (fun (i : Nat) σ w => okS σ [(5, .bool true), (6, .pointer (some ⟨b6, 0, none⟩)), (7, .slice a20 (rngs N (touched S)).length c20), (11, .slice a33 O.length c33), (12, .slice a37 (S.map (runB O)).length c37), (14, .int .i64 i)] ∧ St [] w0 I0 I_f w [.cel b6 29 [.bool p.lifted, .int .i64 p.in_, .int .i64 p.out, .slice a17 m17 c17]] ∧ i ≤ N) (fun i => N - i) (0) ?_ ?_
  ·
    exact ⟨⟨rfl, rfl, rfl, rfl, rfl, rfl, trivial⟩, hS.sel [true, false], by omega⟩
  ·
    rintro i σ w_l ⟨hs, hS, hi0⟩
    rw [← upds_self hs]; clear hs
    refine wpIn_seq ?_
    refine wpIn_seq ?_
    refine reg ?_
    refine qq hS (g_movev (v := .int .i64 _) rfl) ?_
    refine qq hS (g_fieldAddr (o' := 1) Tryz.underlying29 rfl Tryz.sizeOf3 rfl rfl rfl) ?_
    refine qq hS (g_ldO1 0 Tryz.isAgg3 rfl rfl rfl) ?_
    refine qq hS (g_lss rfl rfl) ?_
    refine ol_nil (thenN ?_)
    refine cond_s rfl ?_ ?_
    ·
      intro hc72
      try simp only [Bool.and_eq_true, Bool.or_eq_true, Bool.not_eq_true', Bool.and_eq_false_imp, Bool.or_eq_false_iff, Bool.not_eq_false', decide_eq_true_eq, decide_eq_false_iff_not] at hc72
      obtain ⟨s, hsi⟩ : ∃ s, S[i]? = some s := ⟨_, List.getElem?_eq_getElem (by omega)⟩
      obtain ⟨o, hoi⟩ : ∃ o, O[i]? = some o := ⟨_, List.getElem?_eq_getElem (by omega)⟩
      have hob := hOb o (List.mem_of_getElem? hoi)
      have hyA := h37.at (show (S.map (runB O))[i]? = some (runB O s) by rw [List.getElem?_map, hsi]; rfl)
      have hoA := h33.at hoi
      have hfin : (!inR (rngs N (touched S)) (i : Int) && !decide (runB O s = o)) = false := by
        rw [rngs_in (touched S) N i (by omega)]
        cases ht : touched S i with
        | true => rfl
        | false =>
          have hu := untouched ht
          rw [sAt_of hsi] at hu
          rw [hu, runB_at hoi hob, decide_eq_true rfl]; rfl
      refine wpIn_skip ?_
      refine thenN ?_
      refine wpIn_seq ?_
      refine wpIn_block ?_
      refine wpIn_seq ?_
      refine draw (.cons 0 .pure (.cons 1 .pure (.cons 2 .eff (.cons 3 .pure (.cons 4 .pure (.cons 5 .pure (.cons 6 .pure (.cons 7 .pure (.cons 8 .held (.cons 9 .pure (.cons 10 .pure (.cons 11 .pure (.cons 12 .held (.cons 13 .pure (.cons 14 .pure .nil))))))))))))))) mixed (by kernel_rfl) hS ?_
      intro w_12 hS
      refine sp rfl (g_move _) ?_
      refine sp rfl (g_movev (v := .int .i64 _) rfl) ?_
      have hS0 := hS
      refine se rfl (d_call Tryz.call29 rfl (in11_c (rngs N (touched S)) (i : Int) _ _ _ _ hS.imm h20 hmid)) ?_
      rintro _ w_13 ⟨rfl, hE⟩
      replace hS := hS.call hE
      refine ⟨_, _, hS0.le hE.ext (List.Sublist.refl _), hS, ?_⟩
      refine sp rfl (g_not rfl) ?_
      refine sp rfl (g_movev (v := .bool _) rfl) ?_
      refine spu rfl rfl rfl (fun hg => (g_move _)) ?_
      intro u80 hu80 hn80
      refine spu rfl rfl rfl (fun hg => (g_movev (v := .int .i64 _) rfl)) ?_
      intro u81 hu81 hn81
      refine spu rfl rfl rfl (fun hg => (g_ixI Tryz.underlying25 Tryz.sizeOf5 h37 (hu80 hg) (hu81 hg) (by omega) (by omega))) ?_
      intro u82 hu82 hn82
      refine shu rfl rfl rfl (fun hg => (g_ldE1 Tryz.isAgg5 hyA (hu82 hg) rfl)) ?_
      intro u83 hu83 hn83
      refine spu rfl rfl rfl (fun hg => (g_move _)) ?_
      intro u84 hu84 hn84
      refine spu rfl rfl rfl (fun hg => (g_movev (v := .int .i64 _) rfl)) ?_
      intro u85 hu85 hn85
      refine spu rfl rfl rfl (fun hg => (g_ixI Tryz.underlying25 Tryz.sizeOf5 h33 (hu84 hg) (hu85 hg) (by omega) (by omega))) ?_
      intro u86 hu86 hn86
      refine shu rfl rfl rfl (fun hg => (g_ldE1 Tryz.isAgg5 hoA (hu86 hg) rfl)) ?_
      intro u87 hu87 hn87
      refine spu rfl rfl rfl (fun hg => (g_neq (hu83 hg) (hu87 hg))) ?_
      intro u88 hu88 hn88
      refine sp rfl (g_and rfl rfl (fun hq => hu88 hq)) ?_
      refine sn (thenN ?_)
      refine cond_f (congrArg Value.bool hfin) ?_
      refine wpIn_skip ?_
      refine blkN (thenN ?_)
      refine reg ?_
      refine qq hS (g_movev (v := .int .i64 _) rfl) ?_
      refine qq hS (g_add rfl rfl (by omega) (by omega)) ?_
      refine qq hS (g_assignv (v := .int .i64 _) rfl) ?_
      refine ol_nil (thenN ?_)
      exact ⟨i + 1, _, rfl, ⟨⟨rfl, rfl, rfl, rfl, rfl, rfl, trivial⟩, hS.sel [true], by omega⟩, by omega⟩
    ·
      intro hc72
      try simp only [Bool.and_eq_true, Bool.or_eq_true, Bool.not_eq_true', Bool.and_eq_false_imp, Bool.or_eq_false_iff, Bool.not_eq_false', decide_eq_true_eq, decide_eq_false_iff_not] at hc72
      refine wpIn_exit ?_
      refine thenE (thenE (blkE ?_))
      refine thenN ?_
      refine wpIn_seq ?_
      refine reg ?_
      refine qq hS (g_movev (v := .bool _) rfl) ?_
      refine qq hS (g_assignv (v := .bool _) rfl) ?_
      refine ol_nil (thenN ?_)
      refine wpIn_ret ?_
      refine ret1 Tryz.results8 (rv_tmp (v := .bool _) rfl) ?_
      exact ⟨_, rfl, hS.nil⟩

end Go.Proofs.YtodopmclnklgdaaGreat

