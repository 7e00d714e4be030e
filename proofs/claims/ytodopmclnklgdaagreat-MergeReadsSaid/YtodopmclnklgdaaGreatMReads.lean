/- inlaylaw11.MergeReads: its function answers true. Conditions: arguments are of their kinds. -/
import Derived.Test.YtodopmclnklgdaaGreatMExch
import Derived.Test.YtodopmclnklgdaaGreatInputO
namespace Go.Proofs.YtodopmclnklgdaaGreat
open Go Go.RowKit Go.Inl
set_option linter.unusedSimpArgs false
set_option linter.unusedVariables false
/-- The second input with the bytes of the first at the places below i that are read. -/
def mixB (F Z : List Int) (rd : Nat → Bool) (i : Nat) : List Int := (List.range Z.length).map fun j => if decide (j < i) && rd j then F.getD j 0 else Z.getD j 0
theorem mixB_len (F Z : List Int) (rd : Nat → Bool) (i : Nat) : (mixB F Z rd i).length = Z.length := by simp [mixB]
theorem mixB_at {F Z : List Int} {rd : Nat → Bool} {i j : Nat} (h : j < Z.length) : (mixB F Z rd i)[j]? = some (if decide (j < i) && rd j then F.getD j 0 else Z.getD j 0) := by simp [mixB, h]
theorem mixB_zero (F Z : List Int) (rd : Nat → Bool) : mixB F Z rd 0 = Z := by
  apply List.ext_getElem?
  intro j
  by_cases hj : j < Z.length
  · rw [mixB_at hj, decide_eq_false (show ¬ j < 0 by omega), Bool.false_and, if_neg (by simp), List.getD_eq_getElem?_getD, List.getElem?_eq_getElem hj]; rfl
  · rw [List.getElem?_eq_none (by rw [mixB_len]; omega), List.getElem?_eq_none (by omega)]
theorem mixB_set {F Z : List Int} {rd : Nat → Bool} {i : Nat} {f : Int} (hf : F[i]? = some f) (h : rd i = true) (hi : i < Z.length) : (mixB F Z rd i).set i f = mixB F Z rd (i + 1) := by
  apply List.ext_getElem?
  intro j
  rw [List.getElem?_set]
  by_cases hj : j < Z.length
  · by_cases e : i = j
    · subst e
      rw [if_pos rfl, if_pos (by rw [mixB_len]; exact hi), mixB_at hj, h, decide_eq_true (by omega), List.getD_eq_getElem?_getD, hf]; rfl
    · rw [if_neg e, mixB_at hj, mixB_at hj]
      by_cases h2 : j < i
      · rw [decide_eq_true h2, decide_eq_true (show j < i + 1 by omega)]
      · rw [decide_eq_false h2, decide_eq_false (show ¬ j < i + 1 by omega)]
  · rw [if_neg (by omega), List.getElem?_eq_none (by rw [mixB_len]; omega), List.getElem?_eq_none (by rw [mixB_len]; omega)]
theorem mixB_skip {F Z : List Int} {rd : Nat → Bool} {i : Nat} (h : rd i = false) : mixB F Z rd i = mixB F Z rd (i + 1) := by
  unfold mixB
  refine List.map_congr_left fun j hj => ?_
  by_cases e : j = i
  · subst e; rw [h]; simp
  · by_cases h2 : j < i
    · rw [decide_eq_true h2, decide_eq_true (show j < i + 1 by omega)]
    · rw [decide_eq_false h2, decide_eq_false (show ¬ j < i + 1 by omega)]
theorem readP_good {p : PatL} {n : Int} (h : Good11 p n) (hn : n ≤ 65536) : readP p = (rngs (symsP p).length (readUp (symsP p) (symsP p).length), 0) := by
  unfold readP
  rw [if_neg]
  have hc := good_checkM h h
  unfold checkM at hc ⊢
  simp only [List.all_cons, List.all_nil, List.any_cons, List.any_nil, List.find?_cons, List.find?_nil] at hc ⊢
  first
    | simpa using hc
    | (simp at hc ⊢; exact hc)
theorem reads_at {S : List Sym} {F Z : List Int} {N i : Nat} {s : Sym} (hS : S.length = N) (hF : F.length = N) (hZ : Z.length = N) (ok : okL N S) (hi : S[i]? = some s) (ht : touched S i = true) : runB F s = runB (mixB F Z (readUp S N) N) s := by
  refine runB_congr fun ho => ?_
  have hok := ok s (List.mem_of_getElem? hi)
  unfold strange at hok
  simp [ho] at hok
  have hil := (List.getElem?_eq_some_iff.1 hi).1
  have hr := readUp_of (l := S) (i := i) (j := s.at_.toNat) (by omega) ht (by rw [sAt_of hi]; exact ho) (by rw [sAt_of hi]; omega)
  rw [hS] at hr
  rw [mixB_at (by omega), hr, decide_eq_true (show s.at_.toNat < N by omega)]
  obtain ⟨f, hf⟩ : ∃ f, F[s.at_.toNat]? = some f := ⟨_, List.getElem?_eq_getElem (by omega)⟩
  rw [List.getD_eq_getElem?_getD, hf]; rfl

set_option maxRecDepth 20000 in
set_option maxHeartbeats 4000000 in
theorem mreads_c (r : Int) (ad bd ed : Option Addr) (cap capb cape : Nat) (l : List Q4) (bs cs : List Int) (w0 : World) (I0 : Imm) (hI : Sat I0 w0) (hr : 0 ≤ r ∧ r ≤ 255) (h4 : RFl I0 4 q4C (.slice ad l.length cap) l) (hq : ∀ q ∈ l, q.wf) (hb : RBytes I0 (.slice bd bs.length capb) bs) (hbb : ∀ y ∈ bs, 0 ≤ y ∧ y ≤ 255) (hc : RBytes I0 (.slice ed cs.length cape) cs) (hcb : ∀ y ∈ cs, 0 ≤ y ∧ y ≤ 255) :
    Ctr Tryz.prog 5 [.agg #[.int .u8 r, .slice ad l.length cap], .agg #[.slice bd bs.length capb, .slice ed cs.length cape]] w0 (fun v w' => ∃ I', v = .bool true ∧ Ext w0 I0 w' I') := by
  refine fn (n := 124) Tryz.func5 rfl rfl rfl ?_
  have hS := St.start hI
  refine wpIn_seq ?_
  refine reg ?_
  refine qe (d_box (cs := [.int .u8 _, .slice _ _ _]) hS rfl) ?_
  clear hS
  rintro _ w_1 ⟨b2, rfl, hS⟩
  refine qe (d_box (cs := [.slice _ _ _, .slice _ _ _]) hS rfl) ?_
  clear hS
  rintro _ w_2 ⟨b3, rfl, hS⟩
  refine qq hS (g_assignv (v := .bool _) rfl) ?_
  refine ol_nil (thenN ?_)
  refine wpIn_seq ?_
  refine reg ?_
  refine qe (d_call Tryz.call24 rfl (sanity11_c _ _ hS.imm)) ?_
  rintro _ w_3 ⟨I_f, rfl, hE⟩
  replace hS := hS.callE hE
  replace h4 := h4.mono hE.ext
  replace hb := hb.mono hE.ext
  replace hc := hc.mono hE.ext
  refine qq hS (g_assignv (v := .bool _) rfl) ?_
  refine ol_nil (thenN ?_)
  refine wpIn_seq ?_
  refine reg ?_
  refine qq hS (g_ldO 1 (vs := [.int .u8 _, .slice _ _ _]) Tryz.sizeOf48 Tryz.isAgg48 rfl rfl rfl rfl) ?_
  refine qe (d_call Tryz.call25 rfl (made11_c r ad cap l _ _ hS.imm hr h4 hq)) ?_
  rintro _ w_4 ⟨I_f, p, a21, m21, c21, rfl, hE, h21, hgp⟩
  replace hS := hS.callE hE
  replace h4 := h4.mono hE.ext
  replace hb := hb.mono hE.ext
  replace hc := hc.mono hE.ext
  refine qe (d_alloc (cs := [.bool _, .int .i64 _, .int .i64 _, .slice _ _ _]) hS Tryz.zeroValue29 rfl) ?_
  clear hS
  rintro _ w_5 ⟨b6, rfl, hS⟩
  refine qe (d_store 0 hS Tryz.sizeOf29 rfl rfl rfl (vs := [.bool _, .int .i64 _, .int .i64 _, .slice _ _ _]) rfl rfl rfl (Nat.le_of_ble_eq_true rfl) (cs' := [_, _, _, _]) rfl) ?_
  clear hS
  rintro _ w_6 ⟨rfl, hS⟩
  refine ol_nil (thenN ?_)
  refine wpIn_seq ?_
  have hpn : 0 ≤ p.in_ ∧ p.in_ ≤ 12 := by have := hgp.in_; omega
  replace hgp : Good11 p p.in_ := ⟨hgp.wf, hgp.ck, hgp.lif, rfl, by rw [hgp.out, hgp.in_]⟩
  have hn4 : 0 ≤ p.in_ ∧ p.in_ ≤ 4096 := by omega
  have hFl := inputP_len bs p.in_.toNat
  obtain ⟨F, hF⟩ : ∃ O, inputP bs p.in_.toNat = O := ⟨_, rfl⟩
  rw [hF] at hFl
  have hZl := inputP_len cs p.in_.toNat
  obtain ⟨Z, hZ⟩ : ∃ O, inputP cs p.in_.toNat = O := ⟨_, rfl⟩
  rw [hZ] at hZl
  have hTP := touchedP_good hgp (by omega)
  have hRP := readP_good hgp (by omega)
  have hSl := good_len hgp
  have hSo := good_okL hgp
  have hXY := apply_good (O := F) hgp (by omega)
  have hXZ := fun (O : List Int) (h : p.in_ = O.length) => apply_good (O := O) hgp h
  obtain ⟨S, hSe⟩ : ∃ S, symsP p = S := ⟨_, rfl⟩
  rw [hSe] at hTP hRP hSl hXY hSo
  simp only [hSe] at hXZ
  obtain ⟨N, hN⟩ : ∃ N, S.length = N := ⟨_, rfl⟩
  rw [hN] at hTP hRP hSl
  rw [show p.in_.toNat = N by omega] at hZ
  rw [← hSl] at hSo
  replace hXZ := hXZ (mixB F Z (readUp S N) N) (by rw [mixB_len]; omega)
  have hRy : ((S.map (runB F)).length : Int) = p.in_ := by rw [List.length_map]; omega
  have hRz : ((S.map (runB (mixB F Z (readUp S N) N))).length : Int) = p.in_ := by rw [List.length_map]; omega
  have hri : rightL (rngs N (readUp S N)) p.in_ = true := rngs_right (by omega)
  have hmidT : ∀ r ∈ (rngs N (touched S)), Mid r.1 ∧ Mid r.2 := rngs_mid (by omega)
  have hmidR : ∀ r ∈ (rngs N (readUp S N)), Mid r.1 ∧ Mid r.2 := rngs_mid (by omega)
  refine reg ?_
  refine qq hS (g_ldO 0 (vs := [.bool _, .int .i64 _, .int .i64 _, .slice _ _ _]) Tryz.sizeOf29 Tryz.isAgg29 rfl rfl rfl rfl) ?_
  refine qe (d_call Tryz.call26 rfl (touched_L p (rngs N (touched S)) 0 (rngs N (touched S)).length _ _ _ _ _ hS.imm hgp.wf h21 hTP rfl)) ?_
  rintro _ w_7 ⟨I_f, a24, c24, rfl, hE, h24⟩
  replace hS := hS.callE hE
  replace h4 := h4.mono hE.ext
  replace hb := hb.mono hE.ext
  replace hc := hc.mono hE.ext
  replace h21 := h21.mono hE.ext
  refine qq hS (g_move _) ?_
  refine qq hS (g_extract rfl rfl) ?_
  refine qq hS (g_extract (v := .int .i64 _) rfl rfl) ?_
  refine qq hS (g_assign _) ?_
  refine qq hS (g_assignv (v := .int .i64 _) rfl) ?_
  refine ol_nil (thenN ?_)
  refine wpIn_seq ?_
  refine reg ?_
  refine qq hS (g_ldO 0 (vs := [.bool _, .int .i64 _, .int .i64 _, .slice _ _ _]) Tryz.sizeOf29 Tryz.isAgg29 rfl rfl rfl rfl) ?_
  refine qe (d_call Tryz.call27 rfl (read_L p (rngs N (readUp S N)) 0 (rngs N (readUp S N)).length _ _ _ _ _ hS.imm hgp.wf h21 hRP rfl)) ?_
  rintro _ w_8 ⟨I_f, a29, c29, rfl, hE, h29⟩
  replace hS := hS.callE hE
  replace h4 := h4.mono hE.ext
  replace hb := hb.mono hE.ext
  replace hc := hc.mono hE.ext
  replace h21 := h21.mono hE.ext
  replace h24 := h24.mono hE.ext
  refine qq hS (g_move _) ?_
  refine qq hS (g_extract rfl rfl) ?_
  refine qq hS (g_extract (v := .int .i64 _) rfl rfl) ?_
  refine qq hS (g_assign _) ?_
  refine qq hS (g_assignv (v := .int .i64 _) rfl) ?_
  refine ol_nil (thenN ?_)
  refine wpIn_seq ?_
  refine wpIn_seq ?_
  refine reg ?_
  refine qq hS (g_movev (v := .int .i64 _) rfl) ?_
  refine qq hS (g_neq rfl rfl) ?_
  refine qq hS (g_movev (v := .bool _) rfl) ?_
  refine qqs rfl rfl hS (g_movev (v := .int .i64 _) rfl) ?_
  refine qqs rfl rfl hS (g_neq rfl rfl) ?_
  refine qq hS (g_or rfl rfl (fun _ => rfl)) ?_
  refine qq hS (g_movev (v := .bool _) rfl) ?_
  refine qqs rfl rfl hS (g_move _) ?_
  refine qqs rfl rfl hS (g_fieldAddr (o' := 1) Tryz.underlying29 rfl Tryz.sizeOf3 rfl rfl rfl) ?_
  refine qqs rfl rfl hS (g_ldO1 0 Tryz.isAgg3 rfl rfl rfl) ?_
  refine qes rfl rfl (d_call Tryz.call28 rfl (right11_T (rngs N (readUp S N)) p.in_ _ _ _ _ _ hS.imm h29 rfl hri)) ?_
  rintro _ w_9 ⟨rfl, hE⟩
  replace hS := hS.callE hE
  refine qqs rfl rfl hS (g_not rfl) ?_
  refine qq hS (g_or rfl rfl (fun _ => rfl)) ?_
  refine ol_nil (thenN ?_)
  refine cond_f (rfl) ?_
  refine wpIn_skip ?_
  refine thenN ?_
  refine wpIn_seq ?_
  refine draw (.cons 0 .pure (.cons 1 .held (.cons 2 .pure (.cons 3 .held (.cons 5 .pure (.cons 6 .held (.cons 7 .pure (.cons 8 .held (.cons 4 .eff (.cons 9 .eff (.cons 10 .pure (.cons 11 .pure .nil)))))))))))) mixed (by kernel_rfl) hS ?_
  intro w_10 hS
  refine sp rfl (g_indexArr (o' := 0) Tryz.underlying49 Tryz.sizeOf25 rfl rfl (by decide) (by decide) rfl) ?_
  refine sh rfl (g_ldO1 1 Tryz.isAgg25 rfl rfl rfl) ?_
  refine sp rfl (g_fieldAddr (o' := 1) Tryz.underlying29 rfl Tryz.sizeOf3 rfl rfl rfl) ?_
  refine sh rfl (g_ldO1 0 Tryz.isAgg3 rfl rfl rfl) ?_
  refine sp rfl (g_indexArr (o' := 1) Tryz.underlying49 Tryz.sizeOf25 rfl rfl (by decide) (by decide) rfl) ?_
  refine sh rfl (g_ldO1 1 Tryz.isAgg25 rfl rfl rfl) ?_
  refine sp rfl (g_fieldAddr (o' := 1) Tryz.underlying29 rfl Tryz.sizeOf3 rfl rfl rfl) ?_
  refine sh rfl (g_ldO1 0 Tryz.isAgg3 rfl rfl rfl) ?_
  have hS0 := hS
  refine se rfl (d_call Tryz.call18 rfl (input_E _ _ bs p.in_ F _ _ hS.imm hb hbb ⟨by omega, by omega⟩ hF)) ?_
  rintro _ w_11 ⟨I_f, a49, c49, rfl, hE, h49⟩
  replace hS := hS.call hE
  replace h4 := h4.mono hE.ext
  replace hb := hb.mono hE.ext
  replace hc := hc.mono hE.ext
  replace h21 := h21.mono hE.ext
  replace h24 := h24.mono hE.ext
  replace h29 := h29.mono hE.ext
  refine ⟨_, _, hS0.le hE.ext (List.Sublist.refl _), hS, ?_⟩
  have hS0 := hS
  refine se rfl (d_call Tryz.call18 rfl (input_oE _ _ cs p.in_ N Z _ _ hS.imm hc hcb (by omega) (by omega) hZ)) ?_
  rintro _ w_12 ⟨a54, c54, rfl, hE⟩
  replace hS := hS.call hE
  refine ⟨_, _, hS0.le hE.ext (List.sublist_append_right _ _), hS, ?_⟩
  refine sp rfl (g_assign _) ?_
  refine sp rfl (g_assign _) ?_
  refine sn (thenN ?_)
  refine wpIn_seq ?_
  refine wpIn_seq ?_
  refine reg ?_
  refine qq hS (g_assignv (v := .int .i64 _) rfl) ?_
  refine ol_nil (thenN ?_)
  refine wpIn_block ?_
  refine loop (fun (i : Nat) σ w => okS σ [(5, .bool true), (6, .pointer (some ⟨b6, 0, none⟩)), (7, .slice a24 (rngs N (touched S)).length c24), (9, .slice a29 (rngs N (readUp S N)).length c29), (11, .slice a49 F.length c49), (12, .slice a54 N c54), (13, .int .i64 i)] ∧ St [] w0 I0 I_f w [.row (.slice a54 N c54) 5 1 N (flat byteC (mixB F Z (readUp S N) i)), .cel b6 29 [.bool p.lifted, .int .i64 p.in_, .int .i64 p.out, .slice a21 m21 c21]] ∧ i ≤ N) (fun i => N - i) (0) ?_ ?_
  ·
    refine ⟨⟨rfl, rfl, rfl, rfl, rfl, rfl, rfl, trivial⟩, ?_, by omega⟩
    rw [mixB_zero]
    exact hS.sel [true, true, false, false]
  ·
    rintro i σ w_l ⟨hs, hS, hi0⟩
    rw [← upds_self hs]; clear hs
    refine wpIn_seq ?_
    refine wpIn_seq ?_
    refine reg ?_
    refine qq hS (g_movev (v := .int .i64 _) rfl) ?_
    refine qq hS (g_fieldAddr (o' := 1) Tryz.underlying29 rfl Tryz.sizeOf3 rfl rfl rfl) ?_
    refine qq hS (g_ldO1 1 Tryz.isAgg3 rfl rfl rfl) ?_
    refine qq hS (g_lss rfl rfl) ?_
    refine ol_nil (thenN ?_)
    refine cond_s rfl ?_ ?_
    ·
      intro hc58
      try simp only [Bool.and_eq_true, Bool.or_eq_true, Bool.not_eq_true', Bool.and_eq_false_imp, Bool.or_eq_false_iff, Bool.not_eq_false', decide_eq_true_eq, decide_eq_false_iff_not] at hc58
      obtain ⟨f, hfi⟩ : ∃ f, F[i]? = some f := ⟨_, List.getElem?_eq_getElem (by omega)⟩
      have hfA := h49.at hfi
      have hmN : N = (mixB F Z (readUp S N) i).length := by rw [mixB_len]; omega
      have hma := mixB_at (F := F) (Z := Z) (rd := readUp S N) (i := i) (show i < Z.length by omega)
      have hin := rngs_in (readUp S N) N i (by omega)
      refine wpIn_skip ?_
      refine thenN ?_
      refine wpIn_seq ?_
      refine wpIn_block ?_
      refine wpIn_seq ?_
      refine reg ?_
      refine qq hS (g_move _) ?_
      refine qq hS (g_movev (v := .int .i64 _) rfl) ?_
      refine qe (d_call Tryz.call29 rfl (in11_c (rngs N (readUp S N)) (i : Int) _ _ _ _ hS.imm h29 hmidR)) ?_
      rintro _ w_13 ⟨rfl, hE⟩
      replace hS := hS.callE hE
      refine ol_nil (thenN ?_)
      refine cond_s rfl ?_ ?_
      ·
        intro hc63
        try simp only [Bool.and_eq_true, Bool.or_eq_true, Bool.not_eq_true', Bool.and_eq_false_imp, Bool.or_eq_false_iff, Bool.not_eq_false', decide_eq_true_eq, decide_eq_false_iff_not] at hc63
        rw [hin] at hc63
        have hst := mixB_set (Z := Z) hfi hc63 (show i < Z.length by omega)
        refine reg ?_
        refine qq hS (g_move _) ?_
        refine qq hS (g_movev (v := .int .i64 _) rfl) ?_
        refine qq hS (g_move _) ?_
        refine qq hS (g_movev (v := .int .i64 _) rfl) ?_
        refine qq hS (g_ixI Tryz.underlying25 Tryz.sizeOf5 h49 rfl rfl (by omega) (by omega)) ?_
        refine qq hS (g_ldE1 Tryz.isAgg5 hfA rfl rfl) ?_
        refine qq hS (g_ixR 0 Tryz.underlying25 Tryz.sizeOf5 rfl rfl rfl (by omega) (by omega)) ?_
        refine qe (d_storeRow 0 byteC_len f hS hmN hma Tryz.sizeOf5 rfl rfl rfl (vs := [.int .u8 _]) rfl rfl rfl rfl rfl) ?_
        clear hS
        rintro _ w_14 ⟨rfl, hS⟩
        refine ol_nil (blkN (thenN ?_))
        refine reg ?_
        refine qq hS (g_movev (v := .int .i64 _) rfl) ?_
        refine qq hS (g_add rfl rfl (by omega) (by omega)) ?_
        refine qq hS (g_assignv (v := .int .i64 _) rfl) ?_
        refine ol_nil (thenN ?_)
        first
          | (refine ⟨i + 1, _, rfl, ⟨⟨rfl, rfl, rfl, rfl, rfl, rfl, rfl, trivial⟩, ?_, by omega⟩, by omega⟩
             rw [← hsk]
             exact hS.sel [true, true])
          | (refine ⟨i + 1, _, rfl, ⟨⟨rfl, rfl, rfl, rfl, rfl, rfl, rfl, trivial⟩, ?_, by omega⟩, by omega⟩
             rw [← hst]
             exact hS.sel [true, true])
      ·
        intro hc63
        try simp only [Bool.and_eq_true, Bool.or_eq_true, Bool.not_eq_true', Bool.and_eq_false_imp, Bool.or_eq_false_iff, Bool.not_eq_false', decide_eq_true_eq, decide_eq_false_iff_not] at hc63
        rw [hin] at hc63
        have hsk := mixB_skip (F := F) (Z := Z) hc63
        refine wpIn_skip ?_
        refine blkN (thenN ?_)
        refine reg ?_
        refine qq hS (g_movev (v := .int .i64 _) rfl) ?_
        refine qq hS (g_add rfl rfl (by omega) (by omega)) ?_
        refine qq hS (g_assignv (v := .int .i64 _) rfl) ?_
        refine ol_nil (thenN ?_)
        first
          | (refine ⟨i + 1, _, rfl, ⟨⟨rfl, rfl, rfl, rfl, rfl, rfl, rfl, trivial⟩, ?_, by omega⟩, by omega⟩
             rw [← hsk]
             exact hS.sel [true, true])
          | (refine ⟨i + 1, _, rfl, ⟨⟨rfl, rfl, rfl, rfl, rfl, rfl, rfl, trivial⟩, ?_, by omega⟩, by omega⟩
             rw [← hst]
             exact hS.sel [true, true])
    ·
      intro hc58
      try simp only [Bool.and_eq_true, Bool.or_eq_true, Bool.not_eq_true', Bool.and_eq_false_imp, Bool.or_eq_false_iff, Bool.not_eq_false', decide_eq_true_eq, decide_eq_false_iff_not] at hc58
      have hi : N = i := by omega
      subst hi
      refine wpIn_exit ?_
      refine thenE (thenE (blkE ?_))
      refine thenN ?_
      refine wpIn_seq ?_
      have hmN : N = (mixB F Z (readUp S N) N).length := by rw [mixB_len]; omega
      have hF := St.freezeRow (u := .slice a54 N c54) (m := N) (xs := (mixB F Z (readUp S N) N)) byteC_len (by exact hS.ord [0, 1]) (by rw [mixB_len]; omega)
      clear hS
      obtain ⟨I_hse, hS, hI_hse, hse⟩ := hF
      replace h21 := h21.mono hI_hse
      replace h24 := h24.mono hI_hse
      replace h29 := h29.mono hI_hse
      replace h49 := h49.mono hI_hse
      refine reg ?_
      refine qq hS (g_move _) ?_
      refine qq hS (g_ldO 0 (vs := [.bool _, .int .i64 _, .int .i64 _, .slice _ _ _]) Tryz.sizeOf29 Tryz.isAgg29 rfl rfl rfl rfl) ?_
      refine qe (d_call Tryz.call19 rfl (apply_L p _ _ _ _ _ _ F (S.map (runB F)) 0 _ _ hS.imm h21 hgp.wf hgp.lif h49 rfl hXY)) ?_
      rintro _ w_15 ⟨I_f, a74, c74, rfl, hE, h74⟩
      replace hS := hS.callE hE
      replace h21 := h21.mono hE.ext
      replace h24 := h24.mono hE.ext
      replace h29 := h29.mono hE.ext
      replace h49 := h49.mono hE.ext
      replace hse := hse.mono hE.ext
      refine qq hS (g_move _) ?_
      refine qq hS (g_extract rfl rfl) ?_
      refine qq hS (g_extract (v := .int .i64 _) rfl rfl) ?_
      refine qq hS (g_assign _) ?_
      refine qq hS (g_assignv (v := .int .i64 _) rfl) ?_
      refine ol_nil (thenN ?_)
      refine wpIn_seq ?_
      refine reg ?_
      refine qq hS (g_move _) ?_
      refine qq hS (g_ldO 0 (vs := [.bool _, .int .i64 _, .int .i64 _, .slice _ _ _]) Tryz.sizeOf29 Tryz.isAgg29 rfl rfl rfl rfl) ?_
      refine qe (d_call Tryz.call19 rfl (apply_L p _ _ _ _ _ _ (mixB F Z (readUp S N) N) (S.map (runB (mixB F Z (readUp S N) N))) 0 _ _ hS.imm h21 hgp.wf hgp.lif hse hmN hXZ)) ?_
      rintro _ w_16 ⟨I_f, a80, c80, rfl, hE, h80⟩
      replace hS := hS.callE hE
      replace h21 := h21.mono hE.ext
      replace h24 := h24.mono hE.ext
      replace h29 := h29.mono hE.ext
      replace h49 := h49.mono hE.ext
      replace hse := hse.mono hE.ext
      replace h74 := h74.mono hE.ext
      refine qq hS (g_move _) ?_
      refine qq hS (g_extract rfl rfl) ?_
      refine qq hS (g_extract (v := .int .i64 _) rfl rfl) ?_
      refine qq hS (g_assign _) ?_
      refine qq hS (g_assignv (v := .int .i64 _) rfl) ?_
      refine ol_nil (thenN ?_)
      refine wpIn_seq ?_
      refine wpIn_seq ?_
      refine reg ?_
      refine qq hS (g_movev (v := .int .i64 _) rfl) ?_
      refine qq hS (g_neq rfl rfl) ?_
      refine qq hS (g_movev (v := .bool _) rfl) ?_
      refine qqs rfl rfl hS (g_movev (v := .int .i64 _) rfl) ?_
      refine qqs rfl rfl hS (g_neq rfl rfl) ?_
      refine qq hS (g_or rfl rfl (fun _ => rfl)) ?_
      refine qq hS (g_movev (v := .bool _) rfl) ?_
      refine qqs rfl rfl hS (g_move _) ?_
      refine qqs rfl rfl hS (g_lenI rfl Tryz.underlying25 h74 rfl) ?_
      refine qqs rfl rfl hS (g_fieldAddr (o' := 1) Tryz.underlying29 rfl Tryz.sizeOf3 rfl rfl rfl) ?_
      refine qqs rfl rfl hS (g_ldO1 0 Tryz.isAgg3 rfl rfl rfl) ?_
      refine qqs rfl rfl hS (g_neqF rfl rfl hRy) ?_
      refine qq hS (g_or rfl rfl (fun _ => rfl)) ?_
      refine qq hS (g_movev (v := .bool _) rfl) ?_
      refine qqs rfl rfl hS (g_move _) ?_
      refine qqs rfl rfl hS (g_lenI rfl Tryz.underlying25 h80 rfl) ?_
      refine qqs rfl rfl hS (g_fieldAddr (o' := 1) Tryz.underlying29 rfl Tryz.sizeOf3 rfl rfl rfl) ?_
      refine qqs rfl rfl hS (g_ldO1 0 Tryz.isAgg3 rfl rfl rfl) ?_
      refine qqs rfl rfl hS (g_neqF rfl rfl hRz) ?_
      refine qq hS (g_or rfl rfl (fun _ => rfl)) ?_
      refine ol_nil (thenN ?_)
      refine cond_f (rfl) ?_
      refine wpIn_skip ?_
      refine thenN ?_
      refine wpIn_seq ?_
      refine wpIn_seq ?_
      refine reg ?_
      refine qq hS (g_assignv (v := .int .i64 _) rfl) ?_
      refine ol_nil (thenN ?_)
      refine wpIn_block ?_
      refine loop (fun (i : Nat) σ w => okS σ [(5, .bool true), (6, .pointer (some ⟨b6, 0, none⟩)), (7, .slice a24 (rngs N (touched S)).length c24), (14, .slice a74 (S.map (runB F)).length c74), (16, .slice a80 (S.map (runB (mixB F Z (readUp S N) N))).length c80), (18, .int .i64 i)] ∧ St [] w0 I0 I_f w [.cel b6 29 [.bool p.lifted, .int .i64 p.in_, .int .i64 p.out, .slice a21 m21 c21]] ∧ i ≤ N) (fun i => N - i) (0) ?_ ?_
      ·
        exact ⟨⟨rfl, rfl, rfl, rfl, rfl, rfl, trivial⟩, hS.sel [true], by omega⟩
      ·
        rintro i σ w_l ⟨hs, hS, hi0⟩
        rw [← upds_self hs]; clear hs
        refine wpIn_seq ?_
        refine wpIn_seq ?_
        refine reg ?_
        refine qq hS (g_movev (v := .int .i64 _) rfl) ?_
        refine qq hS (g_fieldAddr (o' := 1) Tryz.underlying29 rfl Tryz.sizeOf3 rfl rfl rfl) ?_
        refine qq hS (g_ldO1 0 Tryz.isAgg3 rfl rfl rfl) ?_
        refine qq hS (g_lss rfl rfl) ?_
        refine ol_nil (thenN ?_)
        refine cond_s rfl ?_ ?_
        ·
          intro hc106
          try simp only [Bool.and_eq_true, Bool.or_eq_true, Bool.not_eq_true', Bool.and_eq_false_imp, Bool.or_eq_false_iff, Bool.not_eq_false', decide_eq_true_eq, decide_eq_false_iff_not] at hc106
          obtain ⟨s, hsi⟩ : ∃ s, S[i]? = some s := ⟨_, List.getElem?_eq_getElem (by omega)⟩
          have hyA := h74.at (show (S.map (runB F))[i]? = some (runB F s) by rw [List.getElem?_map, hsi]; rfl)
          have hzA := h80.at (show (S.map (runB (mixB F Z (readUp S N) N)))[i]? = some (runB (mixB F Z (readUp S N) N) s) by rw [List.getElem?_map, hsi]; rfl)
          have hfin : (inR (rngs N (touched S)) (i : Int) && !decide (runB F s = runB (mixB F Z (readUp S N) N) s)) = false := by
            rw [rngs_in (touched S) N i (by omega)]
            cases ht : touched S i with
            | false => rfl
            | true => rw [← reads_at hN (by omega) (by omega) hSo hsi ht, decide_eq_true rfl]; rfl
          refine wpIn_skip ?_
          refine thenN ?_
          refine wpIn_seq ?_
          refine wpIn_block ?_
          refine wpIn_seq ?_
          refine draw (.cons 0 .pure (.cons 1 .pure (.cons 2 .eff (.cons 3 .pure (.cons 4 .pure (.cons 5 .pure (.cons 6 .pure (.cons 7 .held (.cons 8 .pure (.cons 9 .pure (.cons 10 .pure (.cons 11 .held (.cons 12 .pure (.cons 13 .pure .nil)))))))))))))) mixed (by kernel_rfl) hS ?_
          intro w_17 hS
          refine sp rfl (g_move _) ?_
          refine sp rfl (g_movev (v := .int .i64 _) rfl) ?_
          have hS0 := hS
          refine se rfl (d_call Tryz.call29 rfl (in11_c (rngs N (touched S)) (i : Int) _ _ _ _ hS.imm h24 hmidT)) ?_
          rintro _ w_18 ⟨rfl, hE⟩
          replace hS := hS.call hE
          refine ⟨_, _, hS0.le hE.ext (List.Sublist.refl _), hS, ?_⟩
          refine sp rfl (g_movev (v := .bool _) rfl) ?_
          refine spu rfl rfl rfl (fun hg => (g_move _)) ?_
          intro u113 hu113 hn113
          refine spu rfl rfl rfl (fun hg => (g_movev (v := .int .i64 _) rfl)) ?_
          intro u114 hu114 hn114
          refine spu rfl rfl rfl (fun hg => (g_ixI Tryz.underlying25 Tryz.sizeOf5 h74 (hu113 hg) (hu114 hg) (by omega) (by omega))) ?_
          intro u115 hu115 hn115
          refine shu rfl rfl rfl (fun hg => (g_ldE1 Tryz.isAgg5 hyA (hu115 hg) rfl)) ?_
          intro u116 hu116 hn116
          refine spu rfl rfl rfl (fun hg => (g_move _)) ?_
          intro u117 hu117 hn117
          refine spu rfl rfl rfl (fun hg => (g_movev (v := .int .i64 _) rfl)) ?_
          intro u118 hu118 hn118
          refine spu rfl rfl rfl (fun hg => (g_ixI Tryz.underlying25 Tryz.sizeOf5 h80 (hu117 hg) (hu118 hg) (by omega) (by omega))) ?_
          intro u119 hu119 hn119
          refine shu rfl rfl rfl (fun hg => (g_ldE1 Tryz.isAgg5 hzA (hu119 hg) rfl)) ?_
          intro u120 hu120 hn120
          refine spu rfl rfl rfl (fun hg => (g_neq (hu116 hg) (hu120 hg))) ?_
          intro u121 hu121 hn121
          refine sp rfl (g_and rfl rfl (fun hq => hu121 hq)) ?_
          refine sn (thenN ?_)
          refine cond_f (congrArg Value.bool hfin) ?_
          refine wpIn_skip ?_
          refine blkN (thenN ?_)
          refine reg ?_
          refine qq hS (g_movev (v := .int .i64 _) rfl) ?_
          refine qq hS (g_add rfl rfl (by omega) (by omega)) ?_
          refine qq hS (g_assignv (v := .int .i64 _) rfl) ?_
          refine ol_nil (thenN ?_)
          exact ⟨i + 1, _, rfl, ⟨⟨rfl, rfl, rfl, rfl, rfl, rfl, trivial⟩, hS.sel [true], by omega⟩, by omega⟩
        ·
          intro hc106
          try simp only [Bool.and_eq_true, Bool.or_eq_true, Bool.not_eq_true', Bool.and_eq_false_imp, Bool.or_eq_false_iff, Bool.not_eq_false', decide_eq_true_eq, decide_eq_false_iff_not] at hc106
          refine wpIn_exit ?_
          refine thenE (thenE (blkE ?_))
          refine thenN ?_
          refine wpIn_seq ?_
          refine reg ?_
          refine qq hS (g_movev (v := .bool _) rfl) ?_
          refine qq hS (g_assignv (v := .bool _) rfl) ?_
          refine ol_nil (thenN ?_)
          refine wpIn_ret ?_
          refine ret1 Tryz.results5 (rv_tmp (v := .bool _) rfl) ?_
          exact ⟨_, rfl, hS.nil⟩

end Go.Proofs.YtodopmclnklgdaaGreat

