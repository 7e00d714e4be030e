/- inlaylaw11.MergeExchanges: its function answers true. Conditions: arguments are of their kinds. -/
import Derived.Test.YtodopmclnklgdaaGreatMBoth
namespace Go.Proofs.YtodopmclnklgdaaGreat
open Go Go.RowKit Go.Inl
set_option linter.unusedSimpArgs false
set_option linter.unusedVariables false
theorem disturbs_noK {s t : List Sym} (h : disturbs s t = false) {i : Nat} (hi : i < s.length) (ht : touched s i = true) : touched t i = false ∧ readUp t t.length i = false := by
  unfold disturbs at h
  rw [List.any_eq_false] at h
  have := h i (List.mem_range.2 hi)
  rw [ht] at this
  simpa using this
theorem readUp_of {l : List Sym} {i j : Nat} (hi : i < l.length) (ht : touched l i = true) (ho : (sAt l i).old = true) (ha : (sAt l i).at_ = (j : Int)) : readUp l l.length j = true := by
  unfold readUp
  rw [List.any_eq_true]
  exact ⟨i, List.mem_range.2 hi, by rw [ht, ho, ha]; simp⟩
theorem runB_bdK (O : List Int) {s : Sym} (h : s.wf) : 0 ≤ runB O s ∧ runB O s ≤ 255 := by
  unfold runB
  split
  · rw [IntKind.wrap_u8]; omega
  · exact ⟨h.2.2.1, h.2.2.2⟩
theorem runB_congr {A B : List Int} {s : Sym} (h : s.old = true → A[s.at_.toNat]? = B[s.at_.toNat]?) : runB A s = runB B s := by
  unfold runB
  cases ho : s.old with
  | false => rfl
  | true => simp only [List.getD_eq_getElem?_getD, h ho]
theorem exch_at {S T : List Sym} {O : List Int} {N : Nat} (hS : S.length = N) (hT : T.length = N) (hO : O.length = N) (hOb : ∀ y ∈ O, 0 ≤ y ∧ y ≤ 255) (okT : okL N T) (hwS : ∀ s ∈ S, s.wf)
    (h1 : disturbs S T = false) (h2 : disturbs T S = false) : T.map (runB (S.map (runB O))) = (mergeS S T).map (runB O) := by
  apply List.ext_getElem?
  intro i
  rw [List.getElem?_map, List.getElem?_map]
  by_cases hi : i < N
  · obtain ⟨t, hti⟩ : ∃ t, T[i]? = some t := ⟨_, List.getElem?_eq_getElem (by omega)⟩
    obtain ⟨s, hsi⟩ : ∃ t, S[i]? = some t := ⟨_, List.getElem?_eq_getElem (by omega)⟩
    obtain ⟨m, hmi⟩ : ∃ t, (mergeS S T)[i]? = some t := ⟨_, List.getElem?_eq_getElem (by rw [mergeS_len]; omega)⟩
    obtain ⟨o, hoi⟩ : ∃ o, O[i]? = some o := ⟨_, List.getElem?_eq_getElem (by omega)⟩
    have hob := hOb o (List.mem_of_getElem? hoi)
    have hme := mergeS_at (S := S) (T := T) (i := i) (by omega)
    rw [sAt_of hmi, sAt_of hsi, sAt_of hti] at hme
    have hAi : (S.map (runB O))[i]? = some (runB O s) := by rw [List.getElem?_map, hsi]; rfl
    rw [hti, hmi]
    show some (runB (S.map (runB O)) t) = some (runB O m)
    congr 1
    cases htt : touched T i with
    | false =>
      have hu := untouched htt
      rw [sAt_of hti] at hu
      rw [hu, runB_at hAi (runB_bdK O (hwS s (List.mem_of_getElem? hsi))), hme]
      cases hts : touched S i with
      | true => rfl
      | false =>
        have hv := untouched hts
        rw [sAt_of hsi] at hv
        rw [hu, hv]; rfl
    | true =>
      obtain ⟨k1, k2⟩ := disturbs_noK h2 (by omega) htt
      rw [hme, k1]
      show runB (S.map (runB O)) t = runB O t
      refine runB_congr fun ho => ?_
      have hok := okT t (List.mem_of_getElem? hti)
      unfold strange at hok
      simp [ho] at hok
      have hj : t.at_.toNat < N := by omega
      obtain ⟨s', hsj⟩ : ∃ t', S[t.at_.toNat]? = some t' := ⟨_, List.getElem?_eq_getElem (by omega)⟩
      obtain ⟨o', hoj⟩ : ∃ o, O[t.at_.toNat]? = some o := ⟨_, List.getElem?_eq_getElem (by omega)⟩
      have hob' := hOb o' (List.mem_of_getElem? hoj)
      have hr := readUp_of (l := T) (i := i) (j := t.at_.toNat) (by omega) htt (by rw [sAt_of hti]; exact ho) (by rw [sAt_of hti]; omega)
      have hns : touched S t.at_.toNat = false := by
        cases hts : touched S t.at_.toNat with
        | false => rfl
        | true =>
          have := (disturbs_noK h1 (by omega) hts).2
          rw [hr] at this; cases this
      have hv := untouched hns
      rw [sAt_of hsj] at hv
      rw [List.getElem?_map, hsj, hv]
      show some (runB O ⟨true, t.at_.toNat, 0⟩) = _
      rw [runB_at hoj hob', hoj]
  · rw [List.getElem?_eq_none (by omega), List.getElem?_eq_none (by rw [mergeS_len]; omega)]; rfl
theorem commute_two {p q : PatL} {n : Int} {S T : List Sym} {N : Nat} (hp : Good11 p n) (hq : Good11 q n) (hn : 0 ≤ n ∧ n ≤ 4096) (hA : symsP p = S) (hB : symsP q = T) (h1 : S.length = N) (h2 : T.length = N) :
    (indep S T N = false ∧ commuteP p q = ⟨PatL.zero, PatL.zero, 110⟩) ∨ (indep S T N = true ∧ disturbs S T = false ∧ disturbs T S = false ∧ ∃ F G, FormFor q F ∧ FormFor p G ∧ commuteP p q = ⟨F, G, 0⟩) := by
  obtain ⟨F, hF⟩ := form_for hq.wf hq.ck (by rw [hq.out]; omega)
  obtain ⟨G, hG⟩ := form_for hp.wf hp.ck (by rw [hp.out]; omega)
  have hi := indep_eq h1 h2
  have hc : commuteP p q = if (disturbs S T || disturbs T S) = true then ⟨PatL.zero, PatL.zero, 110⟩ else ⟨F, G, 0⟩ := by
    unfold commuteP
    rw [if_neg (by rw [good_checkM hp hq]; decide), hA, hB, hF.form, hG.form]
    by_cases h : (disturbs S T || disturbs T S) = true
    · rw [if_pos h, if_pos h]
    · rw [if_neg h, if_neg h, if_neg (by simp)]
  cases hd : (disturbs S T || disturbs T S) with
  | true => rw [hd] at hi hc; exact .inl ⟨hi, hc⟩
  | false =>
    rw [hd] at hi hc
    rw [Bool.or_eq_false_iff] at hd
    exact .inr ⟨hi, hd.1, hd.2, F, G, hF, hG, hc⟩
theorem clash_indep {S T : List Sym} (h : disturbs S T = false) : clashL S T = [] := clash_no.2 fun i hi => by
  unfold clashAt
  cases hs : touched S i with
  | false => rfl
  | true => rw [(disturbs_noK h hi hs).1]; rfl

set_option maxRecDepth 20000 in
set_option maxHeartbeats 4000000 in
theorem mexch_c (r s : Int) (ad bd ed : Option Addr) (cap capb cape : Nat) (l lb : List Q4) (bs : List Int) (w0 : World) (I0 : Imm) (hI : Sat I0 w0) (hr : 0 ≤ r ∧ r ≤ 255) (h4 : RFl I0 4 q4C (.slice ad l.length cap) l) (hq : ∀ q ∈ l, q.wf) (h5 : RFl I0 4 q4C (.slice bd lb.length capb) lb) (hqb : ∀ q ∈ lb, q.wf) (hb : RBytes I0 (.slice ed bs.length cape) bs) (hbb : ∀ y ∈ bs, 0 ≤ y ∧ y ≤ 255) :
    Ctr Tryz.prog 7 [.agg #[.int .u8 r, .slice ad l.length cap, .int .u8 s, .slice bd lb.length capb], .slice ed bs.length cape] w0 (fun v w' => ∃ I', v = .bool true ∧ Ext w0 I0 w' I') := by
  refine fn (n := 128) Tryz.func7 rfl rfl rfl ?_
  have hS := St.start hI
  refine wpIn_seq ?_
  refine reg ?_
  refine qe (d_box (cs := [.int .u8 _, .slice _ _ _, .int .u8 _, .slice _ _ _]) hS rfl) ?_
  clear hS
  rintro _ w_1 ⟨b2, rfl, hS⟩
  refine qq hS (g_assignv (v := .bool _) rfl) ?_
  refine ol_nil (thenN ?_)
  refine wpIn_seq ?_
  refine reg ?_
  refine qe (d_call Tryz.call24 rfl (sanity11_c _ _ hS.imm)) ?_
  rintro _ w_2 ⟨I_f, rfl, hE⟩
  replace hS := hS.callE hE
  replace h4 := h4.mono hE.ext
  replace h5 := h5.mono hE.ext
  replace hb := hb.mono hE.ext
  refine qq hS (g_assignv (v := .bool _) rfl) ?_
  refine ol_nil (thenN ?_)
  refine wpIn_seq ?_
  refine reg ?_
  refine qq hS (g_indexArr (o' := 0) Tryz.underlying56 Tryz.sizeOf48 rfl rfl (by decide) (by decide) rfl) ?_
  refine qq hS (g_ldO 0 (vs := [.int .u8 _, .slice _ _ _]) Tryz.sizeOf48 Tryz.isAgg48 rfl rfl rfl rfl) ?_
  refine qe (d_call Tryz.call25 rfl (made11_c r ad cap l _ _ hS.imm hr h4 hq)) ?_
  rintro _ w_3 ⟨I_f, p, a25, m25, c25, rfl, hE, h25, hgp⟩
  replace hS := hS.callE hE
  replace h4 := h4.mono hE.ext
  replace h5 := h5.mono hE.ext
  replace hb := hb.mono hE.ext
  refine qe (d_alloc (cs := [.bool _, .int .i64 _, .int .i64 _, .slice _ _ _]) hS Tryz.zeroValue29 rfl) ?_
  clear hS
  rintro _ w_4 ⟨b6, rfl, hS⟩
  refine qe (d_store 0 hS Tryz.sizeOf29 rfl rfl rfl (vs := [.bool _, .int .i64 _, .int .i64 _, .slice _ _ _]) rfl rfl rfl (Nat.le_of_ble_eq_true rfl) (cs' := [_, _, _, _]) rfl) ?_
  clear hS
  rintro _ w_5 ⟨rfl, hS⟩
  refine ol_nil (thenN ?_)
  refine wpIn_seq ?_
  refine reg ?_
  refine qq hS (g_indexArr (o' := 2) Tryz.underlying56 Tryz.sizeOf48 rfl rfl (by decide) (by decide) rfl) ?_
  refine qq hS (g_ldO 1 (vs := [.int .u8 _, .slice _ _ _]) Tryz.sizeOf48 Tryz.isAgg48 rfl rfl rfl rfl) ?_
  refine qq hS (g_fieldAddr (o' := 1) Tryz.underlying29 rfl Tryz.sizeOf3 rfl rfl rfl) ?_
  refine qq hS (g_ldO1 0 Tryz.isAgg3 rfl rfl rfl) ?_
  refine qe (d_call Tryz.call30 rfl (sized11_c s p.in_ bd capb lb _ _ hS.imm h5 hqb (by have := hgp.in_; omega))) ?_
  rintro _ w_6 ⟨I_f, q, a30, m30, c30, rfl, hE, h30, hgq⟩
  replace hS := hS.callE hE
  replace h4 := h4.mono hE.ext
  replace h5 := h5.mono hE.ext
  replace hb := hb.mono hE.ext
  replace h25 := h25.mono hE.ext
  refine qe (d_alloc (cs := [.bool _, .int .i64 _, .int .i64 _, .slice _ _ _]) hS Tryz.zeroValue29 rfl) ?_
  clear hS
  rintro _ w_7 ⟨b7, rfl, hS⟩
  refine qe (d_store 0 hS Tryz.sizeOf29 rfl rfl rfl (vs := [.bool _, .int .i64 _, .int .i64 _, .slice _ _ _]) rfl rfl rfl (Nat.le_of_ble_eq_true rfl) (cs' := [_, _, _, _]) rfl) ?_
  clear hS
  rintro _ w_8 ⟨rfl, hS⟩
  refine ol_nil (thenN ?_)
  refine wpIn_seq ?_
  have hpn : 0 ≤ p.in_ ∧ p.in_ ≤ 12 := by have := hgp.in_; omega
  replace hgp : Good11 p p.in_ := ⟨hgp.wf, hgp.ck, hgp.lif, rfl, by rw [hgp.out, hgp.in_]⟩
  have hn4 : 0 ≤ p.in_ ∧ p.in_ ≤ 4096 := by omega
  have hck := good_checkM hgp hgq
  obtain ⟨S, T, N, hA, hB, hlq⟩ := even_two hck
  have hAs := hA.s
  have hBs := hB.s
  have hin := hA.i
  have hSn := hA.n
  have hTn := hB.n
  have hNb := hA.b
  have hcase := commute_two hgp hgq hn4 hAs hBs hSn hTn
  have h2 := merge_two hgp hgq hn4
  obtain ⟨M, hM⟩ : ∃ M, mergeP p q = M := ⟨_, rfl⟩
  rw [hM, hAs, hBs] at h2
  obtain ⟨X, hX⟩ : ∃ X, commuteP p q = X := ⟨_, rfl⟩
  rw [hX] at hcase
  refine reg ?_
  refine qq hS (g_ldO 1 (vs := [.bool _, .int .i64 _, .int .i64 _, .slice _ _ _]) Tryz.sizeOf29 Tryz.isAgg29 rfl rfl rfl rfl) ?_
  refine qq hS (g_ldO 0 (vs := [.bool _, .int .i64 _, .int .i64 _, .slice _ _ _]) Tryz.sizeOf29 Tryz.isAgg29 rfl rfl rfl rfl) ?_
  refine qe (d_call Tryz.call33 rfl (exchanged_L p q X.q X.p X.e _ _ _ _ _ _ _ _ hS.imm hgp.wf h25 hgq.wf h30 hX)) ?_
  rintro _ w_9 ⟨I_f, a33, m33, c33, d33, n33, e33, rfl, hE, h33, k33⟩
  replace hS := hS.callE hE
  replace h4 := h4.mono hE.ext
  replace h5 := h5.mono hE.ext
  replace hb := hb.mono hE.ext
  replace h25 := h25.mono hE.ext
  replace h30 := h30.mono hE.ext
  refine qe (d_alloc (cs := [.bool _, .int .i64 _, .int .i64 _, .slice _ _ _, .bool _, .int .i64 _, .int .i64 _, .slice _ _ _, .int .i64 _]) hS Tryz.zeroValue63 rfl) ?_
  clear hS
  rintro _ w_10 ⟨b8, rfl, hS⟩
  refine qe (d_store 0 hS Tryz.sizeOf63 rfl rfl rfl (vs := [.bool _, .int .i64 _, .int .i64 _, .slice _ _ _, .bool _, .int .i64 _, .int .i64 _, .slice _ _ _, .int .i64 _]) rfl rfl rfl (Nat.le_of_ble_eq_true rfl) (cs' := [_, _, _, _, _, _, _, _, _]) rfl) ?_
  clear hS
  rintro _ w_11 ⟨rfl, hS⟩
  refine ol_nil (thenN ?_)
  refine wpIn_seq ?_
  refine wpIn_seq ?_
  refine reg ?_
  refine qq hS (g_ldO 2 (vs := [.bool _, .int .i64 _, .int .i64 _, .slice _ _ _]) Tryz.sizeOf29 Tryz.isAgg29 rfl rfl rfl rfl) ?_
  refine qq hS (g_ldO 1 (vs := [.bool _, .int .i64 _, .int .i64 _, .slice _ _ _]) Tryz.sizeOf29 Tryz.isAgg29 rfl rfl rfl rfl) ?_
  refine qe (d_call Tryz.call34 rfl (independent_c p S N _ _ _ T q _ _ _ _ _ hS.imm hgp.wf h25 hgq.wf h30 hA hB)) ?_
  rintro _ w_12 ⟨I_f, rfl, hE⟩
  replace hS := hS.callE hE
  replace h4 := h4.mono hE.ext
  replace h5 := h5.mono hE.ext
  replace hb := hb.mono hE.ext
  replace h25 := h25.mono hE.ext
  replace h30 := h30.mono hE.ext
  replace h33 := h33.mono hE.ext
  replace k33 := k33.mono hE.ext
  refine qq hS (g_not rfl) ?_
  refine ol_nil (thenN ?_)
  refine cond_s rfl ?_ ?_
  ·
    intro hc37
    try simp only [Bool.and_eq_true, Bool.or_eq_true, Bool.not_eq_true', Bool.and_eq_false_imp, Bool.or_eq_false_iff, Bool.not_eq_false', decide_eq_true_eq, decide_eq_false_iff_not] at hc37
    have hXz : X = ⟨PatL.zero, PatL.zero, 110⟩ := by
      rcases hcase with ⟨_, h⟩ | ⟨h, _⟩
      · exact h
      · rw [h] at hc37; cases hc37
    have hX1 : X.e = 110 := by rw [hXz]
    have hXw1 : X.q.wf := by rw [hXz]; exact zero_wf
    have hXw2 : X.p.wf := by rw [hXz]; exact zero_wf
    subst hXz
    refine wpIn_seq ?_
    refine reg ?_
    refine qq hS (g_ldO 0 (vs := [.bool _, .int .i64 _, .int .i64 _, .slice _ _ _, .bool _, .int .i64 _, .int .i64 _, .slice _ _ _, .int .i64 _]) Tryz.sizeOf63 Tryz.isAgg63 rfl rfl rfl rfl) ?_
    refine qq hS (g_buildv (pl := [(0, 4), (4, 4), (8, 1)]) (cs := [.bool _, .int .i64 _, .int .i64 _, .slice _ _ _, .bool _, .int .i64 _, .int .i64 _, .slice _ _ _, .int .i64 _]) Tryz.zeroValue63 Tryz.underlying63 (fun w => by simp [Tryz.sizeOf29, Tryz.sizeOf31]) (mp (v := .int .i64 _) rfl mp0) rfl) ?_
    refine qe (d_call Tryz.call35 rfl (same11_T PatL.zero PatL.zero 110 _ _ none none _ _ _ _ 0 0 0 0 _ _ hS.imm zero_wf zero_wf h33 k33 RSl.nilR RSl.nilR)) ?_
    rintro _ w_13 ⟨rfl, hE⟩
    replace hS := hS.callE hE
    refine qq hS (g_movev (v := .bool _) rfl) ?_
    refine qqs rfl rfl hS (g_movev (v := .bool _) rfl) ?_
    refine qq hS (g_and rfl rfl (fun _ => rfl)) ?_
    refine qq hS (g_assignv (v := .bool _) rfl) ?_
    refine ol_nil (thenN ?_)
    refine wpIn_ret ?_
    refine thenR ?_
    refine ret1 Tryz.results7 (rv_tmp (v := .bool _) rfl) ?_
    exact ⟨_, rfl, hS.nil⟩
  ·
    intro hc37
    try simp only [Bool.and_eq_true, Bool.or_eq_true, Bool.not_eq_true', Bool.and_eq_false_imp, Bool.or_eq_false_iff, Bool.not_eq_false', decide_eq_true_eq, decide_eq_false_iff_not] at hc37
    have hgo : indep S T N = true := by cases h : indep S T N with
      | true => rfl
      | false => rw [h] at hc37; cases hc37
    have ⟨hd1, hd2, hF, hG, hX0⟩ : disturbs S T = false ∧ disturbs T S = false ∧ FormFor q X.q ∧ FormFor p X.p ∧ X.e = 0 := by
      rcases hcase with ⟨h, _⟩ | ⟨_, h1, h2, F, G, hF, hG, h3⟩
      · rw [hgo] at h; cases h
      · rw [h3]; exact ⟨h1, h2, hF, hG, rfl⟩
    have ⟨hM0, hgM, hMs⟩ : M.2 = 0 ∧ Good11 M.1 p.in_ ∧ symsP M.1 = mergeS S T := by
      rcases h2 with ⟨h1, _, h3, h4⟩ | h
      · exact ⟨h1, h3, h4⟩
      · have hce := (merge_good hgp hgq hn4 (by rw [hAs, hBs]; exact clash_indep hd1)).1
        rw [hM] at hce
        rw [hce] at h; cases h
    refine wpIn_skip ?_
    refine thenN ?_
    refine wpIn_seq ?_
    refine reg ?_
    refine qq hS (g_ldO 2 (vs := [.bool _, .int .i64 _, .int .i64 _, .slice _ _ _]) Tryz.sizeOf29 Tryz.isAgg29 rfl rfl rfl rfl) ?_
    refine qq hS (g_ldO 1 (vs := [.bool _, .int .i64 _, .int .i64 _, .slice _ _ _]) Tryz.sizeOf29 Tryz.isAgg29 rfl rfl rfl rfl) ?_
    refine qe (d_call Tryz.call31 rfl (merge_L p q M.1 M.2 _ _ _ _ _ _ _ _ hS.imm hgp.wf h25 hgq.wf h30 hM)) ?_
    rintro _ w_14 ⟨I_f, a47, m47, c47, rfl, hE, h47⟩
    replace hS := hS.callE hE
    replace h4 := h4.mono hE.ext
    replace h5 := h5.mono hE.ext
    replace hb := hb.mono hE.ext
    replace h25 := h25.mono hE.ext
    replace h30 := h30.mono hE.ext
    replace h33 := h33.mono hE.ext
    replace k33 := k33.mono hE.ext
    refine qq hS (g_move _) ?_
    refine qq hS (g_extract rfl rfl) ?_
    refine qq hS (g_extract (v := .int .i64 _) rfl rfl) ?_
    refine qe (d_alloc (cs := [.bool _, .int .i64 _, .int .i64 _, .slice _ _ _]) hS Tryz.zeroValue29 rfl) ?_
    clear hS
    rintro _ w_15 ⟨b9, rfl, hS⟩
    refine qe (d_store 0 hS Tryz.sizeOf29 rfl rfl rfl (vs := [.bool _, .int .i64 _, .int .i64 _, .slice _ _ _]) rfl rfl rfl (Nat.le_of_ble_eq_true rfl) (cs' := [_, _, _, _]) rfl) ?_
    clear hS
    rintro _ w_16 ⟨rfl, hS⟩
    refine qq hS (g_assignv (v := .int .i64 _) rfl) ?_
    refine ol_nil (thenN ?_)
    refine wpIn_seq ?_
    refine wpIn_seq ?_
    refine reg ?_
    refine qq hS (g_fieldAddr (o' := 8) Tryz.underlying63 rfl Tryz.sizeOf31 rfl rfl rfl) ?_
    refine qq hS (g_ldO1 1 Tryz.isAgg31 rfl rfl rfl) ?_
    refine qq hS (g_neqF rfl rfl hX0) ?_
    refine qq hS (g_movev (v := .bool _) rfl) ?_
    refine qqs rfl rfl hS (g_movev (v := .int .i64 _) rfl) ?_
    refine qqs rfl rfl hS (g_neqF rfl rfl hM0) ?_
    refine qq hS (g_or rfl rfl (fun _ => rfl)) ?_
    refine ol_nil (thenN ?_)
    refine cond_f (rfl) ?_
    refine wpIn_skip ?_
    refine thenN ?_
    refine wpIn_seq ?_
    have hOl := inputP_len bs p.in_.toNat
    have hOb := inputP_bd (n := p.in_.toNat) hbb
    obtain ⟨O, hO⟩ : ∃ O, inputP bs p.in_.toNat = O := ⟨_, rfl⟩
    rw [hO] at hOl hOb
    have hinO : p.in_ = O.length := by omega
    have hmS := exch_at hSn hTn (show O.length = N by omega) hOb (by have := good_okL hgq; rw [hBs] at this; rwa [show (N : Int) = p.in_ by omega]) (by rw [← hAs]; exact symsP_wf hgp.wf hgp.ck) hd1 hd2
    have hmT := exch_at hTn hSn (show O.length = N by omega) hOb (by have := good_okL hgp; rw [hAs] at this; rwa [show (N : Int) = p.in_ by omega]) (by rw [← hBs]; exact symsP_wf hgq.wf hgq.ck) hd2 hd1
    rw [mergeS_comm (by omega) (clash_indep hd1)] at hmT
    have hXA := apply_good hgp hinO
    rw [hAs] at hXA
    have hXAB := apply_good (O := (S.map (runB O))) hgq (by rw [List.length_map]; omega)
    rw [hBs, hmS] at hXAB
    have hXB := applyP_right (lo := O) hF.chk (by rw [hF.in_, hgq.in_]; exact hinO)
    rw [hF.syms, show symsOf q.ops = T from hBs] at hXB
    have hXBA := applyP_right (lo := (T.map (runB O))) hG.chk (by rw [hG.in_, List.length_map]; omega)
    rw [hG.syms, show symsOf p.ops = S from hAs, hmT] at hXBA
    have hXM := apply_good hgM hinO
    rw [hMs] at hXM
    refine reg ?_
    refine qq hS (g_move _) ?_
    refine qq hS (g_fieldAddr (o' := 1) Tryz.underlying29 rfl Tryz.sizeOf3 rfl rfl rfl) ?_
    refine qq hS (g_ldO1 3 Tryz.isAgg3 rfl rfl rfl) ?_
    refine qe (d_call Tryz.call18 rfl (input_E _ _ bs p.in_ O _ _ hS.imm hb hbb ⟨by omega, by omega⟩ hO)) ?_
    rintro _ w_17 ⟨I_f, a60, c60, rfl, hE, h60⟩
    replace hS := hS.callE hE
    replace h4 := h4.mono hE.ext
    replace h5 := h5.mono hE.ext
    replace hb := hb.mono hE.ext
    replace h25 := h25.mono hE.ext
    replace h30 := h30.mono hE.ext
    replace h33 := h33.mono hE.ext
    replace k33 := k33.mono hE.ext
    replace h47 := h47.mono hE.ext
    refine qq hS (g_assign _) ?_
    refine ol_nil (thenN ?_)
    refine wpIn_seq ?_
    refine reg ?_
    refine qq hS (g_move _) ?_
    refine qq hS (g_ldO 3 (vs := [.bool _, .int .i64 _, .int .i64 _, .slice _ _ _]) Tryz.sizeOf29 Tryz.isAgg29 rfl rfl rfl rfl) ?_
    refine qe (d_call Tryz.call19 rfl (apply_L p _ _ _ _ _ _ O (S.map (runB O)) 0 _ _ hS.imm h25 hgp.wf hgp.lif h60 rfl hXA)) ?_
    rintro _ w_18 ⟨I_f, a64, c64, rfl, hE, h64⟩
    replace hS := hS.callE hE
    replace h4 := h4.mono hE.ext
    replace h5 := h5.mono hE.ext
    replace hb := hb.mono hE.ext
    replace h25 := h25.mono hE.ext
    replace h30 := h30.mono hE.ext
    replace h33 := h33.mono hE.ext
    replace k33 := k33.mono hE.ext
    replace h47 := h47.mono hE.ext
    replace h60 := h60.mono hE.ext
    refine qq hS (g_move _) ?_
    refine qq hS (g_extract rfl rfl) ?_
    refine qq hS (g_extract (v := .int .i64 _) rfl rfl) ?_
    refine qq hS (g_assign _) ?_
    refine qq hS (g_assignv (v := .int .i64 _) rfl) ?_
    refine ol_nil (thenN ?_)
    refine wpIn_seq ?_
    refine reg ?_
    refine qq hS (g_move _) ?_
    refine qq hS (g_ldO 2 (vs := [.bool _, .int .i64 _, .int .i64 _, .slice _ _ _]) Tryz.sizeOf29 Tryz.isAgg29 rfl rfl rfl rfl) ?_
    refine qe (d_call Tryz.call19 rfl (apply_L q _ _ _ _ _ _ (S.map (runB O)) ((mergeS S T).map (runB O)) 0 _ _ hS.imm h30 hgq.wf hgq.lif h64 rfl hXAB)) ?_
    rintro _ w_19 ⟨I_f, a70, c70, rfl, hE, h70⟩
    replace hS := hS.callE hE
    replace h4 := h4.mono hE.ext
    replace h5 := h5.mono hE.ext
    replace hb := hb.mono hE.ext
    replace h25 := h25.mono hE.ext
    replace h30 := h30.mono hE.ext
    replace h33 := h33.mono hE.ext
    replace k33 := k33.mono hE.ext
    replace h47 := h47.mono hE.ext
    replace h60 := h60.mono hE.ext
    replace h64 := h64.mono hE.ext
    refine qq hS (g_move _) ?_
    refine qq hS (g_extract rfl rfl) ?_
    refine qq hS (g_extract (v := .int .i64 _) rfl rfl) ?_
    refine qq hS (g_assign _) ?_
    refine qq hS (g_assignv (v := .int .i64 _) rfl) ?_
    refine ol_nil (thenN ?_)
    refine wpIn_seq ?_
    refine reg ?_
    refine qq hS (g_move _) ?_
    refine qq hS (g_fieldAddr (o' := 0) Tryz.underlying63 rfl Tryz.sizeOf29 rfl rfl rfl) ?_
    refine qq hS (g_ldO 1 (vs := [.bool _, .int .i64 _, .int .i64 _, .slice _ _ _]) Tryz.sizeOf29 Tryz.isAgg29 rfl rfl rfl rfl) ?_
    refine qe (d_call Tryz.call19 rfl (apply_L X.q _ _ _ _ _ _ O (T.map (runB O)) 0 _ _ hS.imm h33 hF.wf (hF.lif.trans hgq.lif) h60 rfl hXB)) ?_
    rintro _ w_20 ⟨I_f, a77, c77, rfl, hE, h77⟩
    replace hS := hS.callE hE
    replace h4 := h4.mono hE.ext
    replace h5 := h5.mono hE.ext
    replace hb := hb.mono hE.ext
    replace h25 := h25.mono hE.ext
    replace h30 := h30.mono hE.ext
    replace h33 := h33.mono hE.ext
    replace k33 := k33.mono hE.ext
    replace h47 := h47.mono hE.ext
    replace h60 := h60.mono hE.ext
    replace h64 := h64.mono hE.ext
    replace h70 := h70.mono hE.ext
    refine qq hS (g_move _) ?_
    refine qq hS (g_extract rfl rfl) ?_
    refine qq hS (g_extract (v := .int .i64 _) rfl rfl) ?_
    refine qq hS (g_assign _) ?_
    refine qq hS (g_assignv (v := .int .i64 _) rfl) ?_
    refine ol_nil (thenN ?_)
    refine wpIn_seq ?_
    refine reg ?_
    refine qq hS (g_move _) ?_
    refine qq hS (g_fieldAddr (o' := 4) Tryz.underlying63 rfl Tryz.sizeOf29 rfl rfl rfl) ?_
    refine qq hS (g_ldO 1 (vs := [.bool _, .int .i64 _, .int .i64 _, .slice _ _ _]) Tryz.sizeOf29 Tryz.isAgg29 rfl rfl rfl rfl) ?_
    refine qe (d_call Tryz.call19 rfl (apply_L X.p _ _ _ _ _ _ (T.map (runB O)) ((mergeS S T).map (runB O)) 0 _ _ hS.imm k33 hG.wf (hG.lif.trans hgp.lif) h77 rfl hXBA)) ?_
    rintro _ w_21 ⟨I_f, a84, c84, rfl, hE, h84⟩
    replace hS := hS.callE hE
    replace h4 := h4.mono hE.ext
    replace h5 := h5.mono hE.ext
    replace hb := hb.mono hE.ext
    replace h25 := h25.mono hE.ext
    replace h30 := h30.mono hE.ext
    replace h33 := h33.mono hE.ext
    replace k33 := k33.mono hE.ext
    replace h47 := h47.mono hE.ext
    replace h60 := h60.mono hE.ext
    replace h64 := h64.mono hE.ext
    replace h70 := h70.mono hE.ext
    replace h77 := h77.mono hE.ext
    refine qq hS (g_move _) ?_
    refine qq hS (g_extract rfl rfl) ?_
    refine qq hS (g_extract (v := .int .i64 _) rfl rfl) ?_
    refine qq hS (g_assign _) ?_
    refine qq hS (g_assignv (v := .int .i64 _) rfl) ?_
    refine ol_nil (thenN ?_)
    refine wpIn_seq ?_
    refine reg ?_
    refine qq hS (g_move _) ?_
    refine qq hS (g_ldO 0 (vs := [.bool _, .int .i64 _, .int .i64 _, .slice _ _ _]) Tryz.sizeOf29 Tryz.isAgg29 rfl rfl rfl rfl) ?_
    refine qe (d_call Tryz.call19 rfl (apply_L M.1 _ _ _ _ _ _ O ((mergeS S T).map (runB O)) 0 _ _ hS.imm h47 hgM.wf hgM.lif h60 rfl hXM)) ?_
    rintro _ w_22 ⟨I_f, a90, c90, rfl, hE, h90⟩
    replace hS := hS.callE hE
    replace h4 := h4.mono hE.ext
    replace h5 := h5.mono hE.ext
    replace hb := hb.mono hE.ext
    replace h25 := h25.mono hE.ext
    replace h30 := h30.mono hE.ext
    replace h33 := h33.mono hE.ext
    replace k33 := k33.mono hE.ext
    replace h47 := h47.mono hE.ext
    replace h60 := h60.mono hE.ext
    replace h64 := h64.mono hE.ext
    replace h70 := h70.mono hE.ext
    replace h77 := h77.mono hE.ext
    replace h84 := h84.mono hE.ext
    refine qq hS (g_move _) ?_
    refine qq hS (g_extract rfl rfl) ?_
    refine qq hS (g_extract (v := .int .i64 _) rfl rfl) ?_
    refine qq hS (g_assign _) ?_
    refine qq hS (g_assignv (v := .int .i64 _) rfl) ?_
    refine ol_nil (thenN ?_)
    refine wpIn_seq ?_
    refine reg ?_
    refine qq hS (g_movev (v := .int .i64 _) rfl) ?_
    refine qq hS (g_eql rfl rfl) ?_
    refine qq hS (g_movev (v := .bool _) rfl) ?_
    refine qqs rfl rfl hS (g_movev (v := .int .i64 _) rfl) ?_
    refine qqs rfl rfl hS (g_eql rfl rfl) ?_
    refine qq hS (g_and rfl rfl (fun _ => rfl)) ?_
    refine qq hS (g_movev (v := .bool _) rfl) ?_
    refine qqs rfl rfl hS (g_movev (v := .int .i64 _) rfl) ?_
    refine qqs rfl rfl hS (g_eql rfl rfl) ?_
    refine qq hS (g_and rfl rfl (fun _ => rfl)) ?_
    refine qq hS (g_movev (v := .bool _) rfl) ?_
    refine qqs rfl rfl hS (g_movev (v := .int .i64 _) rfl) ?_
    refine qqs rfl rfl hS (g_eql rfl rfl) ?_
    refine qq hS (g_and rfl rfl (fun _ => rfl)) ?_
    refine qq hS (g_movev (v := .bool _) rfl) ?_
    refine qqs rfl rfl hS (g_movev (v := .int .i64 _) rfl) ?_
    refine qqs rfl rfl hS (g_eql rfl rfl) ?_
    refine qq hS (g_and rfl rfl (fun _ => rfl)) ?_
    refine qq hS (g_movev (v := .bool _) rfl) ?_
    refine qqs rfl rfl hS (g_move _) ?_
    refine qqs rfl rfl hS (g_strI Tryz.underlying25 Tryz.underlying5 Tryz.underlying9 h70 rfl) ?_
    refine qqs rfl rfl hS (g_move _) ?_
    refine qqs rfl rfl hS (g_strI Tryz.underlying25 Tryz.underlying5 Tryz.underlying9 h84 rfl) ?_
    refine qqs rfl rfl hS (g_strT rfl rfl) ?_
    refine qq hS (g_and rfl rfl (fun _ => rfl)) ?_
    refine qq hS (g_movev (v := .bool _) rfl) ?_
    refine qqs rfl rfl hS (g_move _) ?_
    refine qqs rfl rfl hS (g_strI Tryz.underlying25 Tryz.underlying5 Tryz.underlying9 h70 rfl) ?_
    refine qqs rfl rfl hS (g_move _) ?_
    refine qqs rfl rfl hS (g_strI Tryz.underlying25 Tryz.underlying5 Tryz.underlying9 h90 rfl) ?_
    refine qqs rfl rfl hS (g_strT rfl rfl) ?_
    refine qq hS (g_and rfl rfl (fun _ => rfl)) ?_
    refine qq hS (g_movev (v := .bool _) rfl) ?_
    refine qqs rfl rfl hS (g_movev (v := .bool _) rfl) ?_
    refine qq hS (g_and rfl rfl (fun _ => rfl)) ?_
    refine qq hS (g_assignv (v := .bool _) rfl) ?_
    refine ol_nil (thenN ?_)
    refine wpIn_ret ?_
    refine ret1 Tryz.results7 (rv_tmp (v := .bool _) rfl) ?_
    exact ⟨_, rfl, hS.nil⟩

end Go.Proofs.YtodopmclnklgdaaGreat

