/- inlayref09.Chain: what it computes. Conditions: numbers within bounds. -/
import Derived.Test.YthningkgpanaoaaComp4
namespace Go.Proofs.Ythningkgpanaoaa
open Go Go.RowKit Go.Inl
set_option linter.unusedSimpArgs false
set_option linter.unusedVariables false
structure ChS where
  k : Nat
  css : List (List Value)
  a : Option Addr
  c : Nat
theorem chainP_nil {l : List RawL} {n : Nat} (h : chainL l n = []) : chainP l n = [wholeP 3] := by unfold chainP; rw [if_pos h]
theorem chainP_cons {l : List RawL} {n : Nat} (h : chainL l n ≠ []) : chainP l n = chainL l n := by unfold chainP; rw [if_neg h]

set_option maxHeartbeats 1000000 in
theorem chain_c (ad : Option Addr) (cap : Nat) (l : List RawL) (n : Nat) (w0 : World) (I0 : Imm) (hI : Sat I0 w0) (hl : RRaws I0 (.slice ad l.length cap) l) (hw : ∀ x ∈ l, x.wf) (hn : n ≤ 4) :
    Ctr Try.prog 13 [.slice ad l.length cap, .int .i64 n] w0 (fun v w' => ∃ I' a c, v = .slice a (chainP l n).length c ∧ Ext w0 I0 w' I' ∧ RPats I' (.slice a (chainP l n).length c) (chainP l n)) := by
  have hll := RSl.le hl
  simp only [maxLen] at hll
  refine fn (n := 49) Try.func13 rfl rfl rfl ?_
  have hS := St.start hI
  refine wp_seq ?_
  refine reg ?_
  refine qq hS (g_assign _) ?_
  refine ol_nil (thenN ?_)
  refine wp_seq ?_
  refine reg ?_
  refine qe (d_buildSlice0 hS Try.underlying27 Try.sizeOf31) ?_
  clear hS
  rintro _ w_1 ⟨hS, b7_, rfl⟩
  refine qq hS (g_assign _) ?_
  refine ol_nil (thenN ?_)
  refine wp_seq ?_
  refine wp_seq ?_
  refine reg ?_
  refine qq hS (g_assignv (v := .int .i64 _) rfl) ?_
  refine ol_nil (thenN ?_)
  refine wp_block ?_
  refine loop (fun (x : ChS) σ w => okS σ [(0, .slice ad l.length cap), (1, .int .i64 n), (5, .slice x.a x.k x.c), (6, .int .i64 x.k)] ∧ ∃ I, St [] w0 I0 I w [.row (.slice x.a x.k x.c) 31 4 x.k x.css.flatten] ∧ x.k ≤ l.length ∧ x.k ≤ n ∧ All2 (RPatC I) x.css (chainF ((l.headD ⟨0, []⟩).r % 13) (l.take x.k)) ∧ (∀ cs ∈ x.css, cs.length = 4)) (fun x => l.length - x.k) (⟨0, [], some ⟨b7_, 0, none⟩, 0⟩) ?_ ?_
  ·
    exact ⟨⟨rfl, rfl, rfl, rfl, trivial⟩, _, hS.sel [true], by simp, by simp, All2.nil _, by simp⟩
  ·
    rintro ⟨k, css, a, c⟩ σ w_l ⟨hs, I, hS, hk0, hkn, hall, hcl4⟩
    dsimp only at hs hS hk0 hkn hall hcl4 ⊢
    rw [← upds_self hs]; clear hs
    refine wp_seq ?_
    refine wp_seq ?_
    refine reg ?_
    refine qq hS (g_movev (v := .int .i64 _) rfl) ?_
    refine qq hS (g_move _) ?_
    refine qq hS (g_lenI rfl Try.underlying22 hl rfl) ?_
    refine qq hS (g_lss rfl rfl) ?_
    refine qq hS (g_movev (v := .bool _) rfl) ?_
    refine qu rfl rfl hS (fun hg => (g_movev (v := .int .i64 _) rfl)) ?_
    intro u13 hu13 hn13
    refine qu rfl rfl hS (fun hg => (g_movev (v := .int .i64 _) rfl)) ?_
    intro u14 hu14 hn14
    refine qu rfl rfl hS (fun hg => (g_lss (hu13 hg) (hu14 hg))) ?_
    intro u15 hu15 hn15
    refine qq hS (g_and rfl rfl (fun hq => hu15 hq)) ?_
    refine ol_nil (thenN ?_)
    refine cond_s rfl ?_ ?_
    ·
      intro hc16
      clear hu13 hn13 hu14 hn14 hu15 hn15
      simp only [Bool.and_eq_true, Bool.and_eq_false_iff, decide_eq_true_eq, decide_eq_false_iff_not] at hc16
      obtain ⟨x, hxi⟩ : ∃ x, l[k]? = some x := ⟨_, List.getElem?_eq_getElem (by omega)⟩
      obtain ⟨cs, hcs4, hxA, hxc⟩ := RSl.at (hl.mono hS.ext) hxi
      obtain ⟨adx, capx, rfl, hxl⟩ := hxc
      have hxw := hw x (List.mem_of_getElem? hxi)
      have hlenk : (chainF ((l.headD ⟨0, []⟩).r % 13) (l.take k)).length = k := by rw [chainF_length, List.length_take]; omega
      have hsn := chainF_snoc x (l.take k) ((l.headD ⟨0, []⟩).r % 13)
      rw [← take_snoc hxi] at hsn
      refine wp_skip ?_
      refine thenN ?_
      refine wp_seq ?_
      refine wp_block ?_
      refine wp_seq ?_
      refine reg ?_
      refine qq hS (g_movev (v := .int .i64 _) rfl) ?_
      refine qq hS (g_eql rfl rfl) ?_
      refine ol_nil (thenN ?_)
      refine cond_s rfl ?_ ?_
      ·
        intro hc20
        try simp only [Bool.and_eq_true, Bool.or_eq_true, Bool.not_eq_true', Bool.and_eq_false_imp, Bool.or_eq_false_iff, Bool.not_eq_false', decide_eq_true_eq, decide_eq_false_iff_not] at hc20
        have hk : k = 0 := by omega
        subst hk
        have hr0 : lastO ((l.headD ⟨0, []⟩).r % 13) (chainF ((l.headD ⟨0, []⟩).r % 13) (l.take 0)) = x.r % 13 := by
          rw [List.take_zero]
          show (l.headD ⟨0, []⟩).r % 13 = _
          rw [List.headD_eq_head?_getD, List.head?_eq_getElem?, hxi]; rfl
        rw [hr0] at hsn
        refine reg ?_
        refine qq hS (g_move _) ?_
        refine qq hS (g_move _) ?_
        refine qq hS (g_movev (v := .int .i64 _) rfl) ?_
        refine qq hS (g_ixI Try.underlying22 Try.sizeOf47 hl rfl rfl (by omega) (by omega)) ?_
        refine qq hS (g_ldE (us := [.int .u8 _, .slice _ _ _]) Try.sizeOf47 Try.isAgg47 hxA rfl rfl rfl) ?_
        refine qe (d_call Try.call24 rfl (made_c x.r adx capx x.l _ _ hS.imm hxl hxw.l hxw.r.1 hxw.r.2)) ?_
        rintro _ w_2 ⟨I2, a2, m2, c2, rfl, hE, h2⟩
        replace hS := hS.callE hE
        have hPat : RPatC I2 [.bool (madeP x.l (x.r % 13)).lifted, .int .i64 (madeP x.l (x.r % 13)).in_, .int .i64 (madeP x.l (x.r % 13)).out, .slice a2 m2 c2] (madeP x.l (x.r % 13)) := ⟨a2, m2, c2, rfl, h2⟩
        refine qe (d_lit (vs := [.agg #[.bool _, .int .i64 _, .int .i64 _, .slice _ _ _]]) (cs := [.bool _, .int .i64 _, .int .i64 _, .slice _ _ _]) hS Try.underlying27 Try.sizeOf31 Try.zeroValue31 rfl rfl rfl rfl (fun v hv => by simp only [List.mem_cons, List.not_mem_nil, or_false] at hv; subst hv; rfl) rfl) ?_
        clear hS
        rintro _ w_3 ⟨b_3, rfl, hS⟩
        refine qe (i_appendO 1 0 hS rfl Try.underlying27 info31 rfl rfl rfl rfl rfl rfl rfl rfl (by omega) (by omega)) ?_
        clear hS
        rintro _ w_4 ⟨a28, p28, rfl, hS⟩
        refine qq hS (g_assign _) ?_
        refine ol_nil (blkN (thenN ?_))
        refine reg ?_
        refine qq hS (g_movev (v := .int .i64 _) rfl) ?_
        refine qq hS (g_add rfl rfl (by omega) (by omega)) ?_
        refine qq hS (g_assignv (v := .int .i64 _) rfl) ?_
        refine ol_nil (thenN ?_)
        first
          | (refine ⟨⟨0 + 1, css ++ [[.bool (madeP x.l (x.r % 13)).lifted, .int .i64 (madeP x.l (x.r % 13)).in_, .int .i64 (madeP x.l (x.r % 13)).out, .slice a2 m2 c2]], a28, p28⟩, _, rfl, ⟨⟨rfl, rfl, rfl, rfl, trivial⟩, I2, ?_, by dsimp only; omega, by dsimp only; omega, ?_, ?_⟩, by dsimp only; omega⟩
             · dsimp only
               rw [List.flatten_append, List.flatten_singleton]
               exact hS.sel [false, true]
             · dsimp only
               rw [hsn]
               exact All2.snoc (hall.mono fun _ _ h => h.mono hE.ext) ⟨_, _, _, rfl, h2⟩
             · intro cs hcs
               rcases List.mem_append.1 hcs with h | h
               · exact hcl4 cs h
               · simp only [List.mem_singleton] at h; subst h; rfl)
          | (refine ⟨⟨k + 1, css ++ [[.bool (madeP x.l pv.out).lifted, .int .i64 (madeP x.l pv.out).in_, .int .i64 (madeP x.l pv.out).out, .slice a2 m2 c2]], a42, p42⟩, _, rfl, ⟨⟨rfl, rfl, rfl, rfl, trivial⟩, I2, ?_, by dsimp only; omega, by dsimp only; omega, ?_, ?_⟩, by dsimp only; omega⟩
             · dsimp only
               rw [List.flatten_append, List.flatten_singleton]
               exact hS.sel [false, true]
             · dsimp only
               rw [hsn]
               exact All2.snoc (hall.mono fun _ _ h => h.mono hE.ext) ⟨_, _, _, rfl, h2⟩
             · intro cs hcs
               rcases List.mem_append.1 hcs with h | h
               · exact hcl4 cs h
               · simp only [List.mem_singleton] at h; subst h; rfl)
      ·
        intro hc20
        try simp only [Bool.and_eq_true, Bool.or_eq_true, Bool.not_eq_true', Bool.and_eq_false_imp, Bool.or_eq_false_iff, Bool.not_eq_false', decide_eq_true_eq, decide_eq_false_iff_not] at hc20
        obtain ⟨pv, hpvi⟩ : ∃ p, (chainF ((l.headD ⟨0, []⟩).r % 13) (l.take k))[k - 1]? = some p := ⟨_, List.getElem?_eq_getElem (by omega)⟩
        obtain ⟨csk, hcsk0⟩ : ∃ c, css[k - 1]? = some c := ⟨_, List.getElem?_eq_getElem (by rw [hall.1]; omega)⟩
        obtain ⟨adp, mq, cq, rfl, _⟩ := hall.2 _ _ _ hcsk0 hpvi
        have hcsk : css[((k : Int) - 1).toNat]? = some [.bool pv.lifted, .int .i64 pv.in_, .int .i64 pv.out, .slice adp mq cq] := by rw [show ((k : Int) - 1).toNat = k - 1 by omega]; exact hcsk0
        have hr0 : lastO ((l.headD ⟨0, []⟩).r % 13) (chainF ((l.headD ⟨0, []⟩).r % 13) (l.take k)) = pv.out := lastO_get _ _ (k - 1) pv (by omega) hpvi
        rw [hr0] at hsn
        have hpv : 0 ≤ pv.out ∧ pv.out ≤ 65536 := by
          obtain ⟨h1, h2⟩ := chainF_ok (l.take k) ((l.headD ⟨0, []⟩).r % 13) (by omega) (fun x hx => hw x (List.mem_of_mem_take hx))
          have := (h2 pv (List.mem_of_getElem? hpvi)).2
          omega
        refine draw (.cons 0 .pure (.cons 1 .pure (.cons 2 .pure (.cons 3 .pure (.cons 4 .held (.cons 5 .pure (.cons 6 .pure (.cons 7 .pure (.cons 8 .held (.cons 9 .pure (.cons 10 .held (.cons 11 .eff (.cons 12 .eff (.cons 13 .bar (.cons 14 .pure .nil))))))))))))))) mixed (by kernel_rfl) hS ?_
        intro w_5 hS
        refine sp rfl (g_move _) ?_
        refine sp rfl (g_move _) ?_
        refine sp rfl (g_movev (v := .int .i64 _) rfl) ?_
        refine sp rfl (g_ixI Try.underlying22 Try.sizeOf47 hl rfl rfl (by omega) (by omega)) ?_
        refine sh rfl (g_ldE (us := [.int .u8 _, .slice _ _ _]) Try.sizeOf47 Try.isAgg47 hxA rfl rfl rfl) ?_
        refine sp rfl (g_move _) ?_
        refine sp rfl (g_movev (v := .int .i64 _) rfl) ?_
        refine sp rfl (g_sub rfl rfl (by omega) (by omega)) ?_
        refine sh rfl (g_ixR 0 Try.underlying27 Try.sizeOf31 rfl rfl rfl (by omega) (by omega)) ?_
        refine sp rfl (g_fieldE (c' := 2) Try.underlying31 rfl Try.sizeOf3 rfl rfl rfl) ?_
        refine sh rfl (g_ldR1 0 Try.isAgg3 rfl rfl (flatten_get css hcl4 _ _ hcsk 2 _ rfl)) ?_
        have hS0 := hS
        refine se rfl (d_call Try.call25 rfl (sized_c x.r adx capx x.l pv.out _ _ hS.imm hxl hxw.l hpv.1 hpv.2)) ?_
        rintro _ w_6 ⟨I2, a2, m2, c2, rfl, hE, h2⟩
        replace hS := hS.call hE
        refine ⟨_, _, hS0.le hE.ext (List.Sublist.refl _), hS, ?_⟩
        have hS0 := hS
        refine se rfl (d_lit (vs := [.agg #[.bool _, .int .i64 _, .int .i64 _, .slice _ _ _]]) (cs := [.bool _, .int .i64 _, .int .i64 _, .slice _ _ _]) hS Try.underlying27 Try.sizeOf31 Try.zeroValue31 rfl rfl rfl rfl (fun v hv => by simp only [List.mem_cons, List.not_mem_nil, or_false] at hv; subst hv; rfl) rfl) ?_
        rintro _ w_7 ⟨b_7, rfl, hS⟩
        refine ⟨_, _, hS0.le (Sub.refl _) (List.sublist_cons_self _ _), hS, ?_⟩
        refine sb rfl (i_appendO 1 0 hS rfl Try.underlying27 info31 rfl rfl rfl rfl rfl rfl rfl rfl (by omega) (by omega)) ?_
        rintro _ w_8 ⟨a42, p42, rfl, hS⟩
        refine ⟨_, _, hS, ?_⟩
        refine sp rfl (g_assign _) ?_
        refine sn (blkN (thenN ?_))
        refine reg ?_
        refine qq hS (g_movev (v := .int .i64 _) rfl) ?_
        refine qq hS (g_add rfl rfl (by omega) (by omega)) ?_
        refine qq hS (g_assignv (v := .int .i64 _) rfl) ?_
        refine ol_nil (thenN ?_)
        first
          | (refine ⟨⟨0 + 1, css ++ [[.bool (madeP x.l (x.r % 13)).lifted, .int .i64 (madeP x.l (x.r % 13)).in_, .int .i64 (madeP x.l (x.r % 13)).out, .slice a2 m2 c2]], a28, p28⟩, _, rfl, ⟨⟨rfl, rfl, rfl, rfl, trivial⟩, I2, ?_, by dsimp only; omega, by dsimp only; omega, ?_, ?_⟩, by dsimp only; omega⟩
             · dsimp only
               rw [List.flatten_append, List.flatten_singleton]
               exact hS.sel [false, true]
             · dsimp only
               rw [hsn]
               exact All2.snoc (hall.mono fun _ _ h => h.mono hE.ext) ⟨_, _, _, rfl, h2⟩
             · intro cs hcs
               rcases List.mem_append.1 hcs with h | h
               · exact hcl4 cs h
               · simp only [List.mem_singleton] at h; subst h; rfl)
          | (refine ⟨⟨k + 1, css ++ [[.bool (madeP x.l pv.out).lifted, .int .i64 (madeP x.l pv.out).in_, .int .i64 (madeP x.l pv.out).out, .slice a2 m2 c2]], a42, p42⟩, _, rfl, ⟨⟨rfl, rfl, rfl, rfl, trivial⟩, I2, ?_, by dsimp only; omega, by dsimp only; omega, ?_, ?_⟩, by dsimp only; omega⟩
             · dsimp only
               rw [List.flatten_append, List.flatten_singleton]
               exact hS.sel [false, true]
             · dsimp only
               rw [hsn]
               exact All2.snoc (hall.mono fun _ _ h => h.mono hE.ext) ⟨_, _, _, rfl, h2⟩
             · intro cs hcs
               rcases List.mem_append.1 hcs with h | h
               · exact hcl4 cs h
               · simp only [List.mem_singleton] at h; subst h; rfl)
    ·
      intro hc16
      clear hu13 hn13 hu14 hn14 hu15 hn15
      simp only [Bool.and_eq_true, Bool.and_eq_false_iff, decide_eq_true_eq, decide_eq_false_iff_not] at hc16
      have htk : l.take n = l.take k := by
        by_cases h : k = n
        · rw [h]
        · rw [List.take_of_length_le (by omega), List.take_of_length_le (by omega)]
      have hCL : chainL l n = (chainF ((l.headD ⟨0, []⟩).r % 13) (l.take k)) := by unfold chainL; rw [htk]
      have hlenk : (chainF ((l.headD ⟨0, []⟩).r % 13) (l.take k)).length = k := by rw [chainF_length, List.length_take]; omega
      refine wp_exit ?_
      refine thenE (thenE (blkE ?_))
      refine thenN ?_
      refine wp_seq ?_
      refine wp_seq ?_
      refine reg ?_
      refine qq hS (g_move _) ?_
      refine qq hS (g_lenR 0 rfl Try.underlying27 rfl rfl) ?_
      refine qq hS (g_eql rfl rfl) ?_
      refine ol_nil (thenN ?_)
      refine cond_s rfl ?_ ?_
      ·
        intro hc45
        try simp only [Bool.and_eq_true, Bool.or_eq_true, Bool.not_eq_true', Bool.and_eq_false_imp, Bool.or_eq_false_iff, Bool.not_eq_false', decide_eq_true_eq, decide_eq_false_iff_not] at hc45
        have e := chainP_nil (l := l) (n := n) (by rw [hCL]; exact List.length_eq_zero_iff.1 (by omega))
        refine wp_seq ?_
        refine reg ?_
        refine qe (d_call Try.call44 rfl (refWhole_c 3 _ _ hS.imm (by decide))) ?_
        rintro _ w_9 ⟨I_f, a46, m46, c46, rfl, hE, h46⟩
        replace hS := hS.callE hE
        refine qe (d_lit (vs := [.agg #[.bool _, .int .i64 _, .int .i64 _, .slice _ _ _]]) (cs := [.bool _, .int .i64 _, .int .i64 _, .slice _ _ _]) hS Try.underlying27 Try.sizeOf31 Try.zeroValue31 rfl rfl rfl rfl (fun v hv => by simp only [List.mem_cons, List.not_mem_nil, or_false] at hv; subst hv; rfl) rfl) ?_
        clear hS
        rintro _ w_10 ⟨b47, rfl, hS⟩
        have hF := hS.freeze1
        clear hS
        obtain ⟨I47, hS, hI47, hb47⟩ := hF
        replace h46 := h46.mono hI47
        have h47 : RPats _ (.slice (some ⟨b47, 0, none⟩) 1 1) [wholeP 3] := RSl.ofAt (css := [[.bool (wholeP 3).lifted, .int .i64 (wholeP 3).in_, .int .i64 (wholeP 3).out, .slice a46 m46 c46]]) hb47 rfl (by simp) (All2.one ⟨_, _, _, rfl, h46⟩) rfl (by show 1 ≤ maxLen; decide)
        refine qq hS (g_assign _) ?_
        refine ol_nil (thenN ?_)
        refine wp_ret ?_
        refine thenR ?_
        refine ret1 Try.results13 (rv_tmp rfl) ?_
        rw [e]; exact ⟨_, _, 1, rfl, hS.nil, h47⟩
      ·
        intro hc45
        try simp only [Bool.and_eq_true, Bool.or_eq_true, Bool.not_eq_true', Bool.and_eq_false_imp, Bool.or_eq_false_iff, Bool.not_eq_false', decide_eq_true_eq, decide_eq_false_iff_not] at hc45
        have e := chainP_cons (l := l) (n := n) (by rw [hCL]; intro h; rw [h] at hlenk; simp at hlenk; omega)
        rw [hCL] at e
        refine wp_skip ?_
        refine thenN ?_
        refine wp_seq ?_
        refine reg ?_
        refine qq hS (g_move _) ?_
        refine qq hS (g_assign _) ?_
        refine ol_nil (thenN ?_)
        refine wp_ret ?_
        refine ret1 Try.results13 (rv_tmp rfl) ?_
        obtain ⟨I3, hS3, hI3, ho3⟩ := St.freezeRowR (hS.sel [true]) (xs := (chainF ((l.headD ⟨0, []⟩).r % 13) (l.take k))) hlenk.symm hcl4 hall
        rw [e, hlenk]
        exact ⟨I3, a, c, rfl, hS3, RSl.mono ho3 (Sub.refl _) fun _ _ h => h.mono hI3⟩

end Go.Proofs.Ythningkgpanaoaa

