/- compose.Through, Compose, fold, All: what they compute. Conditions: numbers within bounds. -/
import Derived.Test.YthningkgpanaoaaForm
import Derived.Test.YthningkgpanaoaaLaw1
import Derived.Test.YthningkgpanaoaaPats
import Derived.Test.YthningkgpanaoaaSpec9
namespace Go.Proofs.Ythningkgpanaoaa
open Go Go.RowKit Go.Inl
set_option linter.unusedSimpArgs false
set_option linter.unusedVariables false
theorem thr_lit' {a : List Sym} {s : Sym} (h : s.old = false) : symC (thr a s) = [.bool false, .int .i64 0, .int .u8 s.b] := by rw [thr_lit h]; rfl
theorem thr_old' {a : List Sym} {s x : Sym} (h : s.old = true) (hx : a[s.at_.toNat]? = some x) : symC (thr a s) = [.bool x.old, .int .i64 x.at_, .int .u8 (IntKind.u8.wrap (x.b + s.b))] := by
  rw [thr_old h]
  have e : a.getD s.at_.toNat z0 = x := by rw [List.getD_eq_getElem?_getD, hx]; rfl
  rw [e]; rfl
theorem throughP_bad {a b : List Sym} {s : Sym} (hs : s ∈ b) (h : badT a.length s = true) : throughP a b = ([], 61) := by
  unfold throughP; rw [if_pos (List.any_eq_true.2 ⟨s, hs, h⟩)]
theorem throughP_good {a b : List Sym} (h : ∀ s ∈ b, badT a.length s = false) : throughP a b = (b.map (thr a), 0) := by
  unfold throughP
  rw [if_neg]
  intro hb
  obtain ⟨s, hs, h1⟩ := List.any_eq_true.1 hb
  rw [h s hs] at h1; cases h1
theorem throughP_wf {a b : List Sym} (ha : ∀ s ∈ a, s.wf) (hb : ∀ s ∈ b, s.wf) : ∀ s ∈ (throughP a b).1, s.wf := by
  unfold throughP
  split
  · simp
  · exact thrL_wf ha hb
theorem composeP_wf {p q : PatL} (hp : p.wf) (hq : q.wf) : (composeP p q).1.wf := by
  unfold composeP
  split
  · exact zero_wf
  · split
    · exact zero_wf
    · split
      · exact zero_wf
      · split
        · exact zero_wf
        · split
          · exact zero_wf
          · split
            · exact zero_wf
            · have h := cheapP_wf (n := p.in_) (throughP_wf (symsOf_wf hp) (symsOf_wf hq))
              exact ⟨h.in_, h.out, h.ops, h.len⟩

set_option maxHeartbeats 1000000 in
theorem through_c (ad bd : Option Addr) (cap capb : Nat) (la lb : List Sym) (w0 : World) (I0 : Imm) (hI : Sat I0 w0) (ha : RSyms I0 (.slice ad la.length cap) la) (hb : RSyms I0 (.slice bd lb.length capb) lb) (hwb : ∀ s ∈ lb, s.wf) (hn : lb.length ≤ 65536) :
    Ctr Try.prog 20 [.slice ad la.length cap, .slice bd lb.length capb] w0 (fun v w' => ∃ I' a c, v = .tuple #[.slice a (throughP la lb).1.length c, .int .i64 (throughP la lb).2] ∧ Ext w0 I0 w' I' ∧ RSyms I' (.slice a (throughP la lb).1.length c) (throughP la lb).1) := by
  have hll := RSl.le hb
  have hlla := RSl.le ha
  simp only [maxLen] at hll hlla
  refine fn (n := 55) Try.func20 rfl rfl rfl ?_
  have hS := St.start hI
  refine wp_seq ?_
  refine reg ?_
  refine qq hS (g_assign _) ?_
  refine qq hS (g_assignv (v := .int .i64 _) rfl) ?_
  refine ol_nil (thenN ?_)
  refine wp_seq ?_
  refine reg ?_
  refine qq hS (g_move _) ?_
  refine qq hS (g_lenI rfl Try.underlying37 hb rfl) ?_
  refine qe (i_make0 hS Try.underlying37 info54 rfl rfl (by omega) (by omega) (by omega)) ?_
  clear hS
  rintro _ w_1 ⟨a12, p12, rfl, hS⟩
  refine qq hS (g_assign _) ?_
  refine ol_nil (thenN ?_)
  refine wp_seq ?_
  refine wp_seq ?_
  refine reg ?_
  refine qq hS (g_move _) ?_
  refine qq hS (g_lenI rfl Try.underlying37 hb rfl) ?_
  refine qq hS (g_movev (v := .int .i64 _) rfl) ?_
  refine ol_nil (thenN ?_)
  refine wp_block ?_
  refine loop (fun (x : Nat × Option Addr × Nat) σ w => okS σ [(0, .slice ad la.length cap), (6, .slice x.2.1 x.1 x.2.2), (13, .slice bd lb.length capb), (14, .int .i64 lb.length), (15, .int .i64 x.1)] ∧ St [] w0 I0 I0 w [.row (.slice x.2.1 x.1 x.2.2) 54 3 x.1 (flat symC ((lb.take x.1).map (thr la)))] ∧ x.1 ≤ lb.length ∧ ∀ s ∈ lb.take x.1, badT la.length s = false) (fun x => lb.length - x.1) ((0, a12, p12)) ?_ ?_
  ·
    exact ⟨⟨rfl, rfl, rfl, rfl, rfl, trivial⟩, hS.sel [true], by simp, by simp⟩
  ·
    rintro ⟨k, a, c⟩ σ w_l ⟨hs, hS, hk0, hbad⟩
    dsimp only at hs hS hk0 hbad ⊢
    rw [← upds_self hs]; clear hs
    refine wp_seq ?_
    refine reg ?_
    refine qq hS (g_lss rfl rfl) ?_
    refine ol_nil (thenN ?_)
    refine wp_seq ?_
    refine cond_s rfl ?_ ?_
    ·
      intro hc16
      try simp only [Bool.and_eq_true, Bool.or_eq_true, Bool.not_eq_true', Bool.and_eq_false_imp, Bool.or_eq_false_iff, Bool.not_eq_false', decide_eq_true_eq, decide_eq_false_iff_not] at hc16
      obtain ⟨s, hsi⟩ : ∃ s, lb[k]? = some s := ⟨_, List.getElem?_eq_getElem (by omega)⟩
      have hsA := hb.at hsi
      have hsm := List.mem_of_getElem? hsi
      obtain ⟨sw1, sw2, sw3, sw4⟩ := hwb s hsm
      refine wp_skip ?_
      refine thenN ?_
      refine wp_seq ?_
      refine wp_block ?_
      refine wp_seq ?_
      refine reg ?_
      refine qq hS (g_ixI Try.underlying37 Try.sizeOf54 hb rfl rfl (by omega) (by omega)) ?_
      refine qq hS (g_ldE (us := [.bool _, .int .i64 _, .int .u8 _]) Try.sizeOf54 Try.isAgg54 hsA rfl rfl rfl) ?_
      refine qe (d_alloc (cs := [.bool _, .int .i64 _, .int .u8 _]) hS Try.zeroValue54 rfl) ?_
      clear hS
      rintro _ w_2 ⟨b8, rfl, hS⟩
      refine qe (d_store 0 hS Try.sizeOf54 rfl rfl rfl (vs := [.bool _, .int .i64 _, .int .u8 _]) rfl rfl rfl (Nat.le_of_ble_eq_true rfl) (cs' := [_, _, _]) rfl) ?_
      clear hS
      rintro _ w_3 ⟨rfl, hS⟩
      refine ol_nil (thenN ?_)
      refine wp_seq ?_
      refine wp_seq ?_
      refine reg ?_
      refine qq hS (g_fieldAddr (o' := 0) Try.underlying54 rfl Try.sizeOf4 rfl rfl rfl) ?_
      refine qq hS (g_ldO1 0 Try.isAgg4 rfl rfl rfl) ?_
      refine qq hS (g_not rfl) ?_
      refine ol_nil (thenN ?_)
      refine cond_s rfl ?_ ?_
      ·
        intro hc21
        try simp only [Bool.and_eq_true, Bool.or_eq_true, Bool.not_eq_true', Bool.and_eq_false_imp, Bool.or_eq_false_iff, Bool.not_eq_false', decide_eq_true_eq, decide_eq_false_iff_not] at hc21
        have hso : s.old = false := hc21
        have hbd : badT la.length s = false := by unfold badT; rw [hso]; rfl
        have ht := thr_lit' (a := la) hso
        refine wp_seq ?_
        refine reg ?_
        refine qq hS (g_move _) ?_
        refine qq hS (g_fieldAddr (o' := 2) Try.underlying54 rfl Try.sizeOf5 rfl rfl rfl) ?_
        refine qq hS (g_ldO1 0 Try.isAgg5 rfl rfl rfl) ?_
        refine qq hS (g_buildv (pl := [(0, 1), (1, 1), (2, 1)]) (cs := [.bool _, .int .i64 _, .int .u8 _]) Try.zeroValue54 Try.underlying54 (fun w => by simp [Try.sizeOf3, Try.sizeOf4, Try.sizeOf5]) (mp (v := .int .u8 _) rfl mp0) rfl) ?_
        refine qe (d_lit (vs := [.agg #[.bool _, .int .i64 _, .int .u8 _]]) (cs := [.bool _, .int .i64 _, .int .u8 _]) hS Try.underlying37 Try.sizeOf54 Try.zeroValue54 rfl rfl rfl rfl (fun v hv => by simp only [List.mem_cons, List.not_mem_nil, or_false] at hv; subst hv; rfl) rfl) ?_
        clear hS
        rintro _ w_4 ⟨b_4, rfl, hS⟩
        refine qe (i_appendO 2 0 hS rfl Try.underlying37 info54 rfl rfl rfl rfl rfl rfl rfl rfl (by omega) (by omega)) ?_
        clear hS
        rintro _ w_5 ⟨a27, p27, rfl, hS⟩
        refine qq hS (g_assign _) ?_
        refine ol_nil (thenN ?_)
        refine wp_exit ?_
        refine thenE (blkE ?_)
        refine thenN ?_
        refine reg ?_
        refine qq hS (g_add rfl rfl (by omega) (by omega)) ?_
        refine qq hS (g_movev (v := .int .i64 _) rfl) ?_
        refine ol_nil (thenN ?_)
        first
          | (refine ⟨(k + 1, a27, p27), _, rfl, ⟨⟨rfl, rfl, rfl, rfl, rfl, trivial⟩, ?_, by dsimp only; omega, any_take hsi hbad hbd⟩, by dsimp only; omega⟩
             dsimp only
             rw [take_snoc hsi, List.map_append, flat_append, List.map_cons, List.map_nil, flat_one, ht]
             exact hS.sel [false, false, true])
          | (refine ⟨(k + 1, a52, p52), _, rfl, ⟨⟨rfl, rfl, rfl, rfl, rfl, trivial⟩, ?_, by dsimp only; omega, any_take hsi hbad hbd⟩, by dsimp only; omega⟩
             dsimp only
             rw [take_snoc hsi, List.map_append, flat_append, List.map_cons, List.map_nil, flat_one, ht]
             exact hS.sel [false, false, true])
      ·
        intro hc21
        try simp only [Bool.and_eq_true, Bool.or_eq_true, Bool.not_eq_true', Bool.and_eq_false_imp, Bool.or_eq_false_iff, Bool.not_eq_false', decide_eq_true_eq, decide_eq_false_iff_not] at hc21
        have hso : s.old = true := hc21
        refine wp_skip ?_
        refine thenN ?_
        refine wp_seq ?_
        refine wp_seq ?_
        refine reg ?_
        refine qq hS (g_fieldAddr (o' := 1) Try.underlying54 rfl Try.sizeOf3 rfl rfl rfl) ?_
        refine qq hS (g_ldO1 0 Try.isAgg3 rfl rfl rfl) ?_
        refine qq hS (g_lss rfl rfl) ?_
        refine qq hS (g_movev (v := .bool _) rfl) ?_
        refine qu rfl rfl hS (fun hg => (g_fieldAddr (o' := 1) Try.underlying54 rfl Try.sizeOf3 rfl rfl rfl)) ?_
        intro u32 hu32 hn32
        refine qu rfl rfl hS (fun hg => (g_ldO1 0 Try.isAgg3 rfl (hu32 hg) rfl)) ?_
        intro u33 hu33 hn33
        refine qu rfl rfl hS (fun hg => (g_move _)) ?_
        intro u34 hu34 hn34
        refine qu rfl rfl hS (fun hg => (g_lenI rfl Try.underlying37 ha (hu34 hg))) ?_
        intro u35 hu35 hn35
        refine qu rfl rfl hS (fun hg => (g_geq (hu33 hg) (hu35 hg))) ?_
        intro u36 hu36 hn36
        refine qq hS (g_or rfl rfl (fun hq => hu36 hq)) ?_
        refine ol_nil (thenN ?_)
        refine cond_s rfl ?_ ?_
        ·
          intro hc37
          clear hu32 hn32 hu33 hn33 hu34 hn34 hu35 hn35 hu36 hn36
          have hbd : badT la.length s = true := by unfold badT; rw [hso, Bool.true_and]; exact hc37
          have e := throughP_bad hsm hbd
          refine wp_seq ?_
          refine reg ?_
          refine qq hS (g_assign _) ?_
          refine qq hS (g_assignv (v := .int .i64 _) rfl) ?_
          refine ol_nil (thenN ?_)
          refine wp_ret ?_
          refine thenR (blkR (thenR (thenR (blkR (thenR ?_)))))
          refine ret2 Try.results20 (rv_tmp rfl) (rv_tmp (v := .int .i64 _) rfl) ?_
          rw [e]; exact ⟨_, none, 0, rfl, hS.nil, RSl.nilR⟩
        ·
          intro hc37
          clear hu32 hn32 hu33 hn33 hu34 hn34 hu35 hn35 hu36 hn36
          have hbd : badT la.length s = false := by unfold badT; rw [hso, Bool.true_and]; exact hc37
          simp only [Bool.or_eq_false_iff, decide_eq_false_iff_not] at hc37
          have hin : s.at_.toNat < la.length := by omega
          obtain ⟨x, hxi⟩ : ∃ x, la[s.at_.toNat]? = some x := ⟨_, List.getElem?_eq_getElem hin⟩
          have hxA := ha.at hxi
          have ht := thr_old' hso hxi
          refine wp_skip ?_
          refine thenN ?_
          refine wp_seq ?_
          refine reg ?_
          refine qq hS (g_move _) ?_
          refine qq hS (g_fieldAddr (o' := 1) Try.underlying54 rfl Try.sizeOf3 rfl rfl rfl) ?_
          refine qq hS (g_ldO1 0 Try.isAgg3 rfl rfl rfl) ?_
          refine qq hS (g_ixI Try.underlying37 Try.sizeOf54 ha rfl rfl (by omega) (by omega)) ?_
          refine qq hS (g_ldE (us := [.bool _, .int .i64 _, .int .u8 _]) Try.sizeOf54 Try.isAgg54 hxA rfl rfl rfl) ?_
          refine qe (d_alloc (cs := [.bool _, .int .i64 _, .int .u8 _]) hS Try.zeroValue54 rfl) ?_
          clear hS
          rintro _ w_6 ⟨b9, rfl, hS⟩
          refine qe (d_store 0 hS Try.sizeOf54 rfl rfl rfl (vs := [.bool _, .int .i64 _, .int .u8 _]) rfl rfl rfl (Nat.le_of_ble_eq_true rfl) (cs' := [_, _, _]) rfl) ?_
          clear hS
          rintro _ w_7 ⟨rfl, hS⟩
          refine ol_nil (thenN ?_)
          refine wp_seq ?_
          refine reg ?_
          refine qq hS (g_fieldAddr (o' := 2) Try.underlying54 rfl Try.sizeOf5 rfl rfl rfl) ?_
          refine qq hS (g_ldO1 0 Try.isAgg5 rfl rfl rfl) ?_
          refine qq hS (g_fieldAddr (o' := 2) Try.underlying54 rfl Try.sizeOf5 rfl rfl rfl) ?_
          refine qq hS (g_ldO1 1 Try.isAgg5 rfl rfl rfl) ?_
          refine qq hS (g_addw rfl rfl) ?_
          refine qq hS (g_fieldAddr (o' := 2) Try.underlying54 rfl Try.sizeOf5 rfl rfl rfl) ?_
          refine qe (d_store 0 hS Try.sizeOf5 rfl rfl rfl (vs := [.int .u8 _]) rfl rfl rfl (Nat.le_of_ble_eq_true rfl) (cs' := [_, _, _]) rfl) ?_
          clear hS
          rintro _ w_8 ⟨rfl, hS⟩
          refine ol_nil (thenN ?_)
          refine reg ?_
          refine qq hS (g_move _) ?_
          refine qq hS (g_ldO 0 (vs := [.bool _, .int .i64 _, .int .u8 _]) Try.sizeOf54 Try.isAgg54 rfl rfl rfl rfl) ?_
          refine qe (d_lit (vs := [.agg #[.bool _, .int .i64 _, .int .u8 _]]) (cs := [.bool _, .int .i64 _, .int .u8 _]) hS Try.underlying37 Try.sizeOf54 Try.zeroValue54 rfl rfl rfl rfl (fun v hv => by simp only [List.mem_cons, List.not_mem_nil, or_false] at hv; subst hv; rfl) rfl) ?_
          clear hS
          rintro _ w_9 ⟨b_9, rfl, hS⟩
          refine qe (i_appendO 3 0 hS rfl Try.underlying37 info54 rfl rfl rfl rfl rfl rfl rfl rfl (by omega) (by omega)) ?_
          clear hS
          rintro _ w_10 ⟨a52, p52, rfl, hS⟩
          refine qq hS (g_assign _) ?_
          refine ol_nil (blkN (thenN ?_))
          refine reg ?_
          refine qq hS (g_add rfl rfl (by omega) (by omega)) ?_
          refine qq hS (g_movev (v := .int .i64 _) rfl) ?_
          refine ol_nil (thenN ?_)
          first
            | (refine ⟨(k + 1, a27, p27), _, rfl, ⟨⟨rfl, rfl, rfl, rfl, rfl, trivial⟩, ?_, by dsimp only; omega, any_take hsi hbad hbd⟩, by dsimp only; omega⟩
               dsimp only
               rw [take_snoc hsi, List.map_append, flat_append, List.map_cons, List.map_nil, flat_one, ht]
               exact hS.sel [false, false, false, true])
            | (refine ⟨(k + 1, a52, p52), _, rfl, ⟨⟨rfl, rfl, rfl, rfl, rfl, trivial⟩, ?_, by dsimp only; omega, any_take hsi hbad hbd⟩, by dsimp only; omega⟩
               dsimp only
               rw [take_snoc hsi, List.map_append, flat_append, List.map_cons, List.map_nil, flat_one, ht]
               exact hS.sel [false, false, false, true])
    ·
      intro hc16
      try simp only [Bool.and_eq_true, Bool.or_eq_true, Bool.not_eq_true', Bool.and_eq_false_imp, Bool.or_eq_false_iff, Bool.not_eq_false', decide_eq_true_eq, decide_eq_false_iff_not] at hc16
      have hk : k = lb.length := by omega
      subst hk
      rw [List.take_length] at hS hbad
      have e := throughP_good hbad
      refine wp_exit ?_
      refine thenE (thenE (blkE ?_))
      refine thenN ?_
      refine wp_seq ?_
      refine reg ?_
      refine qq hS (g_move _) ?_
      refine qq hS (g_assign _) ?_
      refine qq hS (g_assignv (v := .int .i64 _) rfl) ?_
      refine ol_nil (thenN ?_)
      refine wp_ret ?_
      refine ret2 Try.results20 (rv_tmp rfl) (rv_tmp (v := .int .i64 _) rfl) ?_
      obtain ⟨I1, hE1, hI1, hd1⟩ := row_freeze1 symC_len (xs := lb.map (thr la)) (hS.sel [true]) (by simp)
      have hlm : (lb.map (thr la)).length = lb.length := List.length_map _
      have hl1 : (throughP la lb).1.length = lb.length := by rw [e]; exact hlm
      rw [hl1]
      exact ⟨I1, a, c, by rw [e]; rfl, hE1, by rw [e]; exact hd1⟩

set_option maxHeartbeats 1000000 in
theorem refThrough_c (ad bd : Option Addr) (cap capb : Nat) (la lb : List Sym) (w0 : World) (I0 : Imm) (hI : Sat I0 w0) (ha : RSyms I0 (.slice ad la.length cap) la) (hb : RSyms I0 (.slice bd lb.length capb) lb) (hwb : ∀ s ∈ lb, s.wf) (hn : lb.length ≤ 65536) :
    Ctr Try.prog 21 [.slice ad la.length cap, .slice bd lb.length capb] w0 (fun v w' => ∃ I' a c, v = .tuple #[.slice a (throughP la lb).1.length c, .int .i64 (throughP la lb).2] ∧ Ext w0 I0 w' I' ∧ RSyms I' (.slice a (throughP la lb).1.length c) (throughP la lb).1) := by
  have hll := RSl.le hb
  have hlla := RSl.le ha
  simp only [maxLen] at hll hlla
  refine fn (n := 65) Try.func21 rfl rfl rfl ?_
  have hS := St.start hI
  refine wp_seq ?_
  refine reg ?_
  refine qq hS (g_assign _) ?_
  refine qq hS (g_assignv (v := .int .i64 _) rfl) ?_
  refine ol_nil (thenN ?_)
  refine wp_seq ?_
  refine reg ?_
  refine qe (d_buildSlice0 hS Try.underlying37 Try.sizeOf54) ?_
  clear hS
  rintro _ w_1 ⟨hS, b9_, rfl⟩
  refine qq hS (g_assign _) ?_
  refine ol_nil (thenN ?_)
  refine wp_seq ?_
  refine wp_seq ?_
  refine reg ?_
  refine qq hS (g_assignv (v := .int .i64 _) rfl) ?_
  refine ol_nil (thenN ?_)
  refine wp_block ?_
  refine loop (fun (x : Nat × Option Addr × Nat) σ w => okS σ [(0, .slice ad la.length cap), (1, .slice bd lb.length capb), (6, .slice x.2.1 x.1 x.2.2), (7, .int .i64 x.1)] ∧ St [] w0 I0 I0 w [.row (.slice x.2.1 x.1 x.2.2) 54 3 x.1 (flat symC ((lb.take x.1).map (thr la)))] ∧ x.1 ≤ lb.length ∧ ∀ s ∈ lb.take x.1, badT la.length s = false) (fun x => lb.length - x.1) ((0, some ⟨b9_, 0, none⟩, 0)) ?_ ?_
  ·
    exact ⟨⟨rfl, rfl, rfl, rfl, trivial⟩, hS.sel [true], by simp, by simp⟩
  ·
    rintro ⟨k, a, c⟩ σ w_l ⟨hs, hS, hk0, hbad⟩
    dsimp only at hs hS hk0 hbad ⊢
    rw [← upds_self hs]; clear hs
    refine wp_seq ?_
    refine wp_seq ?_
    refine reg ?_
    refine qq hS (g_movev (v := .int .i64 _) rfl) ?_
    refine qq hS (g_move _) ?_
    refine qq hS (g_lenI rfl Try.underlying37 hb rfl) ?_
    refine qq hS (g_lss rfl rfl) ?_
    refine ol_nil (thenN ?_)
    refine cond_s rfl ?_ ?_
    ·
      intro hc13
      try simp only [Bool.and_eq_true, Bool.or_eq_true, Bool.not_eq_true', Bool.and_eq_false_imp, Bool.or_eq_false_iff, Bool.not_eq_false', decide_eq_true_eq, decide_eq_false_iff_not] at hc13
      obtain ⟨s, hsi⟩ : ∃ s, lb[k]? = some s := ⟨_, List.getElem?_eq_getElem (by omega)⟩
      have hsA := hb.at hsi
      have hsm := List.mem_of_getElem? hsi
      obtain ⟨sw1, sw2, sw3, sw4⟩ := hwb s hsm
      refine wp_skip ?_
      refine thenN ?_
      refine wp_seq ?_
      refine wp_block ?_
      refine wp_seq ?_
      refine reg ?_
      refine qq hS (g_move _) ?_
      refine qq hS (g_movev (v := .int .i64 _) rfl) ?_
      refine qq hS (g_ixI Try.underlying37 Try.sizeOf54 hb rfl rfl (by omega) (by omega)) ?_
      refine qq hS (g_fieldE (c' := 2) Try.underlying54 rfl Try.sizeOf5 rfl rfl rfl) ?_
      refine qq hS (g_ldE1 Try.isAgg5 hsA rfl rfl) ?_
      refine qq hS (g_buildv (pl := [(0, 1), (1, 1), (2, 1)]) (cs := [.bool _, .int .i64 _, .int .u8 _]) Try.zeroValue54 Try.underlying54 (fun w => by simp [Try.sizeOf3, Try.sizeOf4, Try.sizeOf5]) (mp (v := .int .u8 _) rfl mp0) rfl) ?_
      refine qe (d_alloc (cs := [.bool _, .int .i64 _, .int .u8 _]) hS Try.zeroValue54 rfl) ?_
      clear hS
      rintro _ w_2 ⟨b8, rfl, hS⟩
      refine qe (d_store 0 hS Try.sizeOf54 rfl rfl rfl (vs := [.bool _, .int .i64 _, .int .u8 _]) rfl rfl rfl (Nat.le_of_ble_eq_true rfl) (cs' := [_, _, _]) rfl) ?_
      clear hS
      rintro _ w_3 ⟨rfl, hS⟩
      refine ol_nil (thenN ?_)
      refine meet (fun σ w => okS σ [(0, .slice ad la.length cap), (1, .slice bd lb.length capb), (6, .slice a k c), (7, .int .i64 k), (8, .pointer (some ⟨b8, 0, none⟩))] ∧ St [] w0 I0 I0 w [.cel b8 54 (symC (thr la s)), .row (.slice a k c) 54 3 k (flat symC ((lb.take k).map (thr la)))] ∧ badT la.length s = false) ?_ ?_
      ·
        refine wp_seq ?_
        refine reg ?_
        refine qq hS (g_move _) ?_
        refine qq hS (g_movev (v := .int .i64 _) rfl) ?_
        refine qq hS (g_ixI Try.underlying37 Try.sizeOf54 hb rfl rfl (by omega) (by omega)) ?_
        refine qq hS (g_fieldE (c' := 0) Try.underlying54 rfl Try.sizeOf4 rfl rfl rfl) ?_
        refine qq hS (g_ldE1 Try.isAgg4 hsA rfl rfl) ?_
        refine ol_nil (thenN ?_)
        refine cond_s rfl ?_ ?_
        ·
          intro hc26
          try simp only [Bool.and_eq_true, Bool.or_eq_true, Bool.not_eq_true', Bool.and_eq_false_imp, Bool.or_eq_false_iff, Bool.not_eq_false', decide_eq_true_eq, decide_eq_false_iff_not] at hc26
          have hso : s.old = true := hc26
          refine wp_seq ?_
          refine wp_seq ?_
          refine reg ?_
          refine qq hS (g_move _) ?_
          refine qq hS (g_movev (v := .int .i64 _) rfl) ?_
          refine qq hS (g_ixI Try.underlying37 Try.sizeOf54 hb rfl rfl (by omega) (by omega)) ?_
          refine qq hS (g_fieldE (c' := 1) Try.underlying54 rfl Try.sizeOf3 rfl rfl rfl) ?_
          refine qq hS (g_ldE1 Try.isAgg3 hsA rfl rfl) ?_
          refine qq hS (g_lss rfl rfl) ?_
          refine qq hS (g_movev (v := .bool _) rfl) ?_
          refine qu rfl rfl hS (fun hg => (g_move _)) ?_
          intro u34 hu34 hn34
          refine qu rfl rfl hS (fun hg => (g_movev (v := .int .i64 _) rfl)) ?_
          intro u35 hu35 hn35
          refine qu rfl rfl hS (fun hg => (g_ixI Try.underlying37 Try.sizeOf54 hb (hu34 hg) (hu35 hg) (by omega) (by omega))) ?_
          intro u36 hu36 hn36
          refine qu rfl rfl hS (fun hg => (g_fieldE (c' := 1) Try.underlying54 rfl Try.sizeOf3 rfl (hu36 hg) rfl)) ?_
          intro u37 hu37 hn37
          refine qu rfl rfl hS (fun hg => (g_ldE1 Try.isAgg3 hsA (hu37 hg) rfl)) ?_
          intro u38 hu38 hn38
          refine qu rfl rfl hS (fun hg => (g_move _)) ?_
          intro u39 hu39 hn39
          refine qu rfl rfl hS (fun hg => (g_lenI rfl Try.underlying37 ha (hu39 hg))) ?_
          intro u40 hu40 hn40
          refine qu rfl rfl hS (fun hg => (g_geq (hu38 hg) (hu40 hg))) ?_
          intro u41 hu41 hn41
          refine qq hS (g_or rfl rfl (fun hq => hu41 hq)) ?_
          refine ol_nil (thenN ?_)
          refine cond_s rfl ?_ ?_
          ·
            intro hc42
            clear hu34 hn34 hu35 hn35 hu36 hn36 hu37 hn37 hu38 hn38 hu39 hn39 hu40 hn40 hu41 hn41
            have hbd : badT la.length s = true := by unfold badT; rw [hso, Bool.true_and]; exact hc42
            have e := throughP_bad hsm hbd
            refine wp_seq ?_
            refine reg ?_
            refine qq hS (g_assign _) ?_
            refine qq hS (g_assignv (v := .int .i64 _) rfl) ?_
            refine ol_nil (thenN ?_)
            refine wp_ret ?_
            refine thenR (thenR (blkR (thenR (thenR (blkR (thenR ?_))))))
            refine ret2 Try.results21 (rv_tmp rfl) (rv_tmp (v := .int .i64 _) rfl) ?_
            rw [e]; exact ⟨_, none, 0, rfl, hS.nil, RSl.nilR⟩
          ·
            intro hc42
            clear hu34 hn34 hu35 hn35 hu36 hn36 hu37 hn37 hu38 hn38 hu39 hn39 hu40 hn40 hu41 hn41
            have hbd : badT la.length s = false := by unfold badT; rw [hso, Bool.true_and]; exact hc42
            simp only [Bool.or_eq_false_iff, decide_eq_false_iff_not] at hc42
            have hin : s.at_.toNat < la.length := by omega
            obtain ⟨x, hxi⟩ : ∃ x, la[s.at_.toNat]? = some x := ⟨_, List.getElem?_eq_getElem hin⟩
            have hxA := ha.at hxi
            have ht := thr_old' hso hxi
            refine wp_skip ?_
            refine thenN ?_
            refine wp_seq ?_
            refine reg ?_
            refine qq hS (g_move _) ?_
            refine qq hS (g_move _) ?_
            refine qq hS (g_movev (v := .int .i64 _) rfl) ?_
            refine qq hS (g_ixI Try.underlying37 Try.sizeOf54 hb rfl rfl (by omega) (by omega)) ?_
            refine qq hS (g_fieldE (c' := 1) Try.underlying54 rfl Try.sizeOf3 rfl rfl rfl) ?_
            refine qq hS (g_ldE1 Try.isAgg3 hsA rfl rfl) ?_
            refine qq hS (g_ixI Try.underlying37 Try.sizeOf54 ha rfl rfl (by omega) (by omega)) ?_
            refine qq hS (g_ldE (us := [.bool _, .int .i64 _, .int .u8 _]) Try.sizeOf54 Try.isAgg54 hxA rfl rfl rfl) ?_
            refine qe (d_store 0 hS Try.sizeOf54 rfl rfl rfl (vs := [.bool _, .int .i64 _, .int .u8 _]) rfl rfl rfl (Nat.le_of_ble_eq_true rfl) (cs' := [_, _, _]) rfl) ?_
            clear hS
            rintro _ w_4 ⟨rfl, hS⟩
            refine ol_nil (thenN ?_)
            refine draw (.cons 0 .pure (.cons 1 .held (.cons 2 .pure (.cons 3 .pure (.cons 4 .pure (.cons 5 .pure (.cons 6 .held (.cons 7 .pure (.cons 8 .pure (.cons 9 .bar .nil)))))))))) mixed (by kernel_rfl) hS ?_
            intro w_5 hS
            refine sp rfl (g_fieldAddr (o' := 2) Try.underlying54 rfl Try.sizeOf5 rfl rfl rfl) ?_
            refine sh rfl (g_ldO1 0 Try.isAgg5 rfl rfl rfl) ?_
            refine sp rfl (g_move _) ?_
            refine sp rfl (g_movev (v := .int .i64 _) rfl) ?_
            refine sp rfl (g_ixI Try.underlying37 Try.sizeOf54 hb rfl rfl (by omega) (by omega)) ?_
            refine sp rfl (g_fieldE (c' := 2) Try.underlying54 rfl Try.sizeOf5 rfl rfl rfl) ?_
            refine sh rfl (g_ldE1 Try.isAgg5 hsA rfl rfl) ?_
            refine sp rfl (g_addw rfl rfl) ?_
            refine sp rfl (g_fieldAddr (o' := 2) Try.underlying54 rfl Try.sizeOf5 rfl rfl rfl) ?_
            refine sb rfl (d_store 0 hS Try.sizeOf5 rfl rfl rfl (vs := [.int .u8 _]) rfl rfl rfl (Nat.le_of_ble_eq_true rfl) (cs' := [_, _, _]) rfl) ?_
            rintro _ w_6 ⟨rfl, hS⟩
            refine ⟨_, _, hS, ?_⟩
            refine sn (thenN ?_)
            refine ⟨_, rfl, ⟨rfl, rfl, rfl, rfl, rfl, trivial⟩, ?_, hbd⟩
            rw [ht]
            exact hS.sel [true, true]
        ·
          intro hc26
          try simp only [Bool.and_eq_true, Bool.or_eq_true, Bool.not_eq_true', Bool.and_eq_false_imp, Bool.or_eq_false_iff, Bool.not_eq_false', decide_eq_true_eq, decide_eq_false_iff_not] at hc26
          have hso : s.old = false := hc26
          have hbd : badT la.length s = false := by unfold badT; rw [hso]; rfl
          have ht := thr_lit' (a := la) hso
          refine wp_skip ?_
          refine thenN ?_
          refine ⟨_, rfl, ⟨rfl, rfl, rfl, rfl, rfl, trivial⟩, ?_, hbd⟩
          rw [ht]
          exact hS.sel [true, true]
      ·
        rintro σ w ⟨hs, hS, hbd⟩
        rw [← upds_self hs]
        refine reg ?_
        refine qq hS (g_move _) ?_
        refine qq hS (g_ldO 0 (vs := [.bool _, .int .i64 _, .int .u8 _]) Try.sizeOf54 Try.isAgg54 rfl rfl rfl rfl) ?_
        refine qe (d_lit (vs := [.agg #[.bool _, .int .i64 _, .int .u8 _]]) (cs := [.bool _, .int .i64 _, .int .u8 _]) hS Try.underlying37 Try.sizeOf54 Try.zeroValue54 rfl rfl rfl rfl (fun v hv => by simp only [List.mem_cons, List.not_mem_nil, or_false] at hv; subst hv; rfl) rfl) ?_
        clear hS
        rintro _ w_7 ⟨b_7, rfl, hS⟩
        refine qe (i_appendO 2 0 hS rfl Try.underlying37 info54 rfl rfl rfl rfl rfl rfl rfl rfl (by omega) (by omega)) ?_
        clear hS
        rintro _ w_8 ⟨a63, p63, rfl, hS⟩
        refine qq hS (g_assign _) ?_
        refine ol_nil (blkN (thenN ?_))
        refine reg ?_
        refine qq hS (g_movev (v := .int .i64 _) rfl) ?_
        refine qq hS (g_add rfl rfl (by omega) (by omega)) ?_
        refine qq hS (g_assignv (v := .int .i64 _) rfl) ?_
        refine ol_nil (thenN ?_)
        refine ⟨(k + 1, a63, p63), _, rfl, ⟨⟨rfl, rfl, rfl, rfl, trivial⟩, ?_, by dsimp only; omega, any_take hsi hbad hbd⟩, by dsimp only; omega⟩
        dsimp only
        rw [take_snoc hsi, List.map_append, flat_append, List.map_cons, List.map_nil, flat_one]
        exact hS.sel [false, false, true]
    ·
      intro hc13
      try simp only [Bool.and_eq_true, Bool.or_eq_true, Bool.not_eq_true', Bool.and_eq_false_imp, Bool.or_eq_false_iff, Bool.not_eq_false', decide_eq_true_eq, decide_eq_false_iff_not] at hc13
      have hk : k = lb.length := by omega
      subst hk
      rw [List.take_length] at hS hbad
      have e := throughP_good hbad
      refine wp_exit ?_
      refine thenE (thenE (blkE ?_))
      refine thenN ?_
      refine wp_seq ?_
      refine reg ?_
      refine qq hS (g_move _) ?_
      refine qq hS (g_assign _) ?_
      refine qq hS (g_assignv (v := .int .i64 _) rfl) ?_
      refine ol_nil (thenN ?_)
      refine wp_ret ?_
      refine ret2 Try.results21 (rv_tmp rfl) (rv_tmp (v := .int .i64 _) rfl) ?_
      obtain ⟨I1, hE1, hI1, hd1⟩ := row_freeze1 symC_len (xs := lb.map (thr la)) (hS.sel [true]) (by simp)
      have hlm : (lb.map (thr la)).length = lb.length := List.length_map _
      have hl1 : (throughP la lb).1.length = lb.length := by rw [e]; exact hlm
      rw [hl1]
      exact ⟨I1, a, c, by rw [e]; rfl, hE1, by rw [e]; exact hd1⟩

end Go.Proofs.Ythningkgpanaoaa

