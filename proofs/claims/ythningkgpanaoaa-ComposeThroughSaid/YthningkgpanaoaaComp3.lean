/- compose.fold, All, inlayref09.All: what they compute. Conditions: numbers within bounds. -/
import Derived.Test.YthningkgpanaoaaComp2
namespace Go.Proofs.Ythningkgpanaoaa
open Go Go.RowKit Go.Inl
set_option linter.unusedSimpArgs false
set_option linter.unusedVariables false
theorem composeP_zero {p q : PatL} (h : (composeP p q).2 ≠ 0) : (composeP p q).1 = PatL.zero := by
  unfold composeP at *
  repeat' split
  all_goals first | rfl | skip
  rename_i h1 h2 h3 h4 h5 h6
  simp only [h1, h2, h3, h4, h5, h6, if_false] at h
  exact absurd rfl h
theorem formP_zero {p : PatL} (h : (formP p).2 ≠ 0) : (formP p).1 = PatL.zero := by
  unfold formP at *
  split
  · rename_i h1
    rw [if_pos h1] at h
    by_cases h2 : (cheapP (symbolsP p).1 p.in_).2 = 0
    · simp [h2] at h
    · simp only [h2, if_false]
      exact cheap_zero h2
  · rfl
structure FoldS where
  k : Nat
  out : PatL
  a : Option Addr
  m : Nat
  c : Nat
structure FoldR where
  k : Nat
  out : PatL
  e : Int
  a : Option Addr
  m : Nat
  c : Nat
theorem foldC_cons (out p : PatL) (r : List PatL) : foldC out (p :: r) = if (composeP out p).2 ≠ 0 then composeP out p else foldC (composeP out p).1 r := rfl
theorem allP_cons (p : PatL) (r : List PatL) : allP (p :: r) = if (formP p).2 ≠ 0 then (PatL.zero, (formP p).2) else foldC (formP p).1 r := rfl
theorem form_F (p : PatL) (ad : Option Addr) (m cap : Nat) (F : PatL × Int) (w0 : World) (I0 : Imm) (hI : Sat I0 w0) (hops : ROps I0 (.slice ad m cap) p.ops) (hp : p.wf) (he : formP p = F) :
    Ctr Try.prog 23 [.agg #[.bool p.lifted, .int .i64 p.in_, .int .i64 p.out, .slice ad m cap]] w0 (fun v w' => ∃ I' a m c, v = .tuple #[.agg #[.bool F.1.lifted, .int .i64 F.1.in_, .int .i64 F.1.out, .slice a m c], .int .i64 F.2] ∧ Ext w0 I0 w' I' ∧ ROps I' (.slice a m c) F.1.ops) := by
  subst he; exact form_c p ad m cap w0 I0 hI hops hp
theorem refForm_F (p : PatL) (ad : Option Addr) (m cap : Nat) (F : PatL × Int) (w0 : World) (I0 : Imm) (hI : Sat I0 w0) (hops : ROps I0 (.slice ad m cap) p.ops) (hp : p.wf) (he : formP p = F) :
    Ctr Try.prog 47 [.agg #[.bool p.lifted, .int .i64 p.in_, .int .i64 p.out, .slice ad m cap]] w0 (fun v w' => ∃ I' a m c, v = .tuple #[.agg #[.bool F.1.lifted, .int .i64 F.1.in_, .int .i64 F.1.out, .slice a m c], .int .i64 F.2] ∧ Ext w0 I0 w' I' ∧ ROps I' (.slice a m c) F.1.ops) := by
  subst he; exact refForm_c p ad m cap w0 I0 hI hops hp
theorem RPats.slL {I : Imm} {ad : Option Addr} {len cap : Nat} {xs : List PatL} (hr : RPats I (.slice ad len cap) xs) (l : Nat) (hl : l ≤ xs.length) : RPats I (.slice (if cap = l then ad else ad.map (·.add (l * 4))) (len - l) (cap - l)) (xs.drop l) := RSl.slL hr l hl

theorem all1_c (out p : PatL) (b : Nat) (ao ad : Option Addr) (mo co m cap : Nat) (w0 : World) (I0 : Imm) (hI : Sat I0 w0) (hb : w0.heap[b]? = some (.cells ([.bool out.lifted, .int .i64 out.in_, .int .i64 out.out, .slice ao mo co] : List Value).toArray 31 (0, 0))) (hn : I0 b = none) (hout : ROps I0 (.slice ao mo co) out.ops) (how : out.wf) (hops : ROps I0 (.slice ad m cap) p.ops) (hp : p.wf) :
    Ctr Try.prog 46 [.agg #[.bool p.lifted, .int .i64 p.in_, .int .i64 p.out, .slice ad m cap], .pointer (some ⟨b, 0, none⟩)] w0 (fun v w' => ∃ I' a m c, v = .int .i64 (composeP out p).2 ∧ St [b] w0 I0 I' w' [.cel b 31 [.bool (composeP out p).1.lifted, .int .i64 (composeP out p).1.in_, .int .i64 (composeP out p).1.out, .slice a m c]] ∧ ROps I' (.slice a m c) (composeP out p).1.ops) := by
  refine fn (n := 14) Try.func46 rfl rfl rfl ?_
  have hS := St.startX hI hb hn
  refine wp_seq ?_
  refine reg ?_
  refine qe (d_box (cs := [.bool _, .int .i64 _, .int .i64 _, .slice _ _ _]) hS rfl) ?_
  clear hS
  rintro _ w_1 ⟨b2, rfl, hS⟩
  refine qq hS (g_assignv (v := .int .i64 _) rfl) ?_
  refine ol_nil (thenN ?_)
  refine wp_seq ?_
  refine reg ?_
  refine qq hS (g_ldO 1 (vs := [.bool _, .int .i64 _, .int .i64 _, .slice _ _ _]) Try.sizeOf31 Try.isAgg31 rfl rfl rfl rfl) ?_
  refine qq hS (g_ldO 0 (vs := [.bool _, .int .i64 _, .int .i64 _, .slice _ _ _]) Try.sizeOf31 Try.isAgg31 rfl rfl rfl rfl) ?_
  refine qe (d_call Try.call17 rfl (compose_c out p ao ad mo co m cap _ _ hS.imm hout how hops hp)) ?_
  rintro _ w_2 ⟨I_f, a9, m9, c9, rfl, hE, h9⟩
  replace hS := hS.callE hE
  replace hops := hops.mono hE.ext
  replace hout := hout.mono hE.ext
  refine qq hS (g_move _) ?_
  refine qq hS (g_extract rfl rfl) ?_
  refine qq hS (g_extract (v := .int .i64 _) rfl rfl) ?_
  refine qe (d_alloc (cs := [.bool _, .int .i64 _, .int .i64 _, .slice _ _ _]) hS Try.zeroValue31 rfl) ?_
  clear hS
  rintro _ w_3 ⟨b4, rfl, hS⟩
  refine qe (d_store 0 hS Try.sizeOf31 rfl rfl rfl (vs := [.bool _, .int .i64 _, .int .i64 _, .slice _ _ _]) rfl rfl rfl (Nat.le_of_ble_eq_true rfl) (cs' := [_, _, _, _]) rfl) ?_
  clear hS
  rintro _ w_4 ⟨rfl, hS⟩
  refine qq hS (g_assignv (v := .int .i64 _) rfl) ?_
  refine ol_nil (thenN ?_)
  refine wp_seq ?_
  refine reg ?_
  refine qq hS (g_ldO 0 (vs := [.bool _, .int .i64 _, .int .i64 _, .slice _ _ _]) Try.sizeOf31 Try.isAgg31 rfl rfl rfl rfl) ?_
  refine qe (d_store 2 hS Try.sizeOf31 rfl rfl rfl (vs := [.bool _, .int .i64 _, .int .i64 _, .slice _ _ _]) rfl rfl rfl (Nat.le_of_ble_eq_true rfl) (cs' := [_, _, _, _]) rfl) ?_
  clear hS
  rintro _ w_5 ⟨rfl, hS⟩
  refine ol_nil (thenN ?_)
  refine wp_seq ?_
  refine reg ?_
  refine qq hS (g_movev (v := .int .i64 _) rfl) ?_
  refine qq hS (g_assignv (v := .int .i64 _) rfl) ?_
  refine ol_nil (thenN ?_)
  refine wp_ret ?_
  refine ret1 Try.results46 (rv_tmp (v := .int .i64 _) rfl) ?_
  exact ⟨_, a9, m9, c9, rfl, hS.sel [false, false, true], h9⟩

set_option maxHeartbeats 1000000 in
theorem fold_c (out : PatL) (b : Nat) (ao ad : Option Addr) (mo co m cap : Nat) (l : List PatL) (w0 : World) (I0 : Imm) (hI : Sat I0 w0) (hb : w0.heap[b]? = some (.cells ([.bool out.lifted, .int .i64 out.in_, .int .i64 out.out, .slice ao mo co] : List Value).toArray 31 (0, 0))) (hn : I0 b = none) (hout : ROps I0 (.slice ao mo co) out.ops) (how : out.wf) (hl : RPats I0 (.slice ad m cap) l) (hm : m = l.length) (hw : ∀ p ∈ l, p.wf) (hnl : l.length ≤ 65536) :
    Ctr Try.prog 45 [.func (.func 46) #[] #[.pointer (some ⟨b, 0, none⟩)], .slice ad m cap] w0 (fun v w' => ∃ I' a m c, v = .int .i64 (foldC out l).2 ∧ St [b] w0 I0 I' w' [.cel b 31 [.bool (foldC out l).1.lifted, .int .i64 (foldC out l).1.in_, .int .i64 (foldC out l).1.out, .slice a m c]] ∧ ROps I' (.slice a m c) (foldC out l).1.ops) := by
  subst hm
  refine fn (n := 21) Try.func45 rfl rfl rfl ?_
  have hS := St.startX hI hb hn
  refine wp_seq ?_
  refine reg ?_
  refine qq hS (g_assignv (v := .int .i64 _) rfl) ?_
  refine ol_nil (thenN ?_)
  refine wp_seq ?_
  refine wp_seq ?_
  refine reg ?_
  refine qq hS (g_move _) ?_
  refine qq hS (g_lenI rfl Try.underlying27 hl rfl) ?_
  refine qq hS (g_movev (v := .int .i64 _) rfl) ?_
  refine ol_nil (thenN ?_)
  refine wp_block ?_
  refine loop (fun (x : FoldS) σ w => okS σ [(0, .func (.func 46) #[] #[.pointer (some ⟨b, 0, none⟩)]), (8, .slice ad l.length cap), (9, .int .i64 l.length), (10, .int .i64 x.k)] ∧ ∃ I, St [b] w0 I0 I w [.cel b 31 [.bool x.out.lifted, .int .i64 x.out.in_, .int .i64 x.out.out, .slice x.a x.m x.c]] ∧ x.k ≤ l.length ∧ foldC x.out (l.drop x.k) = foldC out l ∧ ROps I (.slice x.a x.m x.c) x.out.ops ∧ x.out.wf) (fun x => l.length - x.k) (⟨0, out, ao, mo, co⟩) ?_ ?_
  ·
    exact ⟨⟨rfl, rfl, rfl, rfl, trivial⟩, _, hS.sel [true], by simp, by simp, hout, how⟩
  ·
    rintro ⟨k, xo, a, m, c⟩ σ w_l ⟨hs, I, hS, hk0, hgo, ho, how'⟩
    dsimp only at hs hS hk0 hgo ho how' ⊢
    rw [← upds_self hs]; clear hs
    refine wp_seq ?_
    refine reg ?_
    refine qq hS (g_lss rfl rfl) ?_
    refine ol_nil (thenN ?_)
    refine wp_seq ?_
    refine cond_s rfl ?_ ?_
    ·
      intro hc11
      try simp only [Bool.and_eq_true, Bool.or_eq_true, Bool.not_eq_true', Bool.and_eq_false_imp, Bool.or_eq_false_iff, Bool.not_eq_false', decide_eq_true_eq, decide_eq_false_iff_not] at hc11
      obtain ⟨p, hpi⟩ : ∃ p, l[k]? = some p := ⟨_, List.getElem?_eq_getElem (by omega)⟩
      obtain ⟨cs, hcl, hpA, hpc⟩ := RSl.at (hl.mono hS.ext) hpi
      obtain ⟨adp, mq, cq, rfl, hpo⟩ := hpc
      have hpw := hw p (List.mem_of_getElem? hpi)
      rw [drop_cons hpi, foldC_cons] at hgo
      refine wp_skip ?_
      refine thenN ?_
      refine wp_seq ?_
      refine wp_block ?_
      refine wp_seq ?_
      refine reg ?_
      refine qq hS (g_ixI Try.underlying27 Try.sizeOf31 hl rfl rfl (by omega) (by omega)) ?_
      refine qq hS (g_ldE (us := [.bool _, .int .i64 _, .int .i64 _, .slice _ _ _]) Try.sizeOf31 Try.isAgg31 hpA rfl rfl rfl) ?_
      refine qe (d_alloc (cs := [.bool _, .int .i64 _, .int .i64 _, .slice _ _ _]) hS Try.zeroValue31 rfl) ?_
      clear hS
      rintro _ w_1 ⟨b6, rfl, hS⟩
      refine qe (d_store 0 hS Try.sizeOf31 rfl rfl rfl (vs := [.bool _, .int .i64 _, .int .i64 _, .slice _ _ _]) rfl rfl rfl (Nat.le_of_ble_eq_true rfl) (cs' := [_, _, _, _]) rfl) ?_
      clear hS
      rintro _ w_2 ⟨rfl, hS⟩
      refine ol_nil (thenN ?_)
      refine wp_seq ?_
      refine reg ?_
      refine qq hS (g_move _) ?_
      refine qq hS (g_ldO 0 (vs := [.bool _, .int .i64 _, .int .i64 _, .slice _ _ _]) Try.sizeOf31 Try.isAgg31 rfl rfl rfl rfl) ?_
      refine qe (d_callv Try.call46 rfl rfl (all1_c xo p b a adp m c mq cq _ _ hS.imm (own_heap (k := 1) hS rfl) (own_none (k := 1) hS rfl) ho how' hpo hpw)) ?_
      rintro _ w_3 ⟨I2, a2, m2, c2, rfl, hE, h2⟩
      replace hS := hS.callXI (k := 1) rfl hE
      refine qq hS (g_assignv (v := .int .i64 _) rfl) ?_
      refine ol_nil (thenN ?_)
      refine wp_seq ?_
      refine reg ?_
      refine qq hS (g_movev (v := .int .i64 _) rfl) ?_
      refine qq hS (g_neq rfl rfl) ?_
      refine ol_nil (thenN ?_)
      refine cond_s rfl ?_ ?_
      ·
        intro hc18
        try simp only [Bool.and_eq_true, Bool.or_eq_true, Bool.not_eq_true', Bool.and_eq_false_imp, Bool.or_eq_false_iff, Bool.not_eq_false', decide_eq_true_eq, decide_eq_false_iff_not] at hc18
        rw [if_pos hc18] at hgo
        refine wp_seq ?_
        refine reg ?_
        refine qq hS (g_movev (v := .int .i64 _) rfl) ?_
        refine qq hS (g_assignv (v := .int .i64 _) rfl) ?_
        refine ol_nil (thenN ?_)
        refine wp_ret ?_
        refine blkR (thenR (thenR (blkR (thenR ?_))))
        refine ret1 Try.results45 (rv_tmp (v := .int .i64 _) rfl) ?_
        rw [← hgo]; exact ⟨_, a2, m2, c2, rfl, hS.sel [false, true], h2⟩
      ·
        intro hc18
        try simp only [Bool.and_eq_true, Bool.or_eq_true, Bool.not_eq_true', Bool.and_eq_false_imp, Bool.or_eq_false_iff, Bool.not_eq_false', decide_eq_true_eq, decide_eq_false_iff_not] at hc18
        rw [if_neg (by rw [hc18]; decide)] at hgo
        refine wp_skip ?_
        refine blkN (thenN ?_)
        refine reg ?_
        refine qq hS (g_add rfl rfl (by omega) (by omega)) ?_
        refine qq hS (g_movev (v := .int .i64 _) rfl) ?_
        refine ol_nil (thenN ?_)
        exact ⟨⟨k + 1, (composeP xo p).1, a2, m2, c2⟩, _, rfl, ⟨⟨rfl, rfl, rfl, rfl, trivial⟩, _, hS.sel [false, true], by dsimp only; omega, hgo, h2, composeP_wf how' hpw⟩, by dsimp only; omega⟩
    ·
      intro hc11
      try simp only [Bool.and_eq_true, Bool.or_eq_true, Bool.not_eq_true', Bool.and_eq_false_imp, Bool.or_eq_false_iff, Bool.not_eq_false', decide_eq_true_eq, decide_eq_false_iff_not] at hc11
      rw [List.drop_of_length_le (by omega)] at hgo
      refine wp_exit ?_
      refine thenE (thenE (blkE ?_))
      refine thenN ?_
      refine wp_seq ?_
      refine reg ?_
      refine qq hS (g_assignv (v := .int .i64 _) rfl) ?_
      refine ol_nil (thenN ?_)
      refine wp_ret ?_
      refine ret1 Try.results45 (rv_tmp (v := .int .i64 _) rfl) ?_
      rw [← hgo]; exact ⟨_, a, m, c, rfl, hS.sel [true], ho⟩

set_option maxHeartbeats 1000000 in
theorem all_c (ad : Option Addr) (cap : Nat) (l : List PatL) (w0 : World) (I0 : Imm) (hI : Sat I0 w0) (hl : RPats I0 (.slice ad l.length cap) l) (hw : ∀ p ∈ l, p.wf) (hn : l.length ≤ 65536) :
    Ctr Try.prog 14 [.slice ad l.length cap] w0 (fun v w' => ∃ I' a m c, v = .tuple #[.agg #[.bool (allP l).1.lifted, .int .i64 (allP l).1.in_, .int .i64 (allP l).1.out, .slice a m c], .int .i64 (allP l).2] ∧ Ext w0 I0 w' I' ∧ ROps I' (.slice a m c) (allP l).1.ops) := by
  refine fn (n := 27) Try.func14 rfl rfl rfl ?_
  have hS := St.start hI
  refine wp_seq ?_
  refine reg ?_
  refine qe (d_alloc (cs := [.bool _, .int .i64 _, .int .i64 _, .slice _ _ _]) hS Try.zeroValue31 rfl) ?_
  clear hS
  rintro _ w_1 ⟨b2, rfl, hS⟩
  refine qq hS (g_assignv (v := .int .i64 _) rfl) ?_
  refine ol_nil (thenN ?_)
  refine wp_seq ?_
  refine wp_seq ?_
  refine reg ?_
  refine qq hS (g_move _) ?_
  refine qq hS (g_lenI rfl Try.underlying27 hl rfl) ?_
  refine qq hS (g_eql rfl rfl) ?_
  refine ol_nil (thenN ?_)
  refine cond_s rfl ?_ ?_
  ·
    intro hc8
    try simp only [Bool.and_eq_true, Bool.or_eq_true, Bool.not_eq_true', Bool.and_eq_false_imp, Bool.or_eq_false_iff, Bool.not_eq_false', decide_eq_true_eq, decide_eq_false_iff_not] at hc8
    have hnil : l = [] := List.length_eq_zero_iff.1 (by omega)
    have e : allP l = (PatL.zero, 1) := by rw [hnil]; rfl
    refine wp_seq ?_
    refine reg ?_
    refine qq hS (g_buildv (pl := [(0, 1), (1, 1), (2, 1), (3, 1)]) (cs := [.bool _, .int .i64 _, .int .i64 _, .slice _ _ _]) Try.zeroValue31 Try.underlying31 (fun w => by simp [Try.sizeOf29, Try.sizeOf3, Try.sizeOf4]) mp0 rfl) ?_
    refine qe (d_store 0 hS Try.sizeOf31 rfl rfl rfl (vs := [.bool _, .int .i64 _, .int .i64 _, .slice _ _ _]) rfl rfl rfl (Nat.le_of_ble_eq_true rfl) (cs' := [_, _, _, _]) rfl) ?_
    clear hS
    rintro _ w_2 ⟨rfl, hS⟩
    refine qq hS (g_assignv (v := .int .i64 _) rfl) ?_
    refine ol_nil (thenN ?_)
    refine wp_ret ?_
    refine thenR ?_
    refine ret2 Try.results14 (rv_cel 0 hS Try.sizeOf31 Try.isAgg31 rfl rfl rfl) (rv_tmp (v := .int .i64 _) rfl) ?_
    rw [e]; exact ⟨_, none, 0, 0, rfl, hS.nil, RSl.nilR⟩
  ·
    intro hc8
    try simp only [Bool.and_eq_true, Bool.or_eq_true, Bool.not_eq_true', Bool.and_eq_false_imp, Bool.or_eq_false_iff, Bool.not_eq_false', decide_eq_true_eq, decide_eq_false_iff_not] at hc8
    obtain ⟨p, hpi⟩ : ∃ p, l[0]? = some p := ⟨_, List.getElem?_eq_getElem (by omega)⟩
    obtain ⟨cs, hcl, hpA, hpc⟩ := RSl.at hl hpi
    obtain ⟨adp, mq, cq, rfl, hpo⟩ := hpc
    have hpw := hw p (List.mem_of_getElem? hpi)
    have hlc : l = p :: l.drop 1 := by have := drop_cons hpi; rwa [List.drop_zero] at this
    have hdef : allP l = if (formP p).2 ≠ 0 then (PatL.zero, (formP p).2) else foldC (formP p).1 (l.drop 1) := by conv => lhs; rw [hlc, allP_cons]
    have hFw := formP_wf hpw
    have hFz := formP_zero (p := p)
    obtain ⟨F, hF⟩ : ∃ F, formP p = F := ⟨_, rfl⟩
    rw [hF] at hdef hFw hFz
    refine wp_skip ?_
    refine thenN ?_
    refine wp_seq ?_
    refine reg ?_
    refine qq hS (g_move _) ?_
    refine qq hS (g_ixI Try.underlying27 Try.sizeOf31 hl rfl rfl (by decide) (by omega)) ?_
    refine qq hS (g_ldE (us := [.bool _, .int .i64 _, .int .i64 _, .slice _ _ _]) Try.sizeOf31 Try.isAgg31 hpA rfl rfl rfl) ?_
    refine qe (d_call Try.call23 rfl (form_F p adp mq cq F _ _ hS.imm hpo hpw hF)) ?_
    rintro _ w_3 ⟨I_f, a14, m14, c14, rfl, hE, h14⟩
    replace hS := hS.callE hE
    replace hl := hl.mono hE.ext
    refine qq hS (g_move _) ?_
    refine qq hS (g_extract rfl rfl) ?_
    refine qq hS (g_extract (v := .int .i64 _) rfl rfl) ?_
    refine qe (d_alloc (cs := [.bool _, .int .i64 _, .int .i64 _, .slice _ _ _]) hS Try.zeroValue31 rfl) ?_
    clear hS
    rintro _ w_4 ⟨b4, rfl, hS⟩
    refine qe (d_store 0 hS Try.sizeOf31 rfl rfl rfl (vs := [.bool _, .int .i64 _, .int .i64 _, .slice _ _ _]) rfl rfl rfl (Nat.le_of_ble_eq_true rfl) (cs' := [_, _, _, _]) rfl) ?_
    clear hS
    rintro _ w_5 ⟨rfl, hS⟩
    refine qq hS (g_assignv (v := .int .i64 _) rfl) ?_
    refine ol_nil (thenN ?_)
    refine wp_seq ?_
    refine wp_seq ?_
    refine reg ?_
    refine qq hS (g_movev (v := .int .i64 _) rfl) ?_
    refine qq hS (g_neq rfl rfl) ?_
    refine ol_nil (thenN ?_)
    refine cond_s rfl ?_ ?_
    ·
      intro hc18
      try simp only [Bool.and_eq_true, Bool.or_eq_true, Bool.not_eq_true', Bool.and_eq_false_imp, Bool.or_eq_false_iff, Bool.not_eq_false', decide_eq_true_eq, decide_eq_false_iff_not] at hc18
      rw [if_pos hc18] at hdef
      refine wp_seq ?_
      refine reg ?_
      refine qq hS (g_buildv (pl := [(0, 1), (1, 1), (2, 1), (3, 1)]) (cs := [.bool _, .int .i64 _, .int .i64 _, .slice _ _ _]) Try.zeroValue31 Try.underlying31 (fun w => by simp [Try.sizeOf29, Try.sizeOf3, Try.sizeOf4]) mp0 rfl) ?_
      refine qq hS (g_movev (v := .int .i64 _) rfl) ?_
      refine qe (d_store 1 hS Try.sizeOf31 rfl rfl rfl (vs := [.bool _, .int .i64 _, .int .i64 _, .slice _ _ _]) rfl rfl rfl (Nat.le_of_ble_eq_true rfl) (cs' := [_, _, _, _]) rfl) ?_
      clear hS
      rintro _ w_6 ⟨rfl, hS⟩
      refine qq hS (g_assignv (v := .int .i64 _) rfl) ?_
      refine ol_nil (thenN ?_)
      refine wp_ret ?_
      refine thenR ?_
      refine ret2 Try.results14 (rv_cel 1 hS Try.sizeOf31 Try.isAgg31 rfl rfl rfl) (rv_tmp (v := .int .i64 _) rfl) ?_
      rw [hdef]; exact ⟨_, none, 0, 0, rfl, hS.nil, RSl.nilR⟩
    ·
      intro hc18
      try simp only [Bool.and_eq_true, Bool.or_eq_true, Bool.not_eq_true', Bool.and_eq_false_imp, Bool.or_eq_false_iff, Bool.not_eq_false', decide_eq_true_eq, decide_eq_false_iff_not] at hc18
      rw [if_neg (by rw [hc18]; decide)] at hdef
      refine wp_skip ?_
      refine thenN ?_
      refine wp_seq ?_
      refine reg ?_
      refine qq hS (g_makeFuncL ml0 (ml rfl ml0)) ?_
      refine qq hS (g_move _) ?_
      refine qq hS (g_sliceLN (l0 := 1) Try.underlying27 Try.sizeOf31 rfl rfl (by decide) (by omega) rfl) ?_
      refine qe (d_call Try.call45 rfl (fold_c F.1 b4 a14 _ m14 c14 _ _ (l.drop 1) _ _ hS.imm (own_heap (k := 0) hS rfl) (own_none (k := 0) hS rfl) h14 hFw (hl.slL 1 (by omega)) (by rw [List.length_drop]) (fun p hp => hw p (List.mem_of_mem_drop hp)) (by rw [List.length_drop]; omega))) ?_
      rintro _ w_7 ⟨I2, a24, m24, c24, rfl, hE, h24⟩
      replace hS := hS.callXI (k := 0) rfl hE
      refine qq hS (g_assignv (v := .int .i64 _) rfl) ?_
      refine ol_nil (thenN ?_)
      refine wp_seq ?_
      refine reg ?_
      refine qq hS (g_ldO 0 (vs := [.bool _, .int .i64 _, .int .i64 _, .slice _ _ _]) Try.sizeOf31 Try.isAgg31 rfl rfl rfl rfl) ?_
      refine qq hS (g_movev (v := .int .i64 _) rfl) ?_
      refine qe (d_store 1 hS Try.sizeOf31 rfl rfl rfl (vs := [.bool _, .int .i64 _, .int .i64 _, .slice _ _ _]) rfl rfl rfl (Nat.le_of_ble_eq_true rfl) (cs' := [_, _, _, _]) rfl) ?_
      clear hS
      rintro _ w_8 ⟨rfl, hS⟩
      refine qq hS (g_assignv (v := .int .i64 _) rfl) ?_
      refine ol_nil (thenN ?_)
      refine wp_ret ?_
      refine ret2 Try.results14 (rv_cel 1 hS Try.sizeOf31 Try.isAgg31 rfl rfl rfl) (rv_tmp (v := .int .i64 _) rfl) ?_
      rw [hdef]; exact ⟨_, a24, m24, c24, rfl, hS.nil, h24⟩

set_option maxHeartbeats 1000000 in
theorem refAll_c (ad : Option Addr) (cap : Nat) (l : List PatL) (w0 : World) (I0 : Imm) (hI : Sat I0 w0) (hl : RPats I0 (.slice ad l.length cap) l) (hw : ∀ p ∈ l, p.wf) (hn : l.length ≤ 65536) :
    Ctr Try.prog 15 [.slice ad l.length cap] w0 (fun v w' => ∃ I' a m c, v = .tuple #[.agg #[.bool (allP l).1.lifted, .int .i64 (allP l).1.in_, .int .i64 (allP l).1.out, .slice a m c], .int .i64 (allP l).2] ∧ Ext w0 I0 w' I' ∧ ROps I' (.slice a m c) (allP l).1.ops) := by
  have hl0 := hl
  refine fn (n := 39) Try.func15 rfl rfl rfl ?_
  have hS := St.start hI
  refine wp_seq ?_
  refine reg ?_
  refine qe (d_alloc (cs := [.bool _, .int .i64 _, .int .i64 _, .slice _ _ _]) hS Try.zeroValue31 rfl) ?_
  clear hS
  rintro _ w_1 ⟨b2, rfl, hS⟩
  refine qq hS (g_assignv (v := .int .i64 _) rfl) ?_
  refine ol_nil (thenN ?_)
  refine wp_seq ?_
  refine wp_seq ?_
  refine reg ?_
  refine qq hS (g_move _) ?_
  refine qq hS (g_lenI rfl Try.underlying27 hl rfl) ?_
  refine qq hS (g_eql rfl rfl) ?_
  refine ol_nil (thenN ?_)
  refine cond_s rfl ?_ ?_
  ·
    intro hc9
    try simp only [Bool.and_eq_true, Bool.or_eq_true, Bool.not_eq_true', Bool.and_eq_false_imp, Bool.or_eq_false_iff, Bool.not_eq_false', decide_eq_true_eq, decide_eq_false_iff_not] at hc9
    have hnil : l = [] := List.length_eq_zero_iff.1 (by omega)
    have e : allP l = (PatL.zero, 1) := by rw [hnil]; rfl
    refine wp_seq ?_
    refine reg ?_
    refine qq hS (g_buildv (pl := [(0, 1), (1, 1), (2, 1), (3, 1)]) (cs := [.bool _, .int .i64 _, .int .i64 _, .slice _ _ _]) Try.zeroValue31 Try.underlying31 (fun w => by simp [Try.sizeOf29, Try.sizeOf3, Try.sizeOf4]) mp0 rfl) ?_
    refine qe (d_store 0 hS Try.sizeOf31 rfl rfl rfl (vs := [.bool _, .int .i64 _, .int .i64 _, .slice _ _ _]) rfl rfl rfl (Nat.le_of_ble_eq_true rfl) (cs' := [_, _, _, _]) rfl) ?_
    clear hS
    rintro _ w_2 ⟨rfl, hS⟩
    refine qq hS (g_assignv (v := .int .i64 _) rfl) ?_
    refine ol_nil (thenN ?_)
    refine wp_ret ?_
    refine thenR ?_
    refine ret2 Try.results15 (rv_cel 0 hS Try.sizeOf31 Try.isAgg31 rfl rfl rfl) (rv_tmp (v := .int .i64 _) rfl) ?_
    rw [e]; exact ⟨_, none, 0, 0, rfl, hS.nil, RSl.nilR⟩
  ·
    intro hc9
    try simp only [Bool.and_eq_true, Bool.or_eq_true, Bool.not_eq_true', Bool.and_eq_false_imp, Bool.or_eq_false_iff, Bool.not_eq_false', decide_eq_true_eq, decide_eq_false_iff_not] at hc9
    obtain ⟨p, hpi⟩ : ∃ p, l[0]? = some p := ⟨_, List.getElem?_eq_getElem (by omega)⟩
    obtain ⟨cs, hcl, hpA, hpc⟩ := RSl.at hl hpi
    obtain ⟨adp, mq, cq, rfl, hpo⟩ := hpc
    have hpw := hw p (List.mem_of_getElem? hpi)
    have hlc : l = p :: l.drop 1 := by have := drop_cons hpi; rwa [List.drop_zero] at this
    have hdef : allP l = if (formP p).2 ≠ 0 then (PatL.zero, (formP p).2) else foldC (formP p).1 (l.drop 1) := by conv => lhs; rw [hlc, allP_cons]
    have hFw := formP_wf hpw
    have hFz := formP_zero (p := p)
    obtain ⟨F, hF⟩ : ∃ F, formP p = F := ⟨_, rfl⟩
    rw [hF] at hdef hFw hFz
    refine wp_skip ?_
    refine thenN ?_
    refine wp_seq ?_
    refine reg ?_
    refine qq hS (g_move _) ?_
    refine qq hS (g_ixI Try.underlying27 Try.sizeOf31 hl rfl rfl (by decide) (by omega)) ?_
    refine qq hS (g_ldE (us := [.bool _, .int .i64 _, .int .i64 _, .slice _ _ _]) Try.sizeOf31 Try.isAgg31 hpA rfl rfl rfl) ?_
    refine qe (d_call Try.call47 rfl (refForm_F p adp mq cq F _ _ hS.imm hpo hpw hF)) ?_
    rintro _ w_3 ⟨I_f, a14, m14, c14, rfl, hE, h14⟩
    replace hS := hS.callE hE
    replace hl := hl.mono hE.ext
    refine qq hS (g_move _) ?_
    refine qq hS (g_extract rfl rfl) ?_
    refine qq hS (g_extract (v := .int .i64 _) rfl rfl) ?_
    refine qe (d_alloc (cs := [.bool _, .int .i64 _, .int .i64 _, .slice _ _ _]) hS Try.zeroValue31 rfl) ?_
    clear hS
    rintro _ w_4 ⟨b4, rfl, hS⟩
    refine qe (d_store 0 hS Try.sizeOf31 rfl rfl rfl (vs := [.bool _, .int .i64 _, .int .i64 _, .slice _ _ _]) rfl rfl rfl (Nat.le_of_ble_eq_true rfl) (cs' := [_, _, _, _]) rfl) ?_
    clear hS
    rintro _ w_5 ⟨rfl, hS⟩
    refine qq hS (g_assignv (v := .int .i64 _) rfl) ?_
    refine ol_nil (thenN ?_)
    refine wp_seq ?_
    refine wp_seq ?_
    refine reg ?_
    refine qq hS (g_assignv (v := .int .i64 _) rfl) ?_
    refine ol_nil (thenN ?_)
    refine wp_block ?_
    have hst : (F.2 ≠ 0 ∧ allP l = (PatL.zero, F.2) ∧ F.1 = PatL.zero) ∨ (F.2 = 0 ∧ allP l = foldC F.1 (l.drop 1)) := by
      by_cases h : F.2 = 0
      · rw [if_neg (by rw [h]; decide)] at hdef; exact .inr ⟨h, hdef⟩
      · rw [if_pos h] at hdef; exact .inl ⟨h, hdef, hFz h⟩
    refine loop (fun (x : FoldR) σ w => okS σ [(0, .slice ad l.length cap), (2, .pointer (some ⟨b2, 0, none⟩)), (4, .pointer (some ⟨b4, 0, none⟩)), (5, .int .i64 x.e), (6, .int .i64 x.k)] ∧ ∃ I, St [] w0 I0 I w [.cel b4 31 [.bool x.out.lifted, .int .i64 x.out.in_, .int .i64 x.out.out, .slice x.a x.m x.c], .cel b2 31 [.bool false, .int .i64 0, .int .i64 0, .slice none 0 0]] ∧ 1 ≤ x.k ∧ x.k ≤ l.length ∧ ROps I (.slice x.a x.m x.c) x.out.ops ∧ x.out.wf ∧ ((x.e ≠ 0 ∧ allP l = (PatL.zero, x.e) ∧ x.out = PatL.zero) ∨ (x.e = 0 ∧ allP l = foldC x.out (l.drop x.k)))) (fun x => l.length - x.k) (⟨1, F.1, F.2, a14, m14, c14⟩) ?_ ?_
    ·
      exact ⟨⟨rfl, rfl, rfl, rfl, rfl, trivial⟩, _, hS.sel [true, true], by dsimp only; omega, by dsimp only; omega, h14, hFw, hst⟩
    ·
      rintro ⟨k, xo, e, a, m, c⟩ σ w_l ⟨hs, I, hS, hk1, hk0, ho, how, hgo⟩
      dsimp only at hs hS hk1 hk0 ho how hgo ⊢
      rw [← upds_self hs]; clear hs
      have hl := hl0.mono hS.ext
      refine wp_seq ?_
      refine wp_seq ?_
      refine reg ?_
      refine qq hS (g_movev (v := .int .i64 _) rfl) ?_
      refine qq hS (g_move _) ?_
      refine qq hS (g_lenI rfl Try.underlying27 hl0 rfl) ?_
      refine qq hS (g_lss rfl rfl) ?_
      refine ol_nil (thenN ?_)
      refine cond_s rfl ?_ ?_
      ·
        intro hc21
        try simp only [Bool.and_eq_true, Bool.or_eq_true, Bool.not_eq_true', Bool.and_eq_false_imp, Bool.or_eq_false_iff, Bool.not_eq_false', decide_eq_true_eq, decide_eq_false_iff_not] at hc21
        obtain ⟨p, hpi⟩ : ∃ p, l[k]? = some p := ⟨_, List.getElem?_eq_getElem (by omega)⟩
        obtain ⟨cs, hcl, hpA, hpc⟩ := RSl.at hl hpi
        obtain ⟨adp, mq, cq, rfl, hpo⟩ := hpc
        have hpw := hw p (List.mem_of_getElem? hpi)
        refine wp_skip ?_
        refine thenN ?_
        refine wp_seq ?_
        refine wp_block ?_
        refine wp_seq ?_
        refine wp_seq ?_
        refine reg ?_
        refine qq hS (g_movev (v := .int .i64 _) rfl) ?_
        refine qq hS (g_neq rfl rfl) ?_
        refine ol_nil (thenN ?_)
        refine cond_s rfl ?_ ?_
        ·
          intro hc25
          try simp only [Bool.and_eq_true, Bool.or_eq_true, Bool.not_eq_true', Bool.and_eq_false_imp, Bool.or_eq_false_iff, Bool.not_eq_false', decide_eq_true_eq, decide_eq_false_iff_not] at hc25
          have e : allP l = (PatL.zero, e) := by
            rcases hgo with ⟨h1, h2, h3⟩ | ⟨h1, h2⟩
            · exact h2
            · exact absurd h1 hc25
          refine wp_seq ?_
          refine reg ?_
          refine qq hS (g_buildv (pl := [(0, 1), (1, 1), (2, 1), (3, 1)]) (cs := [.bool _, .int .i64 _, .int .i64 _, .slice _ _ _]) Try.zeroValue31 Try.underlying31 (fun w => by simp [Try.sizeOf29, Try.sizeOf3, Try.sizeOf4]) mp0 rfl) ?_
          refine qq hS (g_movev (v := .int .i64 _) rfl) ?_
          refine qe (d_store 1 hS Try.sizeOf31 rfl rfl rfl (vs := [.bool _, .int .i64 _, .int .i64 _, .slice _ _ _]) rfl rfl rfl (Nat.le_of_ble_eq_true rfl) (cs' := [_, _, _, _]) rfl) ?_
          clear hS
          rintro _ w_6 ⟨rfl, hS⟩
          refine qq hS (g_assignv (v := .int .i64 _) rfl) ?_
          refine ol_nil (thenN ?_)
          refine wp_ret ?_
          refine thenR (blkR (thenR (thenR (blkR (thenR ?_)))))
          refine ret2 Try.results15 (rv_cel 1 hS Try.sizeOf31 Try.isAgg31 rfl rfl rfl) (rv_tmp (v := .int .i64 _) rfl) ?_
          rw [e]; exact ⟨_, none, 0, 0, rfl, hS.nil, RSl.nilR⟩
        ·
          intro hc25
          try simp only [Bool.and_eq_true, Bool.or_eq_true, Bool.not_eq_true', Bool.and_eq_false_imp, Bool.or_eq_false_iff, Bool.not_eq_false', decide_eq_true_eq, decide_eq_false_iff_not] at hc25
          have hg : allP l = foldC xo (l.drop k) := by
            rcases hgo with ⟨h1, h2, h3⟩ | ⟨h1, h2⟩
            · exact absurd hc25 h1
            · exact h2
          rw [drop_cons hpi, foldC_cons] at hg
          have hnext : ((composeP xo p).2 ≠ 0 ∧ allP l = (PatL.zero, (composeP xo p).2) ∧ (composeP xo p).1 = PatL.zero) ∨ ((composeP xo p).2 = 0 ∧ allP l = foldC (composeP xo p).1 (l.drop (k + 1))) := by
            by_cases h : (composeP xo p).2 = 0
            · rw [if_neg (by rw [h]; decide)] at hg; exact .inr ⟨h, hg⟩
            · rw [if_pos h] at hg
              have hz := composeP_zero h
              refine .inl ⟨h, ?_, hz⟩
              rw [hg, ← hz]
          refine wp_skip ?_
          refine thenN ?_
          refine draw (.cons 0 .held (.cons 1 .pure (.cons 2 .pure (.cons 3 .pure (.cons 4 .held (.cons 5 .eff (.cons 6 .pure (.cons 7 .pure (.cons 8 .pure (.cons 9 .bar (.cons 10 .pure .nil))))))))))) mixed (by kernel_rfl) hS ?_
          intro w_7 hS
          refine sh rfl (g_ldO 0 (vs := [.bool _, .int .i64 _, .int .i64 _, .slice _ _ _]) Try.sizeOf31 Try.isAgg31 rfl rfl rfl rfl) ?_
          refine sp rfl (g_move _) ?_
          refine sp rfl (g_movev (v := .int .i64 _) rfl) ?_
          refine sp rfl (g_ixI Try.underlying27 Try.sizeOf31 hl0 rfl rfl (by omega) (by omega)) ?_
          refine sh rfl (g_ldE (us := [.bool _, .int .i64 _, .int .i64 _, .slice _ _ _]) Try.sizeOf31 Try.isAgg31 hpA rfl rfl rfl) ?_
          have hS0 := hS
          refine se rfl (d_call Try.call18 rfl (refCompose_c xo p a adp m c mq cq _ _ hS.imm ho how hpo hpw)) ?_
          rintro _ w_8 ⟨I_f, a34, m34, c34, rfl, hE, h34⟩
          replace hS := hS.call hE
          replace hl := hl.mono hE.ext
          replace ho := ho.mono hE.ext
          refine ⟨_, _, hS0.le hE.ext (List.Sublist.refl _), hS, ?_⟩
          refine sp rfl (g_move _) ?_
          refine sp rfl (g_extract rfl rfl) ?_
          refine sp rfl (g_extract (v := .int .i64 _) rfl rfl) ?_
          refine sb rfl (d_store 0 hS Try.sizeOf31 rfl rfl rfl (vs := [.bool _, .int .i64 _, .int .i64 _, .slice _ _ _]) rfl rfl rfl (Nat.le_of_ble_eq_true rfl) (cs' := [_, _, _, _]) rfl) ?_
          rintro _ w_9 ⟨rfl, hS⟩
          refine ⟨_, _, hS, ?_⟩
          refine sp rfl (g_assignv (v := .int .i64 _) rfl) ?_
          refine sn (blkN (thenN ?_))
          refine reg ?_
          refine qq hS (g_movev (v := .int .i64 _) rfl) ?_
          refine qq hS (g_add rfl rfl (by omega) (by omega)) ?_
          refine qq hS (g_assignv (v := .int .i64 _) rfl) ?_
          refine ol_nil (thenN ?_)
          exact ⟨⟨k + 1, (composeP xo p).1, (composeP xo p).2, a34, m34, c34⟩, _, rfl, ⟨⟨rfl, rfl, rfl, rfl, rfl, trivial⟩, _, hS.sel [true, true], by dsimp only; omega, by dsimp only; omega, h34, composeP_wf how hpw, hnext⟩, by dsimp only; omega⟩
      ·
        intro hc21
        try simp only [Bool.and_eq_true, Bool.or_eq_true, Bool.not_eq_true', Bool.and_eq_false_imp, Bool.or_eq_false_iff, Bool.not_eq_false', decide_eq_true_eq, decide_eq_false_iff_not] at hc21
        have hkl : k = l.length := by omega
        have e : allP l = (xo, e) := by
          rcases hgo with ⟨h1, h2, h3⟩ | ⟨h1, h2⟩
          · rw [h2, h3]
          · rw [h2, List.drop_of_length_le (by omega), h1]; rfl
        refine wp_exit ?_
        refine thenE (thenE (blkE ?_))
        refine thenN ?_
        refine wp_seq ?_
        refine reg ?_
        refine qq hS (g_ldO 0 (vs := [.bool _, .int .i64 _, .int .i64 _, .slice _ _ _]) Try.sizeOf31 Try.isAgg31 rfl rfl rfl rfl) ?_
        refine qq hS (g_movev (v := .int .i64 _) rfl) ?_
        refine qe (d_store 1 hS Try.sizeOf31 rfl rfl rfl (vs := [.bool _, .int .i64 _, .int .i64 _, .slice _ _ _]) rfl rfl rfl (Nat.le_of_ble_eq_true rfl) (cs' := [_, _, _, _]) rfl) ?_
        clear hS
        rintro _ w_10 ⟨rfl, hS⟩
        refine qq hS (g_assignv (v := .int .i64 _) rfl) ?_
        refine ol_nil (thenN ?_)
        refine wp_ret ?_
        refine ret2 Try.results15 (rv_cel 1 hS Try.sizeOf31 Try.isAgg31 rfl rfl rfl) (rv_tmp (v := .int .i64 _) rfl) ?_
        rw [e]; exact ⟨_, a, m, c, rfl, hS.nil, ho⟩

end Go.Proofs.Ythningkgpanaoaa

