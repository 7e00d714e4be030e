/- compose.Compose, fold, All, and those of inlayref09: what they compute. Conditions: numbers within bounds. -/
import Derived.Test.YthningkgpanaoaaComp
import Derived.Test.YthningkgpanaoaaRef8
namespace Go.Proofs.Ythningkgpanaoaa
open Go Go.RowKit Go.Inl
set_option linter.unusedSimpArgs false
set_option linter.unusedVariables false
theorem symbols_e (p : PatL) (ad : Option Addr) (m cap : Nat) (A : List Sym × Int) (w0 : World) (I0 : Imm) (hI : Sat I0 w0) (hops : ROps I0 (.slice ad m cap) p.ops) (hp : p.wf) (he : symbolsP p = A) :
    Ctr Try.prog 27 [.agg #[.bool p.lifted, .int .i64 p.in_, .int .i64 p.out, .slice ad m cap]] w0 (fun v w' => ∃ I' a c, v = .tuple #[.slice a A.1.length c, .int .i64 A.2] ∧ Ext w0 I0 w' I' ∧ RSyms I' (.slice a A.1.length c) A.1) := by
  subst he; exact symbols_c p ad m cap w0 I0 hI hops hp
theorem refSymbols_e (p : PatL) (ad : Option Addr) (m cap : Nat) (A : List Sym × Int) (w0 : World) (I0 : Imm) (hI : Sat I0 w0) (hops : ROps I0 (.slice ad m cap) p.ops) (hp : p.wf) (he : symbolsP p = A) :
    Ctr Try.prog 28 [.agg #[.bool p.lifted, .int .i64 p.in_, .int .i64 p.out, .slice ad m cap]] w0 (fun v w' => ∃ I' a c, v = .tuple #[.slice a A.1.length c, .int .i64 A.2] ∧ Ext w0 I0 w' I' ∧ RSyms I' (.slice a A.1.length c) A.1) := by
  subst he; exact symbolsR_p p ad m cap w0 I0 hI hops hp
theorem through_e (ad bd : Option Addr) (cap capb : Nat) (la lb : List Sym) (T : List Sym × Int) (w0 : World) (I0 : Imm) (hI : Sat I0 w0) (ha : RSyms I0 (.slice ad la.length cap) la) (hb : RSyms I0 (.slice bd lb.length capb) lb) (hwb : ∀ s ∈ lb, s.wf) (hn : lb.length ≤ 65536) (he : throughP la lb = T) :
    Ctr Try.prog 20 [.slice ad la.length cap, .slice bd lb.length capb] w0 (fun v w' => ∃ I' a c, v = .tuple #[.slice a T.1.length c, .int .i64 T.2] ∧ Ext w0 I0 w' I' ∧ RSyms I' (.slice a T.1.length c) T.1) := by
  subst he; exact through_c ad bd cap capb la lb w0 I0 hI ha hb hwb hn
theorem refThrough_e (ad bd : Option Addr) (cap capb : Nat) (la lb : List Sym) (T : List Sym × Int) (w0 : World) (I0 : Imm) (hI : Sat I0 w0) (ha : RSyms I0 (.slice ad la.length cap) la) (hb : RSyms I0 (.slice bd lb.length capb) lb) (hwb : ∀ s ∈ lb, s.wf) (hn : lb.length ≤ 65536) (he : throughP la lb = T) :
    Ctr Try.prog 21 [.slice ad la.length cap, .slice bd lb.length capb] w0 (fun v w' => ∃ I' a c, v = .tuple #[.slice a T.1.length c, .int .i64 T.2] ∧ Ext w0 I0 w' I' ∧ RSyms I' (.slice a T.1.length c) T.1) := by
  subst he; exact refThrough_c ad bd cap capb la lb w0 I0 hI ha hb hwb hn
theorem refCheap_e (ad : Option Addr) (m cap : Nat) (l : List Sym) (size : Int) (C : PatL × Int) (w0 : World) (I0 : Imm) (hI : Sat I0 w0) (hl : RSyms I0 (.slice ad m cap) l) (hm : m = l.length) (hw : ∀ s ∈ l, s.wf) (hs : Mid size) (he : cheapP l size = C) :
    Ctr Try.prog 50 [.slice ad m cap, .int .i64 size] w0 (fun v w' => ∃ I' a m c, v = .tuple #[.agg #[.bool C.1.lifted, .int .i64 C.1.in_, .int .i64 C.1.out, .slice a m c], .int .i64 C.2] ∧ Ext w0 I0 w' I' ∧ ROps I' (.slice a m c) C.1.ops) := by
  subst hm; subst he; exact refCheapest_c ad cap l size w0 I0 hI hl hw hs
theorem symbolsP_len (p : PatL) : (symbolsP p).1.length ≤ 65536 := by
  unfold symbolsP
  split
  · rename_i h
    obtain ⟨h1, h2, h3, h4, h5, h6, h7⟩ := checkP_ok h
    show (symsOf p.ops).length ≤ 65536
    omega
  · simp
theorem cheap_zero {l : List Sym} {n : Int} (h : (cheapP l n).2 ≠ 0) : (cheapP l n).1 = PatL.zero := by
  unfold cheapP at *
  split at h
  · rename_i h1; rw [if_pos h1]
  · split at h
    · rename_i h1 h2; rw [if_neg h1, if_pos h2]
    · simp at h
theorem symbolsP_60 (p : PatL) : (symbolsP p).2 = 60 ∨ (symbolsP p).2 = 0 := by
  unfold symbolsP
  split
  · exact .inr rfl
  · exact checkP_60 p
theorem symbolsP_ok' {p : PatL} (h : (symbolsP p).2 = 0) : (checkP p).2 = 0 ∧ symbolsP p = (symsOf p.ops, 0) := by
  by_cases hc : (checkP p).2 = 0
  · exact ⟨hc, symbolsP_ok hc⟩
  · unfold symbolsP at h; rw [if_neg hc] at h; exact absurd h hc

set_option maxHeartbeats 1000000 in
theorem compose_c (p q : PatL) (ad bd : Option Addr) (m cap mb capb : Nat) (w0 : World) (I0 : Imm) (hI : Sat I0 w0) (hops : ROps I0 (.slice ad m cap) p.ops) (hp : p.wf) (hoq : ROps I0 (.slice bd mb capb) q.ops) (hq : q.wf) :
    Ctr Try.prog 17 [.agg #[.bool p.lifted, .int .i64 p.in_, .int .i64 p.out, .slice ad m cap], .agg #[.bool q.lifted, .int .i64 q.in_, .int .i64 q.out, .slice bd mb capb]] w0 (fun v w' => ∃ I' a m c, v = .tuple #[.agg #[.bool (composeP p q).1.lifted, .int .i64 (composeP p q).1.in_, .int .i64 (composeP p q).1.out, .slice a m c], .int .i64 (composeP p q).2] ∧ Ext w0 I0 w' I' ∧ ROps I' (.slice a m c) (composeP p q).1.ops) := by
  have hwA := symsOf_wf hp
  have hwB := symsOf_wf hq
  have hlB := symbolsP_len q
  have hlA := symbolsP_len p
  have hABw := throughP_wf hwA hwB
  have hdef : composeP p q = composeP p q := rfl
  conv at hdef => rhs; unfold composeP
  obtain ⟨A, hA⟩ : ∃ A, symbolsP p = A := ⟨_, rfl⟩
  obtain ⟨B, hB⟩ : ∃ B, symbolsP q = B := ⟨_, rfl⟩
  rw [hA] at hdef hwA hABw hlA
  rw [hB] at hdef hwB hABw hlB
  obtain ⟨T, hT⟩ : ∃ T, throughP A.1 B.1 = T := ⟨_, rfl⟩
  rw [hT] at hdef hABw
  obtain ⟨C, hC⟩ : ∃ C, cheapP T.1 p.in_ = C := ⟨_, rfl⟩
  rw [hC] at hdef
  refine fn (n := 69) Try.func17 rfl rfl rfl ?_
  have hS := St.start hI
  refine wp_seq ?_
  refine reg ?_
  refine qe (d_box (cs := [.bool _, .int .i64 _, .int .i64 _, .slice _ _ _]) hS rfl) ?_
  clear hS
  rintro _ w_1 ⟨b2, rfl, hS⟩
  refine qe (d_box (cs := [.bool _, .int .i64 _, .int .i64 _, .slice _ _ _]) hS rfl) ?_
  clear hS
  rintro _ w_2 ⟨b3, rfl, hS⟩
  refine qe (d_alloc (cs := [.bool _, .int .i64 _, .int .i64 _, .slice _ _ _]) hS Try.zeroValue31 rfl) ?_
  clear hS
  rintro _ w_3 ⟨b4, rfl, hS⟩
  refine qq hS (g_assignv (v := .int .i64 _) rfl) ?_
  refine ol_nil (thenN ?_)
  refine wp_seq ?_
  refine reg ?_
  refine qq hS (g_ldO 2 (vs := [.bool _, .int .i64 _, .int .i64 _, .slice _ _ _]) Try.sizeOf31 Try.isAgg31 rfl rfl rfl rfl) ?_
  refine qe (d_call Try.call27 rfl (symbols_e p ad m cap A _ _ hS.imm hops hp hA)) ?_
  rintro _ w_4 ⟨I_f, a13, c13, rfl, hE, h13⟩
  replace hS := hS.callE hE
  replace hops := hops.mono hE.ext
  replace hoq := hoq.mono hE.ext
  refine qq hS (g_move _) ?_
  refine qq hS (g_extract rfl rfl) ?_
  refine qq hS (g_extract (v := .int .i64 _) rfl rfl) ?_
  refine qq hS (g_assign _) ?_
  refine qq hS (g_assignv (v := .int .i64 _) rfl) ?_
  refine ol_nil (thenN ?_)
  refine wp_seq ?_
  refine wp_seq ?_
  refine reg ?_
  refine qq hS (g_movev (v := .int .i64 _) rfl) ?_
  refine qq hS (g_neq rfl rfl) ?_
  refine ol_nil (thenN ?_)
  refine cond_s rfl ?_ ?_
  ·
    intro hc17
    try simp only [Bool.and_eq_true, Bool.or_eq_true, Bool.not_eq_true', Bool.and_eq_false_imp, Bool.or_eq_false_iff, Bool.not_eq_false', decide_eq_true_eq, decide_eq_false_iff_not] at hc17
    rw [if_pos hc17] at hdef
    refine wp_seq ?_
    refine reg ?_
    refine qq hS (g_buildv (pl := [(0, 1), (1, 1), (2, 1), (3, 1)]) (cs := [.bool _, .int .i64 _, .int .i64 _, .slice _ _ _]) Try.zeroValue31 Try.underlying31 (fun w => by simp [Try.sizeOf29, Try.sizeOf3, Try.sizeOf4]) mp0 rfl) ?_
    refine qq hS (g_movev (v := .int .i64 _) rfl) ?_
    refine qe (d_store 0 hS Try.sizeOf31 rfl rfl rfl (vs := [.bool _, .int .i64 _, .int .i64 _, .slice _ _ _]) rfl rfl rfl (Nat.le_of_ble_eq_true rfl) (cs' := [_, _, _, _]) rfl) ?_
    clear hS
    rintro _ w_5 ⟨rfl, hS⟩
    refine qq hS (g_assignv (v := .int .i64 _) rfl) ?_
    refine ol_nil (thenN ?_)
    refine wp_ret ?_
    refine thenR ?_
    rw [hdef]
    refine ret2 Try.results17 (rv_cel 0 hS Try.sizeOf31 Try.isAgg31 rfl rfl rfl) (rv_tmp (v := .int .i64 _) rfl) ?_
    exact ⟨_, none, 0, 0, rfl, hS.nil, RSl.nilR⟩
  ·
    intro hc17
    try simp only [Bool.and_eq_true, Bool.or_eq_true, Bool.not_eq_true', Bool.and_eq_false_imp, Bool.or_eq_false_iff, Bool.not_eq_false', decide_eq_true_eq, decide_eq_false_iff_not] at hc17
    rw [if_neg (by rw [hc17]; decide)] at hdef
    refine wp_skip ?_
    refine thenN ?_
    refine wp_seq ?_
    refine reg ?_
    refine qq hS (g_ldO 1 (vs := [.bool _, .int .i64 _, .int .i64 _, .slice _ _ _]) Try.sizeOf31 Try.isAgg31 rfl rfl rfl rfl) ?_
    refine qe (d_call Try.call27 rfl (symbols_e q bd mb capb B _ _ hS.imm hoq hq hB)) ?_
    rintro _ w_6 ⟨I_f, a22, c22, rfl, hE, h22⟩
    replace hS := hS.callE hE
    replace hops := hops.mono hE.ext
    replace hoq := hoq.mono hE.ext
    replace h13 := h13.mono hE.ext
    refine qq hS (g_move _) ?_
    refine qq hS (g_extract rfl rfl) ?_
    refine qq hS (g_extract (v := .int .i64 _) rfl rfl) ?_
    refine qq hS (g_assign _) ?_
    refine qq hS (g_assignv (v := .int .i64 _) rfl) ?_
    refine ol_nil (thenN ?_)
    refine wp_seq ?_
    refine wp_block ?_
    refine wp_seq ?_
    refine reg ?_
    refine qq hS (g_movev (v := .int .i64 _) rfl) ?_
    refine qq hS (g_neq rfl rfl) ?_
    refine qq hS (g_assignv (v := .bool _) rfl) ?_
    refine ol_nil (thenN ?_)
    refine cond_s rfl ?_ ?_
    ·
      intro hc25
      try simp only [Bool.and_eq_true, Bool.or_eq_true, Bool.not_eq_true', Bool.and_eq_false_imp, Bool.or_eq_false_iff, Bool.not_eq_false', decide_eq_true_eq, decide_eq_false_iff_not] at hc25
      rw [if_pos hc25] at hdef
      refine wp_seq ?_
      refine reg ?_
      refine qq hS (g_buildv (pl := [(0, 1), (1, 1), (2, 1), (3, 1)]) (cs := [.bool _, .int .i64 _, .int .i64 _, .slice _ _ _]) Try.zeroValue31 Try.underlying31 (fun w => by simp [Try.sizeOf29, Try.sizeOf3, Try.sizeOf4]) mp0 rfl) ?_
      refine qq hS (g_movev (v := .int .i64 _) rfl) ?_
      refine qe (d_store 0 hS Try.sizeOf31 rfl rfl rfl (vs := [.bool _, .int .i64 _, .int .i64 _, .slice _ _ _]) rfl rfl rfl (Nat.le_of_ble_eq_true rfl) (cs' := [_, _, _, _]) rfl) ?_
      clear hS
      rintro _ w_7 ⟨rfl, hS⟩
      refine qq hS (g_assignv (v := .int .i64 _) rfl) ?_
      refine ol_nil (thenN ?_)
      refine wp_ret ?_
      refine blkR (thenR ?_)
      rw [hdef]
      refine ret2 Try.results17 (rv_cel 0 hS Try.sizeOf31 Try.isAgg31 rfl rfl rfl) (rv_tmp (v := .int .i64 _) rfl) ?_
      exact ⟨_, none, 0, 0, rfl, hS.nil, RSl.nilR⟩
    ·
      intro hc25
      try simp only [Bool.and_eq_true, Bool.or_eq_true, Bool.not_eq_true', Bool.and_eq_false_imp, Bool.or_eq_false_iff, Bool.not_eq_false', decide_eq_true_eq, decide_eq_false_iff_not] at hc25
      rw [if_neg (by rw [hc25]; decide)] at hdef
      refine wp_seq ?_
      refine reg ?_
      refine qq hS (g_fieldAddr (o' := 0) Try.underlying31 rfl Try.sizeOf4 rfl rfl rfl) ?_
      refine qq hS (g_ldO1 2 Try.isAgg4 rfl rfl rfl) ?_
      refine qq hS (g_fieldAddr (o' := 0) Try.underlying31 rfl Try.sizeOf4 rfl rfl rfl) ?_
      refine qq hS (g_ldO1 1 Try.isAgg4 rfl rfl rfl) ?_
      refine qq hS (g_neqb Try.underlying4 rfl rfl) ?_
      refine qq hS (g_assignv (v := .bool _) rfl) ?_
      refine ol_nil (thenN ?_)
      refine cond_s rfl ?_ ?_
      ·
        intro hc30
        simp only [bne_iff_ne, ne_eq, bne_eq_false_iff_eq] at hc30
        rw [if_pos hc30] at hdef
        refine wp_seq ?_
        refine reg ?_
        refine qq hS (g_buildv (pl := [(0, 1), (1, 1), (2, 1), (3, 1)]) (cs := [.bool _, .int .i64 _, .int .i64 _, .slice _ _ _]) Try.zeroValue31 Try.underlying31 (fun w => by simp [Try.sizeOf29, Try.sizeOf3, Try.sizeOf4]) mp0 rfl) ?_
        refine qe (d_store 0 hS Try.sizeOf31 rfl rfl rfl (vs := [.bool _, .int .i64 _, .int .i64 _, .slice _ _ _]) rfl rfl rfl (Nat.le_of_ble_eq_true rfl) (cs' := [_, _, _, _]) rfl) ?_
        clear hS
        rintro _ w_8 ⟨rfl, hS⟩
        refine qq hS (g_assignv (v := .int .i64 _) rfl) ?_
        refine ol_nil (thenN ?_)
        refine wp_ret ?_
        refine blkR (thenR ?_)
        rw [hdef]
        refine ret2 Try.results17 (rv_cel 0 hS Try.sizeOf31 Try.isAgg31 rfl rfl rfl) (rv_tmp (v := .int .i64 _) rfl) ?_
        exact ⟨_, none, 0, 0, rfl, hS.nil, RSl.nilR⟩
      ·
        intro hc30
        simp only [bne_iff_ne, ne_eq, bne_eq_false_iff_eq] at hc30
        rw [if_neg (by rw [hc30]; simp)] at hdef
        refine wp_seq ?_
        refine reg ?_
        refine qq hS (g_fieldAddr (o' := 2) Try.underlying31 rfl Try.sizeOf3 rfl rfl rfl) ?_
        refine qq hS (g_ldO1 2 Try.isAgg3 rfl rfl rfl) ?_
        refine qq hS (g_fieldAddr (o' := 1) Try.underlying31 rfl Try.sizeOf3 rfl rfl rfl) ?_
        refine qq hS (g_ldO1 1 Try.isAgg3 rfl rfl rfl) ?_
        refine qq hS (g_neq rfl rfl) ?_
        refine qq hS (g_assignv (v := .bool _) rfl) ?_
        refine ol_nil (thenN ?_)
        refine cond_s rfl ?_ ?_
        ·
          intro hc37
          try simp only [Bool.and_eq_true, Bool.or_eq_true, Bool.not_eq_true', Bool.and_eq_false_imp, Bool.or_eq_false_iff, Bool.not_eq_false', decide_eq_true_eq, decide_eq_false_iff_not] at hc37
          rw [if_pos hc37] at hdef
          refine wp_seq ?_
          refine reg ?_
          refine qq hS (g_buildv (pl := [(0, 1), (1, 1), (2, 1), (3, 1)]) (cs := [.bool _, .int .i64 _, .int .i64 _, .slice _ _ _]) Try.zeroValue31 Try.underlying31 (fun w => by simp [Try.sizeOf29, Try.sizeOf3, Try.sizeOf4]) mp0 rfl) ?_
          refine qe (d_store 0 hS Try.sizeOf31 rfl rfl rfl (vs := [.bool _, .int .i64 _, .int .i64 _, .slice _ _ _]) rfl rfl rfl (Nat.le_of_ble_eq_true rfl) (cs' := [_, _, _, _]) rfl) ?_
          clear hS
          rintro _ w_9 ⟨rfl, hS⟩
          refine qq hS (g_assignv (v := .int .i64 _) rfl) ?_
          refine ol_nil (thenN ?_)
          refine wp_ret ?_
          refine blkR (thenR ?_)
          rw [hdef]
          refine ret2 Try.results17 (rv_cel 0 hS Try.sizeOf31 Try.isAgg31 rfl rfl rfl) (rv_tmp (v := .int .i64 _) rfl) ?_
          exact ⟨_, none, 0, 0, rfl, hS.nil, RSl.nilR⟩
        ·
          intro hc37
          try simp only [Bool.and_eq_true, Bool.or_eq_true, Bool.not_eq_true', Bool.and_eq_false_imp, Bool.or_eq_false_iff, Bool.not_eq_false', decide_eq_true_eq, decide_eq_false_iff_not] at hc37
          rw [if_neg (by omega)] at hdef
          refine wp_skip ?_
          refine blkN (thenN ?_)
          refine wp_seq ?_
          refine reg ?_
          refine qq hS (g_move _) ?_
          refine qq hS (g_move _) ?_
          refine qe (d_call Try.call20 rfl (through_e a13 a22 c13 c22 A.1 B.1 T _ _ hS.imm h13 h22 hwB hlB hT)) ?_
          rintro _ w_10 ⟨I_f, a47, c47, rfl, hE, h47⟩
          replace hS := hS.callE hE
          replace hops := hops.mono hE.ext
          replace hoq := hoq.mono hE.ext
          replace h13 := h13.mono hE.ext
          replace h22 := h22.mono hE.ext
          refine qq hS (g_move _) ?_
          refine qq hS (g_extract rfl rfl) ?_
          refine qq hS (g_extract (v := .int .i64 _) rfl rfl) ?_
          refine qq hS (g_assign _) ?_
          refine qq hS (g_assignv (v := .int .i64 _) rfl) ?_
          refine ol_nil (thenN ?_)
          refine wp_seq ?_
          refine wp_seq ?_
          refine reg ?_
          refine qq hS (g_movev (v := .int .i64 _) rfl) ?_
          refine qq hS (g_neq rfl rfl) ?_
          refine ol_nil (thenN ?_)
          refine cond_s rfl ?_ ?_
          ·
            intro hc51
            try simp only [Bool.and_eq_true, Bool.or_eq_true, Bool.not_eq_true', Bool.and_eq_false_imp, Bool.or_eq_false_iff, Bool.not_eq_false', decide_eq_true_eq, decide_eq_false_iff_not] at hc51
            rw [if_pos hc51] at hdef
            refine wp_seq ?_
            refine reg ?_
            refine qq hS (g_buildv (pl := [(0, 1), (1, 1), (2, 1), (3, 1)]) (cs := [.bool _, .int .i64 _, .int .i64 _, .slice _ _ _]) Try.zeroValue31 Try.underlying31 (fun w => by simp [Try.sizeOf29, Try.sizeOf3, Try.sizeOf4]) mp0 rfl) ?_
            refine qq hS (g_movev (v := .int .i64 _) rfl) ?_
            refine qe (d_store 0 hS Try.sizeOf31 rfl rfl rfl (vs := [.bool _, .int .i64 _, .int .i64 _, .slice _ _ _]) rfl rfl rfl (Nat.le_of_ble_eq_true rfl) (cs' := [_, _, _, _]) rfl) ?_
            clear hS
            rintro _ w_11 ⟨rfl, hS⟩
            refine qq hS (g_assignv (v := .int .i64 _) rfl) ?_
            refine ol_nil (thenN ?_)
            refine wp_ret ?_
            refine thenR ?_
            rw [hdef]
            refine ret2 Try.results17 (rv_cel 0 hS Try.sizeOf31 Try.isAgg31 rfl rfl rfl) (rv_tmp (v := .int .i64 _) rfl) ?_
            exact ⟨_, none, 0, 0, rfl, hS.nil, RSl.nilR⟩
          ·
            intro hc51
            try simp only [Bool.and_eq_true, Bool.or_eq_true, Bool.not_eq_true', Bool.and_eq_false_imp, Bool.or_eq_false_iff, Bool.not_eq_false', decide_eq_true_eq, decide_eq_false_iff_not] at hc51
            rw [if_neg (by rw [hc51]; decide)] at hdef
            refine wp_skip ?_
            refine thenN ?_
            refine wp_seq ?_
            refine reg ?_
            refine qq hS (g_move _) ?_
            refine qq hS (g_fieldAddr (o' := 1) Try.underlying31 rfl Try.sizeOf3 rfl rfl rfl) ?_
            refine qq hS (g_ldO1 2 Try.isAgg3 rfl rfl rfl) ?_
            refine qe (d_call Try.call49 rfl (cheapest_e a47 T.1.length c47 T.1 p.in_ C.1 C.2 _ _ hS.imm h47 rfl hABw hC)) ?_
            rintro _ w_12 ⟨I_f, a58, m58, c58, rfl, hE, h58⟩
            replace hS := hS.callE hE
            replace hops := hops.mono hE.ext
            replace hoq := hoq.mono hE.ext
            replace h13 := h13.mono hE.ext
            replace h22 := h22.mono hE.ext
            replace h47 := h47.mono hE.ext
            refine qq hS (g_move _) ?_
            refine qq hS (g_extract rfl rfl) ?_
            refine qq hS (g_extract (v := .int .i64 _) rfl rfl) ?_
            refine qe (d_alloc (cs := [.bool _, .int .i64 _, .int .i64 _, .slice _ _ _]) hS Try.zeroValue31 rfl) ?_
            clear hS
            rintro _ w_13 ⟨b10, rfl, hS⟩
            refine qe (d_store 0 hS Try.sizeOf31 rfl rfl rfl (vs := [.bool _, .int .i64 _, .int .i64 _, .slice _ _ _]) rfl rfl rfl (Nat.le_of_ble_eq_true rfl) (cs' := [_, _, _, _]) rfl) ?_
            clear hS
            rintro _ w_14 ⟨rfl, hS⟩
            refine qq hS (g_assignv (v := .int .i64 _) rfl) ?_
            refine ol_nil (thenN ?_)
            refine wp_seq ?_
            refine wp_seq ?_
            refine reg ?_
            refine qq hS (g_movev (v := .int .i64 _) rfl) ?_
            refine qq hS (g_neq rfl rfl) ?_
            refine ol_nil (thenN ?_)
            refine cond_s rfl ?_ ?_
            ·
              intro hc62
              try simp only [Bool.and_eq_true, Bool.or_eq_true, Bool.not_eq_true', Bool.and_eq_false_imp, Bool.or_eq_false_iff, Bool.not_eq_false', decide_eq_true_eq, decide_eq_false_iff_not] at hc62
              rw [if_pos hc62] at hdef
              refine wp_seq ?_
              refine reg ?_
              refine qq hS (g_buildv (pl := [(0, 1), (1, 1), (2, 1), (3, 1)]) (cs := [.bool _, .int .i64 _, .int .i64 _, .slice _ _ _]) Try.zeroValue31 Try.underlying31 (fun w => by simp [Try.sizeOf29, Try.sizeOf3, Try.sizeOf4]) mp0 rfl) ?_
              refine qq hS (g_movev (v := .int .i64 _) rfl) ?_
              refine qe (d_store 1 hS Try.sizeOf31 rfl rfl rfl (vs := [.bool _, .int .i64 _, .int .i64 _, .slice _ _ _]) rfl rfl rfl (Nat.le_of_ble_eq_true rfl) (cs' := [_, _, _, _]) rfl) ?_
              clear hS
              rintro _ w_15 ⟨rfl, hS⟩
              refine qq hS (g_assignv (v := .int .i64 _) rfl) ?_
              refine ol_nil (thenN ?_)
              refine wp_ret ?_
              refine thenR ?_
              rw [hdef]
              refine ret2 Try.results17 (rv_cel 1 hS Try.sizeOf31 Try.isAgg31 rfl rfl rfl) (rv_tmp (v := .int .i64 _) rfl) ?_
              exact ⟨_, none, 0, 0, rfl, hS.nil, RSl.nilR⟩
            ·
              intro hc62
              try simp only [Bool.and_eq_true, Bool.or_eq_true, Bool.not_eq_true', Bool.and_eq_false_imp, Bool.or_eq_false_iff, Bool.not_eq_false', decide_eq_true_eq, decide_eq_false_iff_not] at hc62
              rw [if_neg (by rw [hc62]; decide)] at hdef
              refine wp_skip ?_
              refine thenN ?_
              refine wp_seq ?_
              refine reg ?_
              refine qq hS (g_fieldAddr (o' := 0) Try.underlying31 rfl Try.sizeOf4 rfl rfl rfl) ?_
              refine qq hS (g_ldO1 3 Try.isAgg4 rfl rfl rfl) ?_
              refine qq hS (g_fieldAddr (o' := 0) Try.underlying31 rfl Try.sizeOf4 rfl rfl rfl) ?_
              refine qe (d_store 0 hS Try.sizeOf4 rfl rfl rfl (vs := [.bool _]) rfl rfl rfl (Nat.le_of_ble_eq_true rfl) (cs' := [_, _, _, _]) rfl) ?_
              clear hS
              rintro _ w_16 ⟨rfl, hS⟩
              refine ol_nil (thenN ?_)
              refine wp_seq ?_
              refine reg ?_
              refine qq hS (g_ldO 0 (vs := [.bool _, .int .i64 _, .int .i64 _, .slice _ _ _]) Try.sizeOf31 Try.isAgg31 rfl rfl rfl rfl) ?_
              refine qe (d_store 1 hS Try.sizeOf31 rfl rfl rfl (vs := [.bool _, .int .i64 _, .int .i64 _, .slice _ _ _]) rfl rfl rfl (Nat.le_of_ble_eq_true rfl) (cs' := [_, _, _, _]) rfl) ?_
              clear hS
              rintro _ w_17 ⟨rfl, hS⟩
              refine qq hS (g_assignv (v := .int .i64 _) rfl) ?_
              refine ol_nil (thenN ?_)
              refine wp_ret ?_
              rw [hdef]
              refine ret2 Try.results17 (rv_cel 1 hS Try.sizeOf31 Try.isAgg31 rfl rfl rfl) (rv_tmp (v := .int .i64 _) rfl) ?_
              exact ⟨_, a58, m58, c58, rfl, hS.nil, h58⟩

set_option maxHeartbeats 1000000 in
theorem refCompose_c (p q : PatL) (ad bd : Option Addr) (m cap mb capb : Nat) (w0 : World) (I0 : Imm) (hI : Sat I0 w0) (hops : ROps I0 (.slice ad m cap) p.ops) (hp : p.wf) (hoq : ROps I0 (.slice bd mb capb) q.ops) (hq : q.wf) :
    Ctr Try.prog 18 [.agg #[.bool p.lifted, .int .i64 p.in_, .int .i64 p.out, .slice ad m cap], .agg #[.bool q.lifted, .int .i64 q.in_, .int .i64 q.out, .slice bd mb capb]] w0 (fun v w' => ∃ I' a m c, v = .tuple #[.agg #[.bool (composeP p q).1.lifted, .int .i64 (composeP p q).1.in_, .int .i64 (composeP p q).1.out, .slice a m c], .int .i64 (composeP p q).2] ∧ Ext w0 I0 w' I' ∧ ROps I' (.slice a m c) (composeP p q).1.ops) := by
  have hwA := symsOf_wf hp
  have hwB := symsOf_wf hq
  have hlB := symbolsP_len q
  have hlA := symbolsP_len p
  have hABw := throughP_wf hwA hwB
  have hdef : composeP p q = composeP p q := rfl
  conv at hdef => rhs; unfold composeP
  obtain ⟨A, hA⟩ : ∃ A, symbolsP p = A := ⟨_, rfl⟩
  obtain ⟨B, hB⟩ : ∃ B, symbolsP q = B := ⟨_, rfl⟩
  rw [hA] at hdef hwA hABw hlA
  rw [hB] at hdef hwB hABw hlB
  obtain ⟨T, hT⟩ : ∃ T, throughP A.1 B.1 = T := ⟨_, rfl⟩
  rw [hT] at hdef hABw
  obtain ⟨C, hC⟩ : ∃ C, cheapP T.1 p.in_ = C := ⟨_, rfl⟩
  rw [hC] at hdef
  have h6A := symbolsP_60 p
  have h6B := symbolsP_60 q
  rw [hA] at h6A
  rw [hB] at h6B
  refine fn (n := 63) Try.func18 rfl rfl rfl ?_
  have hS := St.start hI
  refine wp_seq ?_
  refine reg ?_
  refine qe (d_box (cs := [.bool _, .int .i64 _, .int .i64 _, .slice _ _ _]) hS rfl) ?_
  clear hS
  rintro _ w_1 ⟨b2, rfl, hS⟩
  refine qe (d_box (cs := [.bool _, .int .i64 _, .int .i64 _, .slice _ _ _]) hS rfl) ?_
  clear hS
  rintro _ w_2 ⟨b3, rfl, hS⟩
  refine qe (d_alloc (cs := [.bool _, .int .i64 _, .int .i64 _, .slice _ _ _]) hS Try.zeroValue31 rfl) ?_
  clear hS
  rintro _ w_3 ⟨b4, rfl, hS⟩
  refine qq hS (g_assignv (v := .int .i64 _) rfl) ?_
  refine ol_nil (thenN ?_)
  refine wp_seq ?_
  refine reg ?_
  refine qq hS (g_ldO 2 (vs := [.bool _, .int .i64 _, .int .i64 _, .slice _ _ _]) Try.sizeOf31 Try.isAgg31 rfl rfl rfl rfl) ?_
  refine qe (d_call Try.call28 rfl (refSymbols_e p ad m cap A _ _ hS.imm hops hp hA)) ?_
  rintro _ w_4 ⟨I_f, a13, c13, rfl, hE, h13⟩
  replace hS := hS.callE hE
  replace hops := hops.mono hE.ext
  replace hoq := hoq.mono hE.ext
  refine qq hS (g_move _) ?_
  refine qq hS (g_extract rfl rfl) ?_
  refine qq hS (g_extract (v := .int .i64 _) rfl rfl) ?_
  refine qq hS (g_assign _) ?_
  refine qq hS (g_assignv (v := .int .i64 _) rfl) ?_
  refine ol_nil (thenN ?_)
  refine wp_seq ?_
  refine reg ?_
  refine qq hS (g_ldO 1 (vs := [.bool _, .int .i64 _, .int .i64 _, .slice _ _ _]) Try.sizeOf31 Try.isAgg31 rfl rfl rfl rfl) ?_
  refine qe (d_call Try.call28 rfl (refSymbols_e q bd mb capb B _ _ hS.imm hoq hq hB)) ?_
  rintro _ w_5 ⟨I_f, a22, c22, rfl, hE, h22⟩
  replace hS := hS.callE hE
  replace hops := hops.mono hE.ext
  replace hoq := hoq.mono hE.ext
  replace h13 := h13.mono hE.ext
  refine qq hS (g_move _) ?_
  refine qq hS (g_extract rfl rfl) ?_
  refine qq hS (g_extract (v := .int .i64 _) rfl rfl) ?_
  refine qq hS (g_assign _) ?_
  refine qq hS (g_assignv (v := .int .i64 _) rfl) ?_
  refine ol_nil (thenN ?_)
  refine wp_seq ?_
  refine wp_seq ?_
  refine reg ?_
  refine qq hS (g_movev (v := .int .i64 _) rfl) ?_
  refine qq hS (g_neq rfl rfl) ?_
  refine qq hS (g_movev (v := .bool _) rfl) ?_
  refine qu rfl rfl hS (fun hg => (g_movev (v := .int .i64 _) rfl)) ?_
  intro u27 hu27 hn27
  refine qu rfl rfl hS (fun hg => (g_neq (hu27 hg) rfl)) ?_
  intro u28 hu28 hn28
  refine qq hS (g_or rfl rfl (fun hq => hu28 hq)) ?_
  refine ol_nil (thenN ?_)
  refine cond_s rfl ?_ ?_
  ·
    intro hc29
    clear hu27 hn27 hu28 hn28
    try simp only [Bool.and_eq_true, Bool.or_eq_true, Bool.not_eq_true', Bool.and_eq_false_imp, Bool.or_eq_false_iff, Bool.not_eq_false', decide_eq_true_eq, decide_eq_false_iff_not] at hc29
    have hdef2 : composeP p q = (PatL.zero, 60) := by
      by_cases h : A.2 = 0
      · rw [if_neg (by rw [h]; decide), if_pos (by omega)] at hdef
        rw [hdef]; congr 1; omega
      · rw [if_pos h] at hdef
        rw [hdef]; congr 1; omega
    replace hdef := hdef2
    refine wp_seq ?_
    refine reg ?_
    refine qq hS (g_buildv (pl := [(0, 1), (1, 1), (2, 1), (3, 1)]) (cs := [.bool _, .int .i64 _, .int .i64 _, .slice _ _ _]) Try.zeroValue31 Try.underlying31 (fun w => by simp [Try.sizeOf29, Try.sizeOf3, Try.sizeOf4]) mp0 rfl) ?_
    refine qe (d_store 0 hS Try.sizeOf31 rfl rfl rfl (vs := [.bool _, .int .i64 _, .int .i64 _, .slice _ _ _]) rfl rfl rfl (Nat.le_of_ble_eq_true rfl) (cs' := [_, _, _, _]) rfl) ?_
    clear hS
    rintro _ w_6 ⟨rfl, hS⟩
    refine qq hS (g_assignv (v := .int .i64 _) rfl) ?_
    refine ol_nil (thenN ?_)
    refine wp_ret ?_
    refine thenR ?_
    rw [hdef]
    refine ret2 Try.results18 (rv_cel 0 hS Try.sizeOf31 Try.isAgg31 rfl rfl rfl) (rv_tmp (v := .int .i64 _) rfl) ?_
    exact ⟨_, none, 0, 0, rfl, hS.nil, RSl.nilR⟩
  ·
    intro hc29
    clear hu27 hn27 hu28 hn28
    try simp only [Bool.and_eq_true, Bool.or_eq_true, Bool.not_eq_true', Bool.and_eq_false_imp, Bool.or_eq_false_iff, Bool.not_eq_false', decide_eq_true_eq, decide_eq_false_iff_not] at hc29
    rw [if_neg (by omega), if_neg (by omega)] at hdef
    refine wp_skip ?_
    refine thenN ?_
    refine wp_seq ?_
    refine wp_seq ?_
    refine reg ?_
    refine qq hS (g_fieldAddr (o' := 0) Try.underlying31 rfl Try.sizeOf4 rfl rfl rfl) ?_
    refine qq hS (g_ldO1 2 Try.isAgg4 rfl rfl rfl) ?_
    refine qq hS (g_fieldAddr (o' := 0) Try.underlying31 rfl Try.sizeOf4 rfl rfl rfl) ?_
    refine qq hS (g_ldO1 1 Try.isAgg4 rfl rfl rfl) ?_
    refine qq hS (g_neqb Try.underlying4 rfl rfl) ?_
    refine ol_nil (thenN ?_)
    refine cond_s rfl ?_ ?_
    ·
      intro hc35
      simp only [bne_iff_ne, ne_eq, bne_eq_false_iff_eq] at hc35
      rw [if_pos hc35] at hdef
      refine wp_seq ?_
      refine reg ?_
      refine qq hS (g_buildv (pl := [(0, 1), (1, 1), (2, 1), (3, 1)]) (cs := [.bool _, .int .i64 _, .int .i64 _, .slice _ _ _]) Try.zeroValue31 Try.underlying31 (fun w => by simp [Try.sizeOf29, Try.sizeOf3, Try.sizeOf4]) mp0 rfl) ?_
      refine qe (d_store 0 hS Try.sizeOf31 rfl rfl rfl (vs := [.bool _, .int .i64 _, .int .i64 _, .slice _ _ _]) rfl rfl rfl (Nat.le_of_ble_eq_true rfl) (cs' := [_, _, _, _]) rfl) ?_
      clear hS
      rintro _ w_7 ⟨rfl, hS⟩
      refine qq hS (g_assignv (v := .int .i64 _) rfl) ?_
      refine ol_nil (thenN ?_)
      refine wp_ret ?_
      refine thenR ?_
      rw [hdef]
      refine ret2 Try.results18 (rv_cel 0 hS Try.sizeOf31 Try.isAgg31 rfl rfl rfl) (rv_tmp (v := .int .i64 _) rfl) ?_
      exact ⟨_, none, 0, 0, rfl, hS.nil, RSl.nilR⟩
    ·
      intro hc35
      simp only [bne_iff_ne, ne_eq, bne_eq_false_iff_eq] at hc35
      rw [if_neg (by rw [hc35]; simp)] at hdef
      refine wp_skip ?_
      refine thenN ?_
      refine wp_seq ?_
      refine wp_seq ?_
      refine reg ?_
      refine qq hS (g_fieldAddr (o' := 2) Try.underlying31 rfl Try.sizeOf3 rfl rfl rfl) ?_
      refine qq hS (g_ldO1 2 Try.isAgg3 rfl rfl rfl) ?_
      refine qq hS (g_fieldAddr (o' := 1) Try.underlying31 rfl Try.sizeOf3 rfl rfl rfl) ?_
      refine qq hS (g_ldO1 1 Try.isAgg3 rfl rfl rfl) ?_
      refine qq hS (g_neq rfl rfl) ?_
      refine ol_nil (thenN ?_)
      refine cond_s rfl ?_ ?_
      ·
        intro hc41
        try simp only [Bool.and_eq_true, Bool.or_eq_true, Bool.not_eq_true', Bool.and_eq_false_imp, Bool.or_eq_false_iff, Bool.not_eq_false', decide_eq_true_eq, decide_eq_false_iff_not] at hc41
        rw [if_pos hc41] at hdef
        refine wp_seq ?_
        refine reg ?_
        refine qq hS (g_buildv (pl := [(0, 1), (1, 1), (2, 1), (3, 1)]) (cs := [.bool _, .int .i64 _, .int .i64 _, .slice _ _ _]) Try.zeroValue31 Try.underlying31 (fun w => by simp [Try.sizeOf29, Try.sizeOf3, Try.sizeOf4]) mp0 rfl) ?_
        refine qe (d_store 0 hS Try.sizeOf31 rfl rfl rfl (vs := [.bool _, .int .i64 _, .int .i64 _, .slice _ _ _]) rfl rfl rfl (Nat.le_of_ble_eq_true rfl) (cs' := [_, _, _, _]) rfl) ?_
        clear hS
        rintro _ w_8 ⟨rfl, hS⟩
        refine qq hS (g_assignv (v := .int .i64 _) rfl) ?_
        refine ol_nil (thenN ?_)
        refine wp_ret ?_
        refine thenR ?_
        rw [hdef]
        refine ret2 Try.results18 (rv_cel 0 hS Try.sizeOf31 Try.isAgg31 rfl rfl rfl) (rv_tmp (v := .int .i64 _) rfl) ?_
        exact ⟨_, none, 0, 0, rfl, hS.nil, RSl.nilR⟩
      ·
        intro hc41
        try simp only [Bool.and_eq_true, Bool.or_eq_true, Bool.not_eq_true', Bool.and_eq_false_imp, Bool.or_eq_false_iff, Bool.not_eq_false', decide_eq_true_eq, decide_eq_false_iff_not] at hc41
        rw [if_neg (by omega)] at hdef
        have hT0 : T.2 = 0 := by
          obtain ⟨k1, k2⟩ := symbolsP_ok' (p := p) (by rw [hA]; exact hc29.1)
          obtain ⟨l1, l2⟩ := symbolsP_ok' (p := q) (by rw [hB]; exact hc29.2)
          rw [hA] at k2; rw [hB] at l2
          have := throughP_ok (a := A.1) (b := B.1) (n := q.in_) (by rw [l2]; exact (ops_ok _ (checkP_opsOk l1)).1) (by rw [k2]; have := (checkP_ok k1).2.1; show q.in_ = ((symsOf p.ops).length : Int); omega)
          rw [← hT, this]
        rw [if_neg (by rw [hT0]; decide)] at hdef
        refine wp_skip ?_
        refine thenN ?_
        refine wp_seq ?_
        refine reg ?_
        refine qq hS (g_move _) ?_
        refine qq hS (g_move _) ?_
        refine qe (d_call Try.call21 rfl (refThrough_e a13 a22 c13 c22 A.1 B.1 T _ _ hS.imm h13 h22 hwB hlB hT)) ?_
        rintro _ w_9 ⟨I_f, a47, c47, rfl, hE, h47⟩
        replace hS := hS.callE hE
        replace hops := hops.mono hE.ext
        replace hoq := hoq.mono hE.ext
        replace h13 := h13.mono hE.ext
        replace h22 := h22.mono hE.ext
        refine qq hS (g_move _) ?_
        refine qq hS (g_extract rfl rfl) ?_
        refine qq hS (g_extract (v := .int .i64 _) rfl rfl) ?_
        refine qq hS (g_assign _) ?_
        refine qq hS (g_assignv (v := .int .i64 _) rfl) ?_
        refine ol_nil (thenN ?_)
        refine wp_seq ?_
        refine reg ?_
        refine qq hS (g_move _) ?_
        refine qq hS (g_fieldAddr (o' := 1) Try.underlying31 rfl Try.sizeOf3 rfl rfl rfl) ?_
        refine qq hS (g_ldO1 2 Try.isAgg3 rfl rfl rfl) ?_
        refine qe (d_call Try.call50 rfl (refCheap_e a47 T.1.length c47 T.1 p.in_ C _ _ hS.imm h47 rfl hABw hp.in_ hC)) ?_
        rintro _ w_10 ⟨I_f, a58, m58, c58, rfl, hE, h58⟩
        replace hS := hS.callE hE
        replace hops := hops.mono hE.ext
        replace hoq := hoq.mono hE.ext
        replace h13 := h13.mono hE.ext
        replace h22 := h22.mono hE.ext
        replace h47 := h47.mono hE.ext
        refine qq hS (g_move _) ?_
        refine qq hS (g_extract rfl rfl) ?_
        refine qq hS (g_extract (v := .int .i64 _) rfl rfl) ?_
        refine qe (d_alloc (cs := [.bool _, .int .i64 _, .int .i64 _, .slice _ _ _]) hS Try.zeroValue31 rfl) ?_
        clear hS
        rintro _ w_11 ⟨b12, rfl, hS⟩
        refine qe (d_store 0 hS Try.sizeOf31 rfl rfl rfl (vs := [.bool _, .int .i64 _, .int .i64 _, .slice _ _ _]) rfl rfl rfl (Nat.le_of_ble_eq_true rfl) (cs' := [_, _, _, _]) rfl) ?_
        clear hS
        rintro _ w_12 ⟨rfl, hS⟩
        refine qq hS (g_assignv (v := .int .i64 _) rfl) ?_
        refine ol_nil (thenN ?_)
        refine wp_seq ?_
        refine wp_seq ?_
        refine reg ?_
        refine qq hS (g_movev (v := .int .i64 _) rfl) ?_
        refine qq hS (g_eql rfl rfl) ?_
        refine ol_nil (thenN ?_)
        refine cond_s rfl ?_ ?_
        ·
          intro hc57
          try simp only [Bool.and_eq_true, Bool.or_eq_true, Bool.not_eq_true', Bool.and_eq_false_imp, Bool.or_eq_false_iff, Bool.not_eq_false', decide_eq_true_eq, decide_eq_false_iff_not] at hc57
          rw [if_neg (by rw [hc57]; decide)] at hdef
          rw [← hc57] at hdef
          refine reg ?_
          refine qq hS (g_fieldAddr (o' := 0) Try.underlying31 rfl Try.sizeOf4 rfl rfl rfl) ?_
          refine qq hS (g_ldO1 3 Try.isAgg4 rfl rfl rfl) ?_
          refine qq hS (g_fieldAddr (o' := 0) Try.underlying31 rfl Try.sizeOf4 rfl rfl rfl) ?_
          refine qe (d_store 0 hS Try.sizeOf4 rfl rfl rfl (vs := [.bool _]) rfl rfl rfl (Nat.le_of_ble_eq_true rfl) (cs' := [_, _, _, _]) rfl) ?_
          clear hS
          rintro _ w_13 ⟨rfl, hS⟩
          refine ol_nil (thenN ?_)
          refine wp_seq ?_
          refine reg ?_
          refine qq hS (g_ldO 0 (vs := [.bool _, .int .i64 _, .int .i64 _, .slice _ _ _]) Try.sizeOf31 Try.isAgg31 rfl rfl rfl rfl) ?_
          refine qq hS (g_movev (v := .int .i64 _) rfl) ?_
          refine qe (d_store 1 hS Try.sizeOf31 rfl rfl rfl (vs := [.bool _, .int .i64 _, .int .i64 _, .slice _ _ _]) rfl rfl rfl (Nat.le_of_ble_eq_true rfl) (cs' := [_, _, _, _]) rfl) ?_
          clear hS
          rintro _ w_14 ⟨rfl, hS⟩
          refine qq hS (g_assignv (v := .int .i64 _) rfl) ?_
          refine ol_nil (thenN ?_)
          refine wp_ret ?_
          rw [hdef]
          refine ret2 Try.results18 (rv_cel 1 hS Try.sizeOf31 Try.isAgg31 rfl rfl rfl) (rv_tmp (v := .int .i64 _) rfl) ?_
          exact ⟨_, a58, m58, c58, rfl, hS.nil, h58⟩
        ·
          intro hc57
          try simp only [Bool.and_eq_true, Bool.or_eq_true, Bool.not_eq_true', Bool.and_eq_false_imp, Bool.or_eq_false_iff, Bool.not_eq_false', decide_eq_true_eq, decide_eq_false_iff_not] at hc57
          rw [if_pos hc57] at hdef
          have hz := cheap_zero (l := T.1) (n := p.in_) (by rw [hC]; exact hc57)
          rw [hC] at hz
          rw [← hz] at hdef
          refine wp_skip ?_
          refine thenN ?_
          refine wp_seq ?_
          refine reg ?_
          refine qq hS (g_ldO 0 (vs := [.bool _, .int .i64 _, .int .i64 _, .slice _ _ _]) Try.sizeOf31 Try.isAgg31 rfl rfl rfl rfl) ?_
          refine qq hS (g_movev (v := .int .i64 _) rfl) ?_
          refine qe (d_store 1 hS Try.sizeOf31 rfl rfl rfl (vs := [.bool _, .int .i64 _, .int .i64 _, .slice _ _ _]) rfl rfl rfl (Nat.le_of_ble_eq_true rfl) (cs' := [_, _, _, _]) rfl) ?_
          clear hS
          rintro _ w_15 ⟨rfl, hS⟩
          refine qq hS (g_assignv (v := .int .i64 _) rfl) ?_
          refine ol_nil (thenN ?_)
          refine wp_ret ?_
          rw [hdef]
          refine ret2 Try.results18 (rv_cel 1 hS Try.sizeOf31 Try.isAgg31 rfl rfl rfl) (rv_tmp (v := .int .i64 _) rfl) ?_
          exact ⟨_, a58, m58, c58, rfl, hS.nil, h58⟩

end Go.Proofs.Ythningkgpanaoaa

