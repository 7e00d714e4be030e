/- inlaylaw09.ComposeRefuses: its function answers true. Conditions: arguments are of their kinds. -/
import Derived.Test.YthningkgpanaoaaCWhole
namespace Go.Proofs.Ythningkgpanaoaa
open Go Go.RowKit Go.Inl
set_option linter.unusedSimpArgs false
set_option linter.unusedVariables false
theorem g_cast {P : Program} {ρ : Operand → Value} {S : World → Prop} {op : Op} {ty : TypeId} {v v' : Value} (h : Gives P ρ S op ty v) (e : v = v') : Gives P ρ S op ty v' := by subst e; exact h
def outM (m : Bool) (p : PatL) : PatL := ⟨p.lifted, p.in_, if m then p.out + 1 else p.out, p.ops⟩
theorem compose_err {A B : PatL} (hA : (checkP A).2 = 0) (hB : (checkP B).2 = 0) (ho : B.out ≤ 4096) : (composeP A B).2 = if A.lifted ≠ B.lifted then 62 else if A.out ≠ B.in_ then 61 else 0 := by
  by_cases h1 : A.lifted = B.lifted
  · by_cases h2 : A.out = B.in_
    · rw [composeP_ok hA hB h1 h2 ho, if_neg (by simp [h1]), if_neg (by simp [h2])]
    · rw [if_neg (by simp [h1]), if_pos h2]
      unfold composeP
      rw [symbolsP_ok hA, symbolsP_ok hB]
      simp [h1, h2]
  · rw [if_pos h1]
    unfold composeP
    rw [symbolsP_ok hA, symbolsP_ok hB]
    simp [h1]
theorem allP_two (A B : PatL) : allP [A, B] = if (formP A).2 ≠ 0 then (PatL.zero, (formP A).2) else if (composeP (formP A).1 B).2 ≠ 0 then composeP (formP A).1 B else ((composeP (formP A).1 B).1, 0) := rfl
theorem refuses_plain {p q q2 : PatL} (m0 m1 m2 : Bool) (hp : (checkP p).2 = 0) (hpf : p.lifted = false) (hpo : p.out ≤ 30) (hq : (checkP q).2 = 0) (hqi : q.in_ = p.out) (hqo : q.out ≤ 30) (hr : (checkP q2).2 = 0) (hri : q2.in_ = p.out + 1) (hro : q2.out ≤ 30) :
    (composeP (outM m0 p) (lift m1 (if m2 then q2 else q))).2 = (if m0 then 60 else if m1 then 62 else if m2 then 61 else 0) ∧ (allP [outM m0 p, lift m1 (if m2 then q2 else q)]).2 = (if m0 then 60 else if m1 then 62 else if m2 then 61 else 0) := by
  obtain ⟨k1, k2, k3, k4, k5, k6, k7⟩ := checkP_ok hp
  cases m0 with
  | true =>
    have hc : (checkP (outM true p)).2 = 60 := by
      rcases checkP_60 (outM true p) with h | h
      · exact h
      · have h1 := (checkP_ok h).2.1
        have h2 : (outM true p).out = p.out + 1 := rfl
        have h3 : (outM true p).ops = p.ops := rfl
        rw [h2, h3] at h1; omega
    have hs : (symbolsP (outM true p)).2 = 60 := by unfold symbolsP; rw [if_neg (by rw [hc]; decide)]; exact hc
    have hf : formP (outM true p) = (PatL.zero, 60) := by unfold formP; rw [if_neg (by rw [hs]; decide), hs]
    refine ⟨?_, ?_⟩
    · unfold composeP; rw [if_pos (by rw [hs]; decide)]; exact hs
    · rw [allP_two, hf]; rfl
  | false =>
    have e : outM false p = p := by cases p; rfl
    rw [e]
    have hQ : (checkP (if m2 then q2 else q)).2 = 0 ∧ (if m2 then q2 else q).out ≤ 30 ∧ (if m2 then q2 else q).in_ = (if m2 then p.out + 1 else p.out) := by cases m2 <;> simp [*]
    generalize (if m2 then q2 else q) = Q at hQ ⊢
    obtain ⟨h1, h2, h3⟩ := hQ
    have hLQ : (checkP (lift m1 Q)).2 = 0 := h1
    have hfp : formP p = (formOf false p.in_ (symsOf p.ops), 0) := by rw [formP_ok hp (by omega), hpf]
    have key : ∀ A : PatL, (checkP A).2 = 0 → A.lifted = false → A.out = p.out → (composeP A (lift m1 Q)).2 = (if (false : Bool) then 60 else if m1 then 62 else if m2 then 61 else 0) := by
      intro A hA hAl hAo
      rw [compose_err hA hLQ (by show Q.out ≤ _; omega), hAl, hAo, show (lift m1 Q).lifted = m1 from rfl, show (lift m1 Q).in_ = Q.in_ from rfl, h3]
      cases m1 with
      | true => simp
      | false => cases m2 with
        | true => simp; omega
        | false => simp
    refine ⟨key p hp hpf rfl, ?_⟩
    have hF := key (formOf false p.in_ (symsOf p.ops)) (formOf_check ⟨k3, k4⟩ (by omega) (ops_ok _ k1).1) rfl (by show ((symsOf p.ops).length : Int) = p.out; exact k2)
    rw [allP_two, hfp]
    simp only [ne_eq, not_true_eq_false, if_false]
    split
    · exact hF
    · rename_i h
      rw [← hF]
      exact (Decidable.not_not.1 h).symm
def zeros : List Sym := List.replicate 9 z0
theorem thr_nine (n : Int) (T : List Sym × Int) (h : throughP zeros [⟨false, 0, 1⟩, ⟨true, n, 0⟩] = T) : decide (T.2 = 0) = (decide (0 ≤ n) && decide (n < 9)) ∧ (decide (T.2 = 0) || decide (T.2 = 61)) = true := by
  subst h
  unfold throughP
  have h0 : badT zeros.length ⟨false, 0, 1⟩ = false := rfl
  have h1 : badT zeros.length ⟨true, n, 0⟩ = (decide (n < 0) || decide (9 ≤ n)) := rfl
  rw [List.any_cons, List.any_cons, List.any_nil, h0, h1]
  by_cases h : n < 0
  · rw [decide_eq_true h]; simp; omega
  · by_cases h' : 9 ≤ n
    · rw [decide_eq_true h', decide_eq_false h]; simp; omega
    · rw [decide_eq_false h', decide_eq_false h]; simp; omega

set_option maxRecDepth 20000 in
set_option maxHeartbeats 4000000 in
theorem crefuses_c (r s n : Int) (ad bd : Option Addr) (cap capb : Nat) (l lb : List Q4) (m0 m1 m2 : Bool) (w0 : World) (I0 : Imm) (hI : Sat I0 w0) (hr : 0 ≤ r ∧ r ≤ 255) (h4 : RFl I0 4 q4C (.slice ad l.length cap) l) (hq : ∀ q ∈ l, q.wf) (h5 : RFl I0 4 q4C (.slice bd lb.length capb) lb) (hqb : ∀ q ∈ lb, q.wf) (hn : -128 ≤ n ∧ n ≤ 127) :
    Ctr Try.prog 5 [.agg #[.int .u8 r, .slice ad l.length cap, .int .u8 s, .slice bd lb.length capb], .agg #[.bool m0, .bool m1, .bool m2], .int .i8 n] w0 (fun v w' => ∃ I', v = .bool true ∧ Ext w0 I0 w' I') := by
  have hr13 : 0 ≤ r % 13 ∧ r % 13 ≤ 65536 := by omega
  have hpw := madeP_wf (size := r % 13) hq hr13
  obtain ⟨hpk, hpo, hpl⟩ := madeP_ok (size := r % 13) hq hr13
  have hpf : (madeP l (r % 13)).lifted = false := rfl
  obtain ⟨p, hp⟩ : ∃ p, madeP l (r % 13) = p := ⟨_, rfl⟩
  rw [hp] at hpw hpk hpo hpl hpf
  obtain ⟨k1, k2, k3, k4, k5, k6, k7⟩ := checkP_ok hpk
  have hso : 0 ≤ p.out + 1 ∧ p.out + 1 ≤ 65536 := by omega
  have hqw := madeP_wf (size := p.out) hqb ⟨k5, k6⟩
  obtain ⟨hqk, hqo, hql⟩ := madeP_ok (size := p.out) hqb ⟨k5, k6⟩
  have hqi : (madeP lb p.out).in_ = p.out := rfl
  have hqf : (madeP lb p.out).lifted = false := rfl
  obtain ⟨q, hqe⟩ : ∃ q, madeP lb p.out = q := ⟨_, rfl⟩
  rw [hqe] at hqw hqk hqo hql hqi hqf
  have hqw2 := madeP_wf (size := p.out + 1) hqb hso
  obtain ⟨hqk2, hqo2, hql2⟩ := madeP_ok (size := p.out + 1) hqb hso
  have hqi2 : (madeP lb (p.out + 1)).in_ = p.out + 1 := rfl
  have hqf2 : (madeP lb (p.out + 1)).lifted = false := rfl
  obtain ⟨q2, hqe2⟩ : ∃ q, madeP lb (p.out + 1) = q := ⟨_, rfl⟩
  rw [hqe2] at hqw2 hqk2 hqo2 hql2 hqi2 hqf2
  obtain ⟨hcw, haw⟩ := refuses_plain m0 m1 m2 hpk hpf hpo hqk hqi hqo hqk2 hqi2 hqo2
  have hPw : (outM m0 p).wf := ⟨hpw.in_, by show Mid (if m0 then _ else _); cases m0 <;> simp [Mid] <;> omega, hpw.ops, hpw.len⟩
  have hQw : (lift m1 (if m2 then q2 else q)).wf := by cases m2; exact lift_wf hqw; exact lift_wf hqw2
  obtain ⟨C, hC⟩ : ∃ C, composeP (outM m0 p) (lift m1 (if m2 then q2 else q)) = C := ⟨_, rfl⟩
  obtain ⟨D, hD⟩ : ∃ D, allP [outM m0 p, lift m1 (if m2 then q2 else q)] = D := ⟨_, rfl⟩
  rw [hC] at hcw
  rw [hD] at haw
  obtain ⟨T, hT⟩ : ∃ T, throughP zeros [⟨false, 0, 1⟩, ⟨true, n, 0⟩] = T := ⟨_, rfl⟩
  obtain ⟨hT1, hT2⟩ := thr_nine n T hT
  refine fn (n := 96) Try.func5 rfl rfl rfl ?_
  have hS := St.start hI
  refine wp_seq ?_
  refine reg ?_
  refine qe (d_box (cs := [.int .u8 _, .slice _ _ _, .int .u8 _, .slice _ _ _]) hS rfl) ?_
  clear hS
  rintro _ w_1 ⟨b3, rfl, hS⟩
  refine qe (d_box (cs := [.bool _, .bool _, .bool _]) hS rfl) ?_
  clear hS
  rintro _ w_2 ⟨b4, rfl, hS⟩
  refine qq hS (g_assignv (v := .bool _) rfl) ?_
  refine ol_nil (thenN ?_)
  refine wp_seq ?_
  refine reg ?_
  refine qe (d_call Try.call12 rfl (sanity9_c _ _ hS.imm)) ?_
  rintro _ w_3 ⟨I_f, rfl, hE⟩
  replace hS := hS.callE hE
  replace h4 := h4.mono hE.ext
  replace h5 := h5.mono hE.ext
  refine qq hS (g_assignv (v := .bool _) rfl) ?_
  refine ol_nil (thenN ?_)
  refine wp_seq ?_
  refine reg ?_
  refine qq hS (g_indexArr (o' := 0) Try.underlying48 Try.sizeOf47 rfl rfl (by decide) (by decide) rfl) ?_
  refine qq hS (g_ldO 1 (vs := [.int .u8 _, .slice _ _ _]) Try.sizeOf47 Try.isAgg47 rfl rfl rfl rfl) ?_
  refine qe (d_call Try.call24 rfl (made_t r ad cap l p _ _ hS.imm h4 hq hr hp)) ?_
  rintro _ w_4 ⟨I_f, a20, m20, c20, rfl, hE, h20⟩
  replace hS := hS.callE hE
  replace h4 := h4.mono hE.ext
  replace h5 := h5.mono hE.ext
  refine qe (d_alloc (cs := [.bool _, .int .i64 _, .int .i64 _, .slice _ _ _]) hS Try.zeroValue31 rfl) ?_
  clear hS
  rintro _ w_5 ⟨b8, rfl, hS⟩
  refine qe (d_store 0 hS Try.sizeOf31 rfl rfl rfl (vs := [.bool _, .int .i64 _, .int .i64 _, .slice _ _ _]) rfl rfl rfl (Nat.le_of_ble_eq_true rfl) (cs' := [_, _, _, _]) rfl) ?_
  clear hS
  rintro _ w_6 ⟨rfl, hS⟩
  refine ol_nil (thenN ?_)
  refine wp_seq ?_
  refine reg ?_
  refine qq hS (g_indexArr (o' := 2) Try.underlying48 Try.sizeOf47 rfl rfl (by decide) (by decide) rfl) ?_
  refine qq hS (g_ldO 2 (vs := [.int .u8 _, .slice _ _ _]) Try.sizeOf47 Try.isAgg47 rfl rfl rfl rfl) ?_
  refine qq hS (g_fieldAddr (o' := 2) Try.underlying31 rfl Try.sizeOf3 rfl rfl rfl) ?_
  refine qq hS (g_ldO1 0 Try.isAgg3 rfl rfl rfl) ?_
  refine qe (d_call Try.call25 rfl (sized_E s bd capb lb p.out q _ _ hS.imm h5 hqb ⟨k5, k6⟩ hqe)) ?_
  rintro _ w_7 ⟨I_f, a25, m25, c25, rfl, hE, h25⟩
  replace hS := hS.callE hE
  replace h4 := h4.mono hE.ext
  replace h5 := h5.mono hE.ext
  replace h20 := h20.mono hE.ext
  refine qe (d_alloc (cs := [.bool _, .int .i64 _, .int .i64 _, .slice _ _ _]) hS Try.zeroValue31 rfl) ?_
  clear hS
  rintro _ w_8 ⟨b9, rfl, hS⟩
  refine qe (d_store 0 hS Try.sizeOf31 rfl rfl rfl (vs := [.bool _, .int .i64 _, .int .i64 _, .slice _ _ _]) rfl rfl rfl (Nat.le_of_ble_eq_true rfl) (cs' := [_, _, _, _]) rfl) ?_
  clear hS
  rintro _ w_9 ⟨rfl, hS⟩
  refine ol_nil (thenN ?_)
  refine wp_seq ?_
  refine reg ?_
  refine qq hS (g_assignv (v := .int .i64 _) rfl) ?_
  refine ol_nil (thenN ?_)
  refine meet (fun σ w => ∃ I aq mq cq, okS σ [(2, .int .i8 n), (3, .pointer (some ⟨b3, 0, none⟩)), (4, .pointer (some ⟨b4, 0, none⟩)), (7, .bool true), (8, .pointer (some ⟨b8, 0, none⟩)), (9, .pointer (some ⟨b9, 0, none⟩)), (10, .int .i64 (if m2 then 61 else 0 : Int))] ∧ St [] w0 I0 I w [.cel b9 31 [.bool false, .int .i64 (if m2 then q2 else q).in_, .int .i64 (if m2 then q2 else q).out, .slice aq mq cq], .cel b8 31 [.bool p.lifted, .int .i64 p.in_, .int .i64 p.out, .slice a20 m20 c20], .cel b4 49 [.bool m0, .bool m1, .bool m2], .cel b3 48 [.int .u8 r, .slice ad l.length cap, .int .u8 s, .slice bd lb.length capb]] ∧ ROps I (.slice aq mq cq) (if m2 then q2 else q).ops ∧ ROps I (.slice a20 m20 c20) p.ops) ?_ ?_
  ·
    refine wp_seq ?_
    refine reg ?_
    refine qq hS (g_indexArr (o' := 2) Try.underlying49 Try.sizeOf4 rfl rfl (by decide) (by decide) rfl) ?_
    refine qq hS (g_ldO1 2 Try.isAgg4 rfl rfl rfl) ?_
    refine ol_nil (thenN ?_)
    refine cond_s rfl ?_ ?_
    ·
      intro hc27
      subst hc27
      refine wp_seq ?_
      refine reg ?_
      refine qq hS (g_indexArr (o' := 2) Try.underlying48 Try.sizeOf47 rfl rfl (by decide) (by decide) rfl) ?_
      refine qq hS (g_ldO 3 (vs := [.int .u8 _, .slice _ _ _]) Try.sizeOf47 Try.isAgg47 rfl rfl rfl rfl) ?_
      refine qq hS (g_fieldAddr (o' := 2) Try.underlying31 rfl Try.sizeOf3 rfl rfl rfl) ?_
      refine qq hS (g_ldO1 1 Try.isAgg3 rfl rfl rfl) ?_
      refine qq hS (g_add rfl rfl (by omega) (by omega)) ?_
      refine qe (d_call Try.call25 rfl (sized_E s bd capb lb (p.out + 1) q2 _ _ hS.imm h5 hqb hso hqe2)) ?_
      rintro _ w_10 ⟨I_f, a33, m33, c33, rfl, hE, h33⟩
      replace hS := hS.callE hE
      replace h4 := h4.mono hE.ext
      replace h5 := h5.mono hE.ext
      replace h20 := h20.mono hE.ext
      replace h25 := h25.mono hE.ext
      refine qe (d_store 0 hS Try.sizeOf31 rfl rfl rfl (vs := [.bool _, .int .i64 _, .int .i64 _, .slice _ _ _]) rfl rfl rfl (Nat.le_of_ble_eq_true rfl) (cs' := [_, _, _, _]) rfl) ?_
      clear hS
      rintro _ w_11 ⟨rfl, hS⟩
      refine ol_nil (thenN ?_)
      refine reg ?_
      refine qq hS (g_assignv (v := .int .i64 _) rfl) ?_
      refine ol_nil (thenN ?_)
      first
        | exact ⟨_, rfl, _, _, _, _, ⟨rfl, rfl, rfl, rfl, rfl, rfl, rfl, trivial⟩, hS.sel [true, true, true, true], h33, h20⟩
        | (have hS' := hS.sel [true, true, true, true]
           rw [hqf] at hS'
           exact ⟨_, rfl, _, _, _, _, ⟨rfl, rfl, rfl, rfl, rfl, rfl, rfl, trivial⟩, hS', h25, h20⟩)
        | (have hS' := hS.sel [true, true, true, true]
           rw [hqf2] at hS'
           exact ⟨_, rfl, _, _, _, _, ⟨rfl, rfl, rfl, rfl, rfl, rfl, rfl, trivial⟩, hS', h33, h20⟩)
    ·
      intro hc27
      subst hc27
      refine wp_skip ?_
      refine thenN ?_
      first
        | exact ⟨_, rfl, _, _, _, _, ⟨rfl, rfl, rfl, rfl, rfl, rfl, rfl, trivial⟩, hS.sel [true, true, true, true], h33, h20⟩
        | (have hS' := hS.sel [true, true, true, true]
           rw [hqf] at hS'
           exact ⟨_, rfl, _, _, _, _, ⟨rfl, rfl, rfl, rfl, rfl, rfl, rfl, trivial⟩, hS', h25, h20⟩)
        | (have hS' := hS.sel [true, true, true, true]
           rw [hqf2] at hS'
           exact ⟨_, rfl, _, _, _, _, ⟨rfl, rfl, rfl, rfl, rfl, rfl, rfl, trivial⟩, hS', h33, h20⟩)
  ·
    rintro σ w ⟨I, aq, mq, cq, hs, hS, hQo, h20⟩
    rw [← upds_self hs]
    refine meet (fun σ w => okS σ [(2, .int .i8 n), (3, .pointer (some ⟨b3, 0, none⟩)), (4, .pointer (some ⟨b4, 0, none⟩)), (7, .bool true), (8, .pointer (some ⟨b8, 0, none⟩)), (9, .pointer (some ⟨b9, 0, none⟩)), (10, .int .i64 (if m1 then 62 else if m2 then 61 else 0 : Int))] ∧ St [] w0 I0 I w [.cel b9 31 [.bool m1, .int .i64 (if m2 then q2 else q).in_, .int .i64 (if m2 then q2 else q).out, .slice aq mq cq], .cel b8 31 [.bool p.lifted, .int .i64 p.in_, .int .i64 p.out, .slice a20 m20 c20], .cel b4 49 [.bool m0, .bool m1, .bool m2], .cel b3 48 [.int .u8 r, .slice ad l.length cap, .int .u8 s, .slice bd lb.length capb]]) ?_ ?_
    ·
      refine wp_seq ?_
      refine reg ?_
      refine qq hS (g_indexArr (o' := 1) Try.underlying49 Try.sizeOf4 rfl rfl (by decide) (by decide) rfl) ?_
      refine qq hS (g_ldO1 2 Try.isAgg4 rfl rfl rfl) ?_
      refine ol_nil (thenN ?_)
      refine cond_s rfl ?_ ?_
      ·
        intro hc35
        subst hc35
        refine wp_seq ?_
        refine reg ?_
        refine qq hS (g_fieldAddr (o' := 0) Try.underlying31 rfl Try.sizeOf4 rfl rfl rfl) ?_
        refine qe (d_store 0 hS Try.sizeOf4 rfl rfl rfl (vs := [.bool _]) rfl rfl rfl (Nat.le_of_ble_eq_true rfl) (cs' := [_, _, _, _]) rfl) ?_
        clear hS
        rintro _ w_12 ⟨rfl, hS⟩
        refine ol_nil (thenN ?_)
        refine reg ?_
        refine qq hS (g_assignv (v := .int .i64 _) rfl) ?_
        refine ol_nil (thenN ?_)
        exact ⟨_, rfl, ⟨rfl, rfl, rfl, rfl, rfl, rfl, rfl, trivial⟩, hS.sel [true, true, true, true]⟩
      ·
        intro hc35
        subst hc35
        refine wp_skip ?_
        refine thenN ?_
        exact ⟨_, rfl, ⟨rfl, rfl, rfl, rfl, rfl, rfl, rfl, trivial⟩, hS.sel [true, true, true, true]⟩
    ·
      rintro σ w ⟨hs, hS⟩
      rw [← upds_self hs]
      refine meet (fun σ w => okS σ [(2, .int .i8 n), (3, .pointer (some ⟨b3, 0, none⟩)), (4, .pointer (some ⟨b4, 0, none⟩)), (7, .bool true), (8, .pointer (some ⟨b8, 0, none⟩)), (9, .pointer (some ⟨b9, 0, none⟩)), (10, .int .i64 (if m0 then 60 else if m1 then 62 else if m2 then 61 else 0 : Int))] ∧ St [] w0 I0 I w [.cel b9 31 [.bool m1, .int .i64 (if m2 then q2 else q).in_, .int .i64 (if m2 then q2 else q).out, .slice aq mq cq], .cel b8 31 [.bool p.lifted, .int .i64 p.in_, .int .i64 (if m0 then p.out + 1 else p.out), .slice a20 m20 c20], .cel b4 49 [.bool m0, .bool m1, .bool m2], .cel b3 48 [.int .u8 r, .slice ad l.length cap, .int .u8 s, .slice bd lb.length capb]]) ?_ ?_
      ·
        refine wp_seq ?_
        refine reg ?_
        refine qq hS (g_indexArr (o' := 0) Try.underlying49 Try.sizeOf4 rfl rfl (by decide) (by decide) rfl) ?_
        refine qq hS (g_ldO1 2 Try.isAgg4 rfl rfl rfl) ?_
        refine ol_nil (thenN ?_)
        refine cond_s rfl ?_ ?_
        ·
          intro hc38
          subst hc38
          refine wp_seq ?_
          refine reg ?_
          refine qq hS (g_fieldAddr (o' := 2) Try.underlying31 rfl Try.sizeOf3 rfl rfl rfl) ?_
          refine qq hS (g_ldO1 1 Try.isAgg3 rfl rfl rfl) ?_
          refine qq hS (g_add rfl rfl (by omega) (by omega)) ?_
          refine qq hS (g_fieldAddr (o' := 2) Try.underlying31 rfl Try.sizeOf3 rfl rfl rfl) ?_
          refine qe (d_store 1 hS Try.sizeOf3 rfl rfl rfl (vs := [.int .i64 _]) rfl rfl rfl (Nat.le_of_ble_eq_true rfl) (cs' := [_, _, _, _]) rfl) ?_
          clear hS
          rintro _ w_13 ⟨rfl, hS⟩
          refine ol_nil (thenN ?_)
          refine reg ?_
          refine qq hS (g_assignv (v := .int .i64 _) rfl) ?_
          refine ol_nil (thenN ?_)
          exact ⟨_, rfl, ⟨rfl, rfl, rfl, rfl, rfl, rfl, rfl, trivial⟩, hS.sel [true, true, true, true]⟩
        ·
          intro hc38
          subst hc38
          refine wp_skip ?_
          refine thenN ?_
          exact ⟨_, rfl, ⟨rfl, rfl, rfl, rfl, rfl, rfl, rfl, trivial⟩, hS.sel [true, true, true, true]⟩
      ·
        rintro σ w ⟨hs, hS⟩
        rw [← upds_self hs]
        refine wp_seq ?_
        refine reg ?_
        refine qq hS (g_ldO 1 (vs := [.bool _, .int .i64 _, .int .i64 _, .slice _ _ _]) Try.sizeOf31 Try.isAgg31 rfl rfl rfl rfl) ?_
        refine qq hS (g_ldO 0 (vs := [.bool _, .int .i64 _, .int .i64 _, .slice _ _ _]) Try.sizeOf31 Try.isAgg31 rfl rfl rfl rfl) ?_
        refine qe (d_call Try.call17 rfl (compose_E (outM m0 p) (lift m1 (if m2 then q2 else q)) C _ _ _ _ _ _ _ _ hS.imm h20 hPw hQo hQw hC)) ?_
        rintro _ w_14 ⟨I_f, a46, m46, c46, rfl, hE, h46⟩
        replace hS := hS.callE hE
        replace hQo := hQo.mono hE.ext
        replace h20 := h20.mono hE.ext
        refine qq hS (g_move _) ?_
        refine qq hS (g_extract rfl rfl) ?_
        refine qq hS (g_extract (v := .int .i64 _) rfl rfl) ?_
        refine qe (d_alloc (cs := [.bool _, .int .i64 _, .int .i64 _, .slice _ _ _]) hS Try.zeroValue31 rfl) ?_
        clear hS
        rintro _ w_15 ⟨b11, rfl, hS⟩
        refine qe (d_store 0 hS Try.sizeOf31 rfl rfl rfl (vs := [.bool _, .int .i64 _, .int .i64 _, .slice _ _ _]) rfl rfl rfl (Nat.le_of_ble_eq_true rfl) (cs' := [_, _, _, _]) rfl) ?_
        clear hS
        rintro _ w_16 ⟨rfl, hS⟩
        refine qq hS (g_assignv (v := .int .i64 _) rfl) ?_
        refine ol_nil (thenN ?_)
        refine wp_seq ?_
        refine reg ?_
        refine qq hS (g_ldO 2 (vs := [.bool _, .int .i64 _, .int .i64 _, .slice _ _ _]) Try.sizeOf31 Try.isAgg31 rfl rfl rfl rfl) ?_
        refine qq hS (g_ldO 1 (vs := [.bool _, .int .i64 _, .int .i64 _, .slice _ _ _]) Try.sizeOf31 Try.isAgg31 rfl rfl rfl rfl) ?_
        refine qe (d_lit (vs := [.agg #[.bool _, .int .i64 _, .int .i64 _, .slice _ _ _], .agg #[.bool _, .int .i64 _, .int .i64 _, .slice _ _ _]]) (cs := [.bool _, .int .i64 _, .int .i64 _, .slice _ _ _, .bool _, .int .i64 _, .int .i64 _, .slice _ _ _]) hS Try.underlying27 Try.sizeOf31 Try.zeroValue31 rfl rfl rfl rfl (fun v hv => by simp only [List.mem_cons, List.not_mem_nil, or_false] at hv; rcases hv with rfl | rfl <;> rfl) rfl) ?_
        clear hS
        rintro _ w_17 ⟨b52, rfl, hS⟩
        have hF := hS.freeze1
        clear hS
        obtain ⟨I52, hS, hI52, hb52⟩ := hF
        replace hQo := hQo.mono hI52
        replace h20 := h20.mono hI52
        replace h46 := h46.mono hI52
        have h52 : RPats _ (.slice (some ⟨b52, 0, none⟩) 2 2) [(outM m0 p), (lift m1 (if m2 then q2 else q))] := RSl.ofAt (css := [[.bool p.lifted, .int .i64 p.in_, .int .i64 (if m0 then p.out + 1 else p.out), .slice a20 m20 c20], [.bool m1, .int .i64 (if m2 then q2 else q).in_, .int .i64 (if m2 then q2 else q).out, .slice aq mq cq]]) hb52 rfl (by simp) (All2.two ⟨_, _, _, rfl, h20⟩ ⟨_, _, _, rfl, hQo⟩) rfl (by show 2 ≤ maxLen; decide)
        refine qe (d_call Try.call14 rfl (all_E _ _ _ [(outM m0 p), (lift m1 (if m2 then q2 else q))] D _ _ hS.imm h52 rfl (by intro x hx; simp only [List.mem_cons, List.not_mem_nil, or_false] at hx; rcases hx with rfl | rfl; exact hPw; exact hQw) (by simp) hD)) ?_
        rintro _ w_18 ⟨I_f, a53, m53, c53, rfl, hE, h53⟩
        replace hS := hS.callE hE
        replace hQo := hQo.mono hE.ext
        replace h20 := h20.mono hE.ext
        replace h46 := h46.mono hE.ext
        replace h52 := h52.mono hE.ext
        refine qq hS (g_move _) ?_
        refine qq hS (g_extract rfl rfl) ?_
        refine qq hS (g_extract (v := .int .i64 _) rfl rfl) ?_
        refine qe (d_alloc (cs := [.bool _, .int .i64 _, .int .i64 _, .slice _ _ _]) hS Try.zeroValue31 rfl) ?_
        clear hS
        rintro _ w_19 ⟨b13, rfl, hS⟩
        refine qe (d_store 0 hS Try.sizeOf31 rfl rfl rfl (vs := [.bool _, .int .i64 _, .int .i64 _, .slice _ _ _]) rfl rfl rfl (Nat.le_of_ble_eq_true rfl) (cs' := [_, _, _, _]) rfl) ?_
        clear hS
        rintro _ w_20 ⟨rfl, hS⟩
        refine qq hS (g_assignv (v := .int .i64 _) rfl) ?_
        refine ol_nil (thenN ?_)
        refine wp_seq ?_
        refine reg ?_
        refine qe (i_make hS Try.underlying37 info54 rfl rfl (by omega) (by omega) (by omega) (by omega)) ?_
        clear hS
        rintro _ w_21 ⟨b57, rfl, hS⟩
        have hF := hS.freeze1
        clear hS
        obtain ⟨I57, hS, hI57, hb57⟩ := hF
        replace hQo := hQo.mono hI57
        replace h20 := h20.mono hI57
        replace h46 := h46.mono hI57
        replace h52 := h52.mono hI57
        replace h53 := h53.mono hI57
        have h57 : RSyms _ (.slice (some ⟨b57, 0, none⟩) 9 9) zeros := RFl.ofAt symC_len zeros hb57 (madeCells_flat symC_len (by decide) 9 z0) (by decide)
        refine qq hS (g_buildv (pl := [(0, 1), (1, 1), (2, 1)]) (cs := [.bool _, .int .i64 _, .int .u8 _]) Try.zeroValue54 Try.underlying54 (fun w => by simp [Try.sizeOf3, Try.sizeOf4, Try.sizeOf5]) (mp (v := .int .u8 _) rfl mp0) rfl) ?_
        refine qq hS (g_movev (v := .int .i8 _) rfl) ?_
        refine qq hS (g_convi Try.underlying50 Try.underlying3 rfl (by omega) (by omega)) ?_
        refine qq hS (g_buildv (pl := [(0, 1), (1, 1), (2, 1)]) (cs := [.bool _, .int .i64 _, .int .u8 _]) Try.zeroValue54 Try.underlying54 (fun w => by simp [Try.sizeOf3, Try.sizeOf4, Try.sizeOf5]) (mp (v := .bool _) rfl (mp (v := .int .i64 _) rfl mp0)) rfl) ?_
        refine qe (d_lit (vs := [.agg #[.bool _, .int .i64 _, .int .u8 _], .agg #[.bool _, .int .i64 _, .int .u8 _]]) (cs := [.bool _, .int .i64 _, .int .u8 _, .bool _, .int .i64 _, .int .u8 _]) hS Try.underlying37 Try.sizeOf54 Try.zeroValue54 rfl rfl rfl rfl (fun v hv => by simp only [List.mem_cons, List.not_mem_nil, or_false] at hv; rcases hv with rfl | rfl <;> rfl) rfl) ?_
        clear hS
        rintro _ w_22 ⟨b62, rfl, hS⟩
        have hF := hS.freeze1
        clear hS
        obtain ⟨I62, hS, hI62, hb62⟩ := hF
        replace hQo := hQo.mono hI62
        replace h20 := h20.mono hI62
        replace h46 := h46.mono hI62
        replace h52 := h52.mono hI62
        replace h53 := h53.mono hI62
        replace h57 := h57.mono hI62
        have h62 : RSyms _ (.slice (some ⟨b62, 0, none⟩) 2 2) [⟨false, 0, 1⟩, ⟨true, n, 0⟩] := RFl.ofAt symC_len [⟨false, 0, 1⟩, ⟨true, n, 0⟩] hb62 rfl (by show 2 ≤ maxLen; decide)
        refine qe (d_call Try.call20 rfl (through_E _ _ _ _ _ _ zeros [⟨false, 0, 1⟩, ⟨true, n, 0⟩] T _ _ hS.imm h57 rfl h62 rfl (by intro x hx; simp only [List.mem_cons, List.not_mem_nil, or_false] at hx; rcases hx with rfl | rfl <;> exact ⟨by dsimp only; omega, by dsimp only; omega, by dsimp only; omega, by dsimp only; omega⟩) (by simp) hT)) ?_
        rintro _ w_23 ⟨I_f, a63, c63, rfl, hE, h63⟩
        replace hS := hS.callE hE
        replace hQo := hQo.mono hE.ext
        replace h20 := h20.mono hE.ext
        replace h46 := h46.mono hE.ext
        replace h52 := h52.mono hE.ext
        replace h53 := h53.mono hE.ext
        replace h57 := h57.mono hE.ext
        replace h62 := h62.mono hE.ext
        refine qq hS (g_move _) ?_
        refine qq hS (g_extract rfl rfl) ?_
        refine qq hS (g_extract (v := .int .i64 _) rfl rfl) ?_
        refine qq hS (g_assign _) ?_
        refine qq hS (g_assignv (v := .int .i64 _) rfl) ?_
        refine ol_nil (thenN ?_)
        refine wp_seq ?_
        refine reg ?_
        refine qq hS (g_movev (v := .int .i64 _) rfl) ?_
        refine qq hS (g_movev (v := .int .i64 _) rfl) ?_
        refine qq hS (g_eqT rfl rfl hcw) ?_
        refine qq hS (g_movev (v := .bool _) rfl) ?_
        refine qqs rfl rfl hS (g_movev (v := .int .i64 _) rfl) ?_
        refine qqs rfl rfl hS (g_movev (v := .int .i64 _) rfl) ?_
        refine qqs rfl rfl hS (g_eqT rfl rfl haw) ?_
        refine qq hS (g_and rfl rfl (fun _ => rfl)) ?_
        refine qq hS (g_movev (v := .bool _) rfl) ?_
        refine qqs rfl rfl hS (g_movev (v := .int .i64 _) rfl) ?_
        refine qqs rfl rfl hS (g_eql rfl rfl) ?_
        refine qqs rfl rfl hS (g_movev (v := .int .i8 _) rfl) ?_
        refine qqs rfl rfl hS (g_geq rfl rfl) ?_
        refine qqs rfl rfl hS (g_movev (v := .bool _) rfl) ?_
        refine qu rfl rfl hS (fun hg => (g_movev (v := .int .i8 _) rfl)) ?_
        intro u80 hu80 hn80
        refine qu rfl rfl hS (fun hg => (g_lss (hu80 hg) rfl)) ?_
        intro u81 hu81 hn81
        refine qqs rfl rfl hS (g_and rfl rfl (fun hq => hu81 hq)) ?_
        refine qqs rfl rfl hS (g_eqbT Try.underlying4 rfl rfl hT1) ?_
        refine qq hS (g_and rfl rfl (fun _ => rfl)) ?_
        refine qq hS (g_movev (v := .bool _) rfl) ?_
        refine qqs rfl rfl hS (g_movev (v := .int .i64 _) rfl) ?_
        refine qqs rfl rfl hS (g_eql rfl rfl) ?_
        refine qqs rfl rfl hS (g_movev (v := .bool _) rfl) ?_
        refine qu rfl rfl hS (fun hg => (g_movev (v := .int .i64 _) rfl)) ?_
        intro u89 hu89 hn89
        refine qu rfl rfl hS (fun hg => (g_eql (hu89 hg) rfl)) ?_
        intro u90 hu90 hn90
        refine qqs rfl rfl hS (g_cast (g_or rfl rfl (fun hq => hu90 hq)) (congrArg Value.bool hT2)) ?_
        refine qq hS (g_and rfl rfl (fun _ => rfl)) ?_
        refine qq hS (g_movev (v := .bool _) rfl) ?_
        refine qqs rfl rfl hS (g_movev (v := .bool _) rfl) ?_
        refine qq hS (g_and rfl rfl (fun _ => rfl)) ?_
        refine qq hS (g_assignv (v := .bool _) rfl) ?_
        refine ol_nil (thenN ?_)
        refine wp_ret ?_
        refine ret1 Try.results5 (rv_tmp (v := .bool _) rfl) ?_
        exact ⟨_, rfl, hS.nil⟩

end Go.Proofs.Ythningkgpanaoaa

