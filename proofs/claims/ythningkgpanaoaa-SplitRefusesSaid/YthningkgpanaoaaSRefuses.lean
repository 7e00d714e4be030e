/- inlaylaw12.SplitRefuses: its function answers true. Conditions: arguments are of their kinds. -/
import Derived.Test.YthningkgpanaoaaSLifted
namespace Go.Proofs.Ythningkgpanaoaa
open Go Go.RowKit Go.Inl
set_option linter.unusedSimpArgs false
set_option linter.unusedVariables false
theorem g_castS {P : Program} {ρ : Operand → Value} {S : World → Prop} {op : Op} {ty : TypeId} {v v' : Value} (h : Gives P ρ S op ty v) (e : v = v') : Gives P ρ S op ty v' := by subst e; exact h
def outS (m : Bool) (p : PatL) : PatL := ⟨p.lifted, p.in_, if m then p.out + 1 else p.out, p.ops⟩
def liftS (b : Bool) (p : PatL) : PatL := ⟨b, p.in_, p.out, p.ops⟩
theorem liftS_wf {b : Bool} {p : PatL} (h : p.wf) : (liftS b p).wf := ⟨h.in_, h.out, h.ops, h.len⟩
def halfO : OpL := ⟨3, 0, 32768, 0, []⟩
def halfP (n : Int) : PatL := ⟨false, n, 32768, [halfO]⟩
theorem half_ok {n : Int} (h : 0 ≤ n ∧ n ≤ 65536) : (checkP (halfP n)).2 = 0 := by
  unfold checkP
  rw [if_neg]
  · have e : (decide ((32768 : Int) < 1) || decide ((32768 : Int) < 32768) || !rightP halfO n) = false := by
      simp [rightP, halfO]
    show (checkGo n [halfO] 32768 0).2 = 0
    rw [checkGo_good e]
    rfl
  · have h1 : ¬ (if (32768 : Int) < n then (32768 : Int) else n) < 0 := by split <;> omega
    have h2 : ¬ (65536 : Int) < (if (32768 : Int) > n then 32768 else n) := by split <;> omega
    simp only [badP, halfP]
    simp only [Bool.or_eq_true, decide_eq_true_eq, List.length_singleton]
    intro hx
    rcases hx with (hx | hx) | hx
    · exact h1 (of_decide_eq_true hx)
    · exact h2 (of_decide_eq_true hx)
    · have := of_decide_eq_true hx
      revert this; decide
theorem half_wf {n : Int} (h : 0 ≤ n ∧ n ≤ 65536) : (halfP n).wf := by
  refine ⟨by unfold Mid; show _ ≤ n ∧ n ≤ _; omega, by show Mid 32768; unfold Mid; omega, ?_, by show ((1 : Nat) : Int) ≤ _; omega⟩
  intro x hx
  have : x = halfO := by simpa [halfP] using hx
  subst this
  exact ⟨by unfold Mid halfO; simp, by unfold Mid halfO; simp, by unfold Mid halfO; simp, by unfold halfO; simp, by unfold halfO; simp⟩
theorem three_mem {α : Type} {q : α → Prop} {a b c : α} (h1 : q a) (h2 : q b) (h3 : q c) : ∀ x ∈ [a, b, c], q x := by
  intro x hx
  simp only [List.mem_cons, List.not_mem_nil, or_false] at hx
  rcases hx with rfl | rfl | rfl
  · exact h1
  · exact h2
  · exact h3
theorem half_join {p : PatL} (hp : (checkP p).2 = 0) (hf : p.lifted = false) (ho : 0 < p.out) (hn : 0 ≤ p.in_ ∧ p.in_ ≤ 65536) : joinP [halfP p.in_, halfP p.in_, p] = (PatL.zero, 61) := by
  rw [join_good (by simp) (three_mem (half_ok hn) (half_ok hn) hp)]
  rw [if_neg (by rw [all_eq (three_mem (by rfl) (by rfl) (by rw [hf]; rfl))]; decide), if_pos]
  have : sumO [halfP p.in_, halfP p.in_, p] = 65536 + p.out := by simp [sumO, halfP]; omega
  rw [this]
  simp; omega
theorem join_three_err {A B C : PatL} (m1 m2 : Bool) (hA : (checkP A).2 = 0) (hB : (checkP B).2 = 0) (hC : (checkP C).2 = 0) (lA : A.lifted = false) (lB : B.lifted = m1) (lC : C.lifted = false) (iB : B.in_ = A.in_) (iC : C.in_ = if m2 then A.in_ + 1 else A.in_)
    (hs : A.out + B.out + C.out ≤ 4096) : (joinP [A, B, C]).2 = if m1 then 62 else if m2 then 61 else 0 := by
  cases m1 with
  | true => rw [joinP_kind (by simp) (three_mem hA hB hC) (q := B) (by simp) (by rw [lB]; simp [firstP, lA])]; rfl
  | false =>
    cases m2 with
    | true =>
      rw [join_good (by simp) (three_mem hA hB hC), if_neg (by rw [all_eq (three_mem (by simp [firstP]) (by rw [lB]; simp [firstP, lA]) (by rw [lC]; simp [firstP, lA]))]; decide), if_pos]
      · rfl
      · simp only [firstP, List.headD_cons, List.any_cons, List.any_nil, iB, iC, if_true]
        simp
        omega
    | false =>
      rw [joinP_ok (b := false) (n := A.in_) (by simp) (three_mem hA hB hC) (three_mem lA lB lC) (three_mem rfl iB (by rw [iC]; rfl)) (by simp [sumO]; omega)]
      rfl
theorem srefuses_plain {p q r0 q2 : PatL} (m0 m1 m2 : Bool) (hp : (checkP p).2 = 0) (lp : p.lifted = false) (op : p.out ≤ 30) (hq : (checkP q).2 = 0) (iq : q.in_ = p.in_) (oq : q.out ≤ 30)
    (hr : (checkP r0).2 = 0) (lr : r0.lifted = false) (ir : r0.in_ = p.in_) (or_ : r0.out ≤ 30) (hr2 : (checkP q2).2 = 0) (lr2 : q2.lifted = false) (ir2 : q2.in_ = p.in_ + 1) (or2 : q2.out ≤ 30) :
    (joinP [p, liftS m1 q, outS m0 (if m2 then q2 else r0)]).2 = (if m0 then 60 else if m1 then 62 else if m2 then 61 else 0) ∧ (sectorsP (outS m0 (if m2 then q2 else r0)) 0).2 = (if m0 then 60 else 1) := by
  have hR : (checkP (if m2 then q2 else r0)).2 = 0 ∧ (if m2 then q2 else r0).lifted = false ∧ (if m2 then q2 else r0).out ≤ 30 ∧ (if m2 then q2 else r0).in_ = (if m2 then p.in_ + 1 else p.in_) := by cases m2 <;> simp [*]
  generalize (if m2 then q2 else r0) = R at hR ⊢
  obtain ⟨h1, h2, h3, h4⟩ := hR
  cases m0 with
  | true =>
    have hc : (checkP (outS true R)).2 = 60 := by
      rcases checkP_60 (outS true R) with h | h
      · exact h
      · have k1 := (checkP_ok h).2.1
        have k2 := (checkP_ok h1).2.1
        have k3 : (outS true R).out = R.out + 1 := rfl
        have k4 : (outS true R).ops = R.ops := rfl
        rw [k3, k4] at k1; omega
    have hs : (symbolsP (outS true R)).2 = 60 := by unfold symbolsP; rw [if_neg (by rw [hc]; decide)]; exact hc
    refine ⟨?_, ?_⟩
    · rw [join_bad (p := outS true R) (by simp) (by rw [hs]; decide), hs]; rfl
    · have : plainP (outS true R) = 60 := by unfold plainP; rw [if_pos (by rw [hc]; decide), hc]
      unfold sectorsP; rw [this]; rfl
  | false =>
    have e : outS false R = R := by cases R; rfl
    rw [e]
    refine ⟨?_, ?_⟩
    · exact join_three_err m1 m2 hp (B := liftS m1 q) hq h1 lp rfl h2 iq h4 (by show p.out + q.out + R.out ≤ 4096; omega)
    · have : plainP R = 0 := by unfold plainP; rw [if_neg (by rw [h1]; decide), h2]; rfl
      unfold sectorsP; rw [this]; rfl
theorem sectors_err {p : PatL} {n : Int} (hp : (checkP p).2 = 0) (lp : p.lifted = false) (A : List PatL × Int) (h : sectorsP p n = A) : decide (A.2 = 0) = (decide (1 ≤ n) && decide (n ≤ 4096)) ∧ ((decide (1 ≤ n) && decide (n ≤ 4096)) || decide (A.2 = 1)) = true := by
  subst h
  have : plainP p = 0 := by unfold plainP; rw [if_neg (by rw [hp]; decide), lp]; rfl
  unfold sectorsP
  rw [this]
  by_cases h1 : n < 1
  · rw [decide_eq_true h1]; simp; omega
  · by_cases h2 : 4096 < n
    · rw [decide_eq_true h2, decide_eq_false h1]; simp; omega
    · rw [decide_eq_false h2, decide_eq_false h1]; simp; omega
theorem ors (m : Bool) (e : Int) (h : e = if m then 60 else 1) : decide (e = 60) = m ∧ (m || decide (e = 1)) = true := by
  subst h; cases m <;> simp

set_option maxRecDepth 20000 in
set_option maxHeartbeats 1000000 in
theorem srefuses_c (r s t n : Int) (ad bd cd : Option Addr) (cap capb capc : Nat) (l lb lc : List Q4) (m0 m1 m2 : Bool) (w0 : World) (I0 : Imm) (hI : Sat I0 w0) (hr : 0 ≤ r ∧ r ≤ 255) (h4 : RFl I0 4 q4C (.slice ad l.length cap) l) (hq : ∀ q ∈ l, q.wf) (h5 : RFl I0 4 q4C (.slice bd lb.length capb) lb) (hqb : ∀ q ∈ lb, q.wf) (h6 : RFl I0 4 q4C (.slice cd lc.length capc) lc) (hqc : ∀ q ∈ lc, q.wf) (hn : -32768 ≤ n ∧ n ≤ 32767) :
    Ctr Try.prog 11 [.agg #[.int .u8 r, .slice ad l.length cap, .int .u8 s, .slice bd lb.length capb, .int .u8 t, .slice cd lc.length capc], .agg #[.bool m0, .bool m1, .bool m2], .int .i16 n] w0 (fun v w' => ∃ I', v = .bool true ∧ Ext w0 I0 w' I') := by
  have hr13 : 0 ≤ r % 13 ∧ r % 13 ≤ 65536 := by omega
  have hpw := madeP_wf (size := r % 13) hq hr13
  obtain ⟨hpk, hpo, hpl⟩ := madeP_ok (size := r % 13) hq hr13
  have hpf : (madeP l (r % 13)).lifted = false := rfl
  have hpi : (madeP l (r % 13)).in_ = r % 13 := rfl
  obtain ⟨p, hp⟩ : ∃ p, madeP l (r % 13) = p := ⟨_, rfl⟩
  rw [hp] at hpw hpk hpo hpl hpf hpi
  have k5 : 0 ≤ p.in_ ∧ p.in_ ≤ 12 := by omega
  clear hpi
  have k6 : 0 ≤ p.in_ ∧ p.in_ ≤ 65536 := by omega
  have hpo0 := (checkP_ok hpk).2.2.2.2.1
  have hso : 0 ≤ p.in_ + 1 ∧ p.in_ + 1 ≤ 65536 := by omega
  have hqw := madeP_wf (size := p.in_) hqb k6
  obtain ⟨hqk, hqo, hql⟩ := madeP_ok (size := p.in_) hqb k6
  have hqi : (madeP lb p.in_).in_ = p.in_ := rfl
  have hqf : (madeP lb p.in_).lifted = false := rfl
  obtain ⟨q, hqe⟩ : ∃ q, madeP lb p.in_ = q := ⟨_, rfl⟩
  rw [hqe] at hqw hqk hqo hql hqi hqf
  have hrw := madeP_wf (size := p.in_) hqc k6
  obtain ⟨hrk, hro, hrl⟩ := madeP_ok (size := p.in_) hqc k6
  have hri : (madeP lc p.in_).in_ = p.in_ := rfl
  have hrf : (madeP lc p.in_).lifted = false := rfl
  obtain ⟨r0, hre⟩ : ∃ q, madeP lc p.in_ = q := ⟨_, rfl⟩
  rw [hre] at hrw hrk hro hrl hri hrf
  have hqw2 := madeP_wf (size := p.in_ + 1) hqc hso
  obtain ⟨hqk2, hqo2, hql2⟩ := madeP_ok (size := p.in_ + 1) hqc hso
  have hqi2 : (madeP lc (p.in_ + 1)).in_ = p.in_ + 1 := rfl
  have hqf2 : (madeP lc (p.in_ + 1)).lifted = false := rfl
  obtain ⟨q2, hqe2⟩ : ∃ q, madeP lc (p.in_ + 1) = q := ⟨_, rfl⟩
  rw [hqe2] at hqw2 hqk2 hqo2 hql2 hqi2 hqf2
  obtain ⟨hcw, hgw⟩ := srefuses_plain m0 m1 m2 hpk hpf hpo hqk hqi hqo hrk hrf hri hro hqk2 hqf2 hqi2 hqo2
  have hRo1 : -1 ≤ (if m2 then q2 else r0).out ∧ (if m2 then q2 else r0).out ≤ 30 := by
    have h1 := (checkP_ok hrk).2.2.2.2.1
    have h2 := (checkP_ok hqk2).2.2.2.2.1
    cases m2 <;> simp <;> omega
  have hRw0 : (if m2 then q2 else r0).wf := by cases m2; exact hrw; exact hqw2
  have hRw : (outS m0 (if m2 then q2 else r0)).wf := ⟨hRw0.in_, by show Mid (if m0 then _ else _); cases m0 <;> simp [Mid] <;> omega, hRw0.ops, hRw0.len⟩
  have hRo4 : (outS m0 (if m2 then q2 else r0)).out ≤ 4096 := by show (if m0 then _ else _) ≤ (4096 : Int); cases m0 <;> simp <;> omega
  obtain ⟨C, hC⟩ : ∃ C, joinP [p, liftS m1 q, outS m0 (if m2 then q2 else r0)] = C := ⟨_, rfl⟩
  rw [hC] at hcw
  obtain ⟨A, hA⟩ : ∃ A, sectorsP p n = A := ⟨_, rfl⟩
  obtain ⟨hT1, hT2⟩ := sectors_err hpk hpf A hA
  obtain ⟨B, hB⟩ : ∃ A, sectorsP (outS m0 (if m2 then q2 else r0)) 0 = A := ⟨_, rfl⟩
  rw [hB] at hgw
  obtain ⟨hG1, hG2⟩ := ors m0 B.2 hgw
  refine fn (n := 133) Try.func11 rfl rfl rfl ?_
  have hS := St.start hI
  refine wpIn_seq ?_
  refine reg ?_
  refine qe (d_box (cs := [.int .u8 _, .slice _ _ _, .int .u8 _, .slice _ _ _, .int .u8 _, .slice _ _ _]) hS rfl) ?_
  clear hS
  rintro _ w_1 ⟨b3, rfl, hS⟩
  refine qe (d_box (cs := [.bool _, .bool _, .bool _]) hS rfl) ?_
  clear hS
  rintro _ w_2 ⟨b4, rfl, hS⟩
  refine qq hS (g_assignv (v := .bool _) rfl) ?_
  refine ol_nil (thenN ?_)
  refine wpIn_seq ?_
  refine reg ?_
  refine qe (d_call Try.call34 rfl (sanity12_c _ _ hS.imm)) ?_
  rintro _ w_3 ⟨I_f, rfl, hE⟩
  replace hS := hS.callE hE
  replace h4 := h4.mono hE.ext
  replace h5 := h5.mono hE.ext
  replace h6 := h6.mono hE.ext
  refine qq hS (g_assignv (v := .bool _) rfl) ?_
  refine ol_nil (thenN ?_)
  refine wpIn_seq ?_
  refine reg ?_
  refine qq hS (g_indexArr (o' := 0) Try.underlying78 Try.sizeOf47 rfl rfl (by decide) (by decide) rfl) ?_
  refine qq hS (g_ldO 1 (vs := [.int .u8 _, .slice _ _ _]) Try.sizeOf47 Try.isAgg47 rfl rfl rfl rfl) ?_
  refine qe (d_call Try.call24 rfl (made_t r ad cap l p _ _ hS.imm h4 hq hr hp)) ?_
  rintro _ w_4 ⟨I_f, a24, m24, c24, rfl, hE, h24⟩
  replace hS := hS.callE hE
  replace h4 := h4.mono hE.ext
  replace h5 := h5.mono hE.ext
  replace h6 := h6.mono hE.ext
  refine qe (d_alloc (cs := [.bool _, .int .i64 _, .int .i64 _, .slice _ _ _]) hS Try.zeroValue31 rfl) ?_
  clear hS
  rintro _ w_5 ⟨b8, rfl, hS⟩
  refine qe (d_store 0 hS Try.sizeOf31 rfl rfl rfl (vs := [.bool _, .int .i64 _, .int .i64 _, .slice _ _ _]) rfl rfl rfl (Nat.le_of_ble_eq_true rfl) (cs' := [_, _, _, _]) rfl) ?_
  clear hS
  rintro _ w_6 ⟨rfl, hS⟩
  refine ol_nil (thenN ?_)
  refine meet (fun σ w => ∃ I b9 b10 a29 m29 c29 a34 m34 c34, okS σ [(2, .int .i16 n), (3, .pointer (some ⟨b3, 0, none⟩)), (4, .pointer (some ⟨b4, 0, none⟩)), (7, .bool true), (8, .pointer (some ⟨b8, 0, none⟩)), (9, .pointer (some ⟨b9, 0, none⟩)), (10, .pointer (some ⟨b10, 0, none⟩))] ∧ St [] w0 I0 I w [.cel b10 31 [.bool r0.lifted, .int .i64 r0.in_, .int .i64 r0.out, .slice a34 m34 c34], .cel b9 31 [.bool q.lifted, .int .i64 q.in_, .int .i64 q.out, .slice a29 m29 c29], .cel b8 31 [.bool p.lifted, .int .i64 p.in_, .int .i64 p.out, .slice a24 m24 c24], .cel b4 49 [.bool m0, .bool m1, .bool m2], .cel b3 78 [.int .u8 r, .slice ad l.length cap, .int .u8 s, .slice bd lb.length capb, .int .u8 t, .slice cd lc.length capc]] ∧ RFl I 4 q4C (.slice cd lc.length capc) lc ∧ ROps I (.slice a34 m34 c34) r0.ops ∧ ROps I (.slice a29 m29 c29) q.ops ∧ ROps I (.slice a24 m24 c24) p.ops) ?_ ?_
  ·
    refine draw (.cons 0 .pure (.cons 1 .held (.cons 2 .pure (.cons 3 .held (.cons 5 .pure (.cons 6 .held (.cons 7 .pure (.cons 8 .held (.fork3 4 (.fork3 9 (.fork 10 (.cons 11 .eff (.cons 12 .bar (.cons 13 .bar .nil))) 11 (.cons 10 .eff (.cons 12 .bar (.cons 13 .bar .nil)))) 10 (.fork 9 (.cons 11 .eff (.cons 12 .bar (.cons 13 .bar .nil))) 11 (.cons 9 .eff (.cons 12 .bar (.cons 13 .bar .nil)))) 11 (.fork 9 (.cons 10 .eff (.cons 12 .bar (.cons 13 .bar .nil))) 10 (.cons 9 .eff (.cons 12 .bar (.cons 13 .bar .nil))))) 10 (.fork 4 (.fork 9 (.cons 11 .eff (.cons 12 .bar (.cons 13 .bar .nil))) 11 (.cons 9 .eff (.cons 12 .bar (.cons 13 .bar .nil)))) 11 (.cons 4 .eff (.cons 9 .eff (.cons 12 .bar (.cons 13 .bar .nil))))) 11 (.fork 4 (.fork 9 (.cons 10 .eff (.cons 12 .bar (.cons 13 .bar .nil))) 10 (.cons 9 .eff (.cons 12 .bar (.cons 13 .bar .nil)))) 10 (.cons 4 .eff (.cons 9 .eff (.cons 12 .bar (.cons 13 .bar .nil)))))))))))))) mixed (by kernel_rfl) hS ?_
    intro w_7 hS
    refine sp rfl (g_indexArr (o' := 2) Try.underlying78 Try.sizeOf47 rfl rfl (by decide) (by decide) rfl) ?_
    refine sh rfl (g_ldO 2 (vs := [.int .u8 _, .slice _ _ _]) Try.sizeOf47 Try.isAgg47 rfl rfl rfl rfl) ?_
    refine sp rfl (g_fieldAddr (o' := 1) Try.underlying31 rfl Try.sizeOf3 rfl rfl rfl) ?_
    refine sh rfl (g_ldO1 0 Try.isAgg3 rfl rfl rfl) ?_
    refine sp rfl (g_indexArr (o' := 4) Try.underlying78 Try.sizeOf47 rfl rfl (by decide) (by decide) rfl) ?_
    refine sh rfl (g_ldO 2 (vs := [.int .u8 _, .slice _ _ _]) Try.sizeOf47 Try.isAgg47 rfl rfl rfl rfl) ?_
    refine sp rfl (g_fieldAddr (o' := 1) Try.underlying31 rfl Try.sizeOf3 rfl rfl rfl) ?_
    refine sh rfl (g_ldO1 0 Try.isAgg3 rfl rfl rfl) ?_
    refine sk3 ?_ ?_ ?_
    ·
      have hS0 := hS
      refine se rfl (d_call Try.call25 rfl (sized_E s bd capb lb p.in_ q _ _ hS.imm h5 hqb k6 hqe)) ?_
      rintro _ w_8 ⟨I_f, a29, m29, c29, rfl, hE, h29⟩
      replace hS := hS.call hE
      replace h4 := h4.mono hE.ext
      replace h5 := h5.mono hE.ext
      replace h6 := h6.mono hE.ext
      replace h24 := h24.mono hE.ext
      refine ⟨_, _, hS0.le hE.ext (List.Sublist.refl _), hS, ?_⟩
      refine sk3 ?_ ?_ ?_
      ·
        have hS0 := hS
        refine se rfl (d_call Try.call25 rfl (sized_E t cd capc lc p.in_ r0 _ _ hS.imm h6 hqc k6 hre)) ?_
        rintro _ w_9 ⟨I_f, a34, m34, c34, rfl, hE, h34⟩
        replace hS := hS.call hE
        replace h4 := h4.mono hE.ext
        replace h5 := h5.mono hE.ext
        replace h6 := h6.mono hE.ext
        replace h24 := h24.mono hE.ext
        replace h29 := h29.mono hE.ext
        refine ⟨_, _, hS0.le hE.ext (List.Sublist.refl _), hS, ?_⟩
        refine sk ?_ ?_
        ·
          have hS0 := hS
          refine se rfl (d_alloc (cs := [.bool _, .int .i64 _, .int .i64 _, .slice _ _ _]) hS Try.zeroValue31 rfl) ?_
          rintro _ w_10 ⟨b9, rfl, hS⟩
          refine ⟨_, _, hS0.le (Sub.refl _) (List.sublist_cons_self _ _), hS, ?_⟩
          have hS0 := hS
          refine se rfl (d_alloc (cs := [.bool _, .int .i64 _, .int .i64 _, .slice _ _ _]) hS Try.zeroValue31 rfl) ?_
          rintro _ w_11 ⟨b10, rfl, hS⟩
          refine ⟨_, _, hS0.le (Sub.refl _) (List.sublist_cons_self _ _), hS, ?_⟩
          refine sb rfl (d_store 1 hS Try.sizeOf31 rfl rfl rfl (vs := [.bool _, .int .i64 _, .int .i64 _, .slice _ _ _]) rfl rfl rfl (Nat.le_of_ble_eq_true rfl) (cs' := [_, _, _, _]) rfl) ?_
          rintro _ w_12 ⟨rfl, hS⟩
          refine ⟨_, _, hS, ?_⟩
          refine sb rfl (d_store 0 hS Try.sizeOf31 rfl rfl rfl (vs := [.bool _, .int .i64 _, .int .i64 _, .slice _ _ _]) rfl rfl rfl (Nat.le_of_ble_eq_true rfl) (cs' := [_, _, _, _]) rfl) ?_
          rintro _ w_13 ⟨rfl, hS⟩
          refine ⟨_, _, hS, ?_⟩
          refine sn (thenN ?_)
          exact ⟨_, rfl, _, _, _, _, _, _, _, _, _, ⟨rfl, rfl, rfl, rfl, rfl, rfl, rfl, trivial⟩, hS, h6, h34, h29, h24⟩
        ·
          have hS0 := hS
          refine se rfl (d_alloc (cs := [.bool _, .int .i64 _, .int .i64 _, .slice _ _ _]) hS Try.zeroValue31 rfl) ?_
          rintro _ w_14 ⟨b10, rfl, hS⟩
          refine ⟨_, _, hS0.le (Sub.refl _) (List.sublist_cons_self _ _), hS, ?_⟩
          have hS0 := hS
          refine se rfl (d_alloc (cs := [.bool _, .int .i64 _, .int .i64 _, .slice _ _ _]) hS Try.zeroValue31 rfl) ?_
          rintro _ w_15 ⟨b9, rfl, hS⟩
          refine ⟨_, _, hS0.le (Sub.refl _) (List.sublist_cons_self _ _), hS, ?_⟩
          refine sb rfl (d_store 0 hS Try.sizeOf31 rfl rfl rfl (vs := [.bool _, .int .i64 _, .int .i64 _, .slice _ _ _]) rfl rfl rfl (Nat.le_of_ble_eq_true rfl) (cs' := [_, _, _, _]) rfl) ?_
          rintro _ w_16 ⟨rfl, hS⟩
          refine ⟨_, _, hS, ?_⟩
          refine sb rfl (d_store 1 hS Try.sizeOf31 rfl rfl rfl (vs := [.bool _, .int .i64 _, .int .i64 _, .slice _ _ _]) rfl rfl rfl (Nat.le_of_ble_eq_true rfl) (cs' := [_, _, _, _]) rfl) ?_
          rintro _ w_17 ⟨rfl, hS⟩
          refine ⟨_, _, hS, ?_⟩
          refine sn (thenN ?_)
          exact ⟨_, rfl, _, _, _, _, _, _, _, _, _, ⟨rfl, rfl, rfl, rfl, rfl, rfl, rfl, trivial⟩, (hS.ord [1, 0, 2, 3, 4]), h6, h34, h29, h24⟩
      ·
        have hS0 := hS
        refine se rfl (d_alloc (cs := [.bool _, .int .i64 _, .int .i64 _, .slice _ _ _]) hS Try.zeroValue31 rfl) ?_
        rintro _ w_18 ⟨b9, rfl, hS⟩
        refine ⟨_, _, hS0.le (Sub.refl _) (List.sublist_cons_self _ _), hS, ?_⟩
        refine sk ?_ ?_
        ·
          have hS0 := hS
          refine se rfl (d_call Try.call25 rfl (sized_E t cd capc lc p.in_ r0 _ _ hS.imm h6 hqc k6 hre)) ?_
          rintro _ w_19 ⟨I_f, a34, m34, c34, rfl, hE, h34⟩
          replace hS := hS.call hE
          replace h4 := h4.mono hE.ext
          replace h5 := h5.mono hE.ext
          replace h6 := h6.mono hE.ext
          replace h24 := h24.mono hE.ext
          replace h29 := h29.mono hE.ext
          refine ⟨_, _, hS0.le hE.ext (List.Sublist.refl _), hS, ?_⟩
          have hS0 := hS
          refine se rfl (d_alloc (cs := [.bool _, .int .i64 _, .int .i64 _, .slice _ _ _]) hS Try.zeroValue31 rfl) ?_
          rintro _ w_20 ⟨b10, rfl, hS⟩
          refine ⟨_, _, hS0.le (Sub.refl _) (List.sublist_cons_self _ _), hS, ?_⟩
          refine sb rfl (d_store 1 hS Try.sizeOf31 rfl rfl rfl (vs := [.bool _, .int .i64 _, .int .i64 _, .slice _ _ _]) rfl rfl rfl (Nat.le_of_ble_eq_true rfl) (cs' := [_, _, _, _]) rfl) ?_
          rintro _ w_21 ⟨rfl, hS⟩
          refine ⟨_, _, hS, ?_⟩
          refine sb rfl (d_store 0 hS Try.sizeOf31 rfl rfl rfl (vs := [.bool _, .int .i64 _, .int .i64 _, .slice _ _ _]) rfl rfl rfl (Nat.le_of_ble_eq_true rfl) (cs' := [_, _, _, _]) rfl) ?_
          rintro _ w_22 ⟨rfl, hS⟩
          refine ⟨_, _, hS, ?_⟩
          refine sn (thenN ?_)
          exact ⟨_, rfl, _, _, _, _, _, _, _, _, _, ⟨rfl, rfl, rfl, rfl, rfl, rfl, rfl, trivial⟩, hS, h6, h34, h29, h24⟩
        ·
          have hS0 := hS
          refine se rfl (d_alloc (cs := [.bool _, .int .i64 _, .int .i64 _, .slice _ _ _]) hS Try.zeroValue31 rfl) ?_
          rintro _ w_23 ⟨b10, rfl, hS⟩
          refine ⟨_, _, hS0.le (Sub.refl _) (List.sublist_cons_self _ _), hS, ?_⟩
          have hS0 := hS
          refine se rfl (d_call Try.call25 rfl (sized_E t cd capc lc p.in_ r0 _ _ hS.imm h6 hqc k6 hre)) ?_
          rintro _ w_24 ⟨I_f, a34, m34, c34, rfl, hE, h34⟩
          replace hS := hS.call hE
          replace h4 := h4.mono hE.ext
          replace h5 := h5.mono hE.ext
          replace h6 := h6.mono hE.ext
          replace h24 := h24.mono hE.ext
          replace h29 := h29.mono hE.ext
          refine ⟨_, _, hS0.le hE.ext (List.Sublist.refl _), hS, ?_⟩
          refine sb rfl (d_store 1 hS Try.sizeOf31 rfl rfl rfl (vs := [.bool _, .int .i64 _, .int .i64 _, .slice _ _ _]) rfl rfl rfl (Nat.le_of_ble_eq_true rfl) (cs' := [_, _, _, _]) rfl) ?_
          rintro _ w_25 ⟨rfl, hS⟩
          refine ⟨_, _, hS, ?_⟩
          refine sb rfl (d_store 0 hS Try.sizeOf31 rfl rfl rfl (vs := [.bool _, .int .i64 _, .int .i64 _, .slice _ _ _]) rfl rfl rfl (Nat.le_of_ble_eq_true rfl) (cs' := [_, _, _, _]) rfl) ?_
          rintro _ w_26 ⟨rfl, hS⟩
          refine ⟨_, _, hS, ?_⟩
          refine sn (thenN ?_)
          exact ⟨_, rfl, _, _, _, _, _, _, _, _, _, ⟨rfl, rfl, rfl, rfl, rfl, rfl, rfl, trivial⟩, hS, h6, h34, h29, h24⟩
      ·
        have hS0 := hS
        refine se rfl (d_alloc (cs := [.bool _, .int .i64 _, .int .i64 _, .slice _ _ _]) hS Try.zeroValue31 rfl) ?_
        rintro _ w_27 ⟨b10, rfl, hS⟩
        refine ⟨_, _, hS0.le (Sub.refl _) (List.sublist_cons_self _ _), hS, ?_⟩
        refine sk ?_ ?_
        ·
          have hS0 := hS
          refine se rfl (d_call Try.call25 rfl (sized_E t cd capc lc p.in_ r0 _ _ hS.imm h6 hqc k6 hre)) ?_
          rintro _ w_28 ⟨I_f, a34, m34, c34, rfl, hE, h34⟩
          replace hS := hS.call hE
          replace h4 := h4.mono hE.ext
          replace h5 := h5.mono hE.ext
          replace h6 := h6.mono hE.ext
          replace h24 := h24.mono hE.ext
          replace h29 := h29.mono hE.ext
          refine ⟨_, _, hS0.le hE.ext (List.Sublist.refl _), hS, ?_⟩
          have hS0 := hS
          refine se rfl (d_alloc (cs := [.bool _, .int .i64 _, .int .i64 _, .slice _ _ _]) hS Try.zeroValue31 rfl) ?_
          rintro _ w_29 ⟨b9, rfl, hS⟩
          refine ⟨_, _, hS0.le (Sub.refl _) (List.sublist_cons_self _ _), hS, ?_⟩
          refine sb rfl (d_store 0 hS Try.sizeOf31 rfl rfl rfl (vs := [.bool _, .int .i64 _, .int .i64 _, .slice _ _ _]) rfl rfl rfl (Nat.le_of_ble_eq_true rfl) (cs' := [_, _, _, _]) rfl) ?_
          rintro _ w_30 ⟨rfl, hS⟩
          refine ⟨_, _, hS, ?_⟩
          refine sb rfl (d_store 1 hS Try.sizeOf31 rfl rfl rfl (vs := [.bool _, .int .i64 _, .int .i64 _, .slice _ _ _]) rfl rfl rfl (Nat.le_of_ble_eq_true rfl) (cs' := [_, _, _, _]) rfl) ?_
          rintro _ w_31 ⟨rfl, hS⟩
          refine ⟨_, _, hS, ?_⟩
          refine sn (thenN ?_)
          exact ⟨_, rfl, _, _, _, _, _, _, _, _, _, ⟨rfl, rfl, rfl, rfl, rfl, rfl, rfl, trivial⟩, (hS.ord [1, 0, 2, 3, 4]), h6, h34, h29, h24⟩
        ·
          have hS0 := hS
          refine se rfl (d_alloc (cs := [.bool _, .int .i64 _, .int .i64 _, .slice _ _ _]) hS Try.zeroValue31 rfl) ?_
          rintro _ w_32 ⟨b9, rfl, hS⟩
          refine ⟨_, _, hS0.le (Sub.refl _) (List.sublist_cons_self _ _), hS, ?_⟩
          have hS0 := hS
          refine se rfl (d_call Try.call25 rfl (sized_E t cd capc lc p.in_ r0 _ _ hS.imm h6 hqc k6 hre)) ?_
          rintro _ w_33 ⟨I_f, a34, m34, c34, rfl, hE, h34⟩
          replace hS := hS.call hE
          replace h4 := h4.mono hE.ext
          replace h5 := h5.mono hE.ext
          replace h6 := h6.mono hE.ext
          replace h24 := h24.mono hE.ext
          replace h29 := h29.mono hE.ext
          refine ⟨_, _, hS0.le hE.ext (List.Sublist.refl _), hS, ?_⟩
          refine sb rfl (d_store 0 hS Try.sizeOf31 rfl rfl rfl (vs := [.bool _, .int .i64 _, .int .i64 _, .slice _ _ _]) rfl rfl rfl (Nat.le_of_ble_eq_true rfl) (cs' := [_, _, _, _]) rfl) ?_
          rintro _ w_34 ⟨rfl, hS⟩
          refine ⟨_, _, hS, ?_⟩
          refine sb rfl (d_store 1 hS Try.sizeOf31 rfl rfl rfl (vs := [.bool _, .int .i64 _, .int .i64 _, .slice _ _ _]) rfl rfl rfl (Nat.le_of_ble_eq_true rfl) (cs' := [_, _, _, _]) rfl) ?_
          rintro _ w_35 ⟨rfl, hS⟩
          refine ⟨_, _, hS, ?_⟩
          refine sn (thenN ?_)
          exact ⟨_, rfl, _, _, _, _, _, _, _, _, _, ⟨rfl, rfl, rfl, rfl, rfl, rfl, rfl, trivial⟩, (hS.ord [1, 0, 2, 3, 4]), h6, h34, h29, h24⟩
    ·
      have hS0 := hS
      refine se rfl (d_alloc (cs := [.bool _, .int .i64 _, .int .i64 _, .slice _ _ _]) hS Try.zeroValue31 rfl) ?_
      rintro _ w_36 ⟨b9, rfl, hS⟩
      refine ⟨_, _, hS0.le (Sub.refl _) (List.sublist_cons_self _ _), hS, ?_⟩
      refine sk ?_ ?_
      ·
        have hS0 := hS
        refine se rfl (d_call Try.call25 rfl (sized_E s bd capb lb p.in_ q _ _ hS.imm h5 hqb k6 hqe)) ?_
        rintro _ w_37 ⟨I_f, a29, m29, c29, rfl, hE, h29⟩
        replace hS := hS.call hE
        replace h4 := h4.mono hE.ext
        replace h5 := h5.mono hE.ext
        replace h6 := h6.mono hE.ext
        replace h24 := h24.mono hE.ext
        refine ⟨_, _, hS0.le hE.ext (List.Sublist.refl _), hS, ?_⟩
        refine sk ?_ ?_
        ·
          have hS0 := hS
          refine se rfl (d_call Try.call25 rfl (sized_E t cd capc lc p.in_ r0 _ _ hS.imm h6 hqc k6 hre)) ?_
          rintro _ w_38 ⟨I_f, a34, m34, c34, rfl, hE, h34⟩
          replace hS := hS.call hE
          replace h4 := h4.mono hE.ext
          replace h5 := h5.mono hE.ext
          replace h6 := h6.mono hE.ext
          replace h24 := h24.mono hE.ext
          replace h29 := h29.mono hE.ext
          refine ⟨_, _, hS0.le hE.ext (List.Sublist.refl _), hS, ?_⟩
          have hS0 := hS
          refine se rfl (d_alloc (cs := [.bool _, .int .i64 _, .int .i64 _, .slice _ _ _]) hS Try.zeroValue31 rfl) ?_
          rintro _ w_39 ⟨b10, rfl, hS⟩
          refine ⟨_, _, hS0.le (Sub.refl _) (List.sublist_cons_self _ _), hS, ?_⟩
          refine sb rfl (d_store 1 hS Try.sizeOf31 rfl rfl rfl (vs := [.bool _, .int .i64 _, .int .i64 _, .slice _ _ _]) rfl rfl rfl (Nat.le_of_ble_eq_true rfl) (cs' := [_, _, _, _]) rfl) ?_
          rintro _ w_40 ⟨rfl, hS⟩
          refine ⟨_, _, hS, ?_⟩
          refine sb rfl (d_store 0 hS Try.sizeOf31 rfl rfl rfl (vs := [.bool _, .int .i64 _, .int .i64 _, .slice _ _ _]) rfl rfl rfl (Nat.le_of_ble_eq_true rfl) (cs' := [_, _, _, _]) rfl) ?_
          rintro _ w_41 ⟨rfl, hS⟩
          refine ⟨_, _, hS, ?_⟩
          refine sn (thenN ?_)
          exact ⟨_, rfl, _, _, _, _, _, _, _, _, _, ⟨rfl, rfl, rfl, rfl, rfl, rfl, rfl, trivial⟩, hS, h6, h34, h29, h24⟩
        ·
          have hS0 := hS
          refine se rfl (d_alloc (cs := [.bool _, .int .i64 _, .int .i64 _, .slice _ _ _]) hS Try.zeroValue31 rfl) ?_
          rintro _ w_42 ⟨b10, rfl, hS⟩
          refine ⟨_, _, hS0.le (Sub.refl _) (List.sublist_cons_self _ _), hS, ?_⟩
          have hS0 := hS
          refine se rfl (d_call Try.call25 rfl (sized_E t cd capc lc p.in_ r0 _ _ hS.imm h6 hqc k6 hre)) ?_
          rintro _ w_43 ⟨I_f, a34, m34, c34, rfl, hE, h34⟩
          replace hS := hS.call hE
          replace h4 := h4.mono hE.ext
          replace h5 := h5.mono hE.ext
          replace h6 := h6.mono hE.ext
          replace h24 := h24.mono hE.ext
          replace h29 := h29.mono hE.ext
          refine ⟨_, _, hS0.le hE.ext (List.Sublist.refl _), hS, ?_⟩
          refine sb rfl (d_store 1 hS Try.sizeOf31 rfl rfl rfl (vs := [.bool _, .int .i64 _, .int .i64 _, .slice _ _ _]) rfl rfl rfl (Nat.le_of_ble_eq_true rfl) (cs' := [_, _, _, _]) rfl) ?_
          rintro _ w_44 ⟨rfl, hS⟩
          refine ⟨_, _, hS, ?_⟩
          refine sb rfl (d_store 0 hS Try.sizeOf31 rfl rfl rfl (vs := [.bool _, .int .i64 _, .int .i64 _, .slice _ _ _]) rfl rfl rfl (Nat.le_of_ble_eq_true rfl) (cs' := [_, _, _, _]) rfl) ?_
          rintro _ w_45 ⟨rfl, hS⟩
          refine ⟨_, _, hS, ?_⟩
          refine sn (thenN ?_)
          exact ⟨_, rfl, _, _, _, _, _, _, _, _, _, ⟨rfl, rfl, rfl, rfl, rfl, rfl, rfl, trivial⟩, hS, h6, h34, h29, h24⟩
      ·
        have hS0 := hS
        refine se rfl (d_alloc (cs := [.bool _, .int .i64 _, .int .i64 _, .slice _ _ _]) hS Try.zeroValue31 rfl) ?_
        rintro _ w_46 ⟨b10, rfl, hS⟩
        refine ⟨_, _, hS0.le (Sub.refl _) (List.sublist_cons_self _ _), hS, ?_⟩
        have hS0 := hS
        refine se rfl (d_call Try.call25 rfl (sized_E s bd capb lb p.in_ q _ _ hS.imm h5 hqb k6 hqe)) ?_
        rintro _ w_47 ⟨I_f, a29, m29, c29, rfl, hE, h29⟩
        replace hS := hS.call hE
        replace h4 := h4.mono hE.ext
        replace h5 := h5.mono hE.ext
        replace h6 := h6.mono hE.ext
        replace h24 := h24.mono hE.ext
        refine ⟨_, _, hS0.le hE.ext (List.Sublist.refl _), hS, ?_⟩
        have hS0 := hS
        refine se rfl (d_call Try.call25 rfl (sized_E t cd capc lc p.in_ r0 _ _ hS.imm h6 hqc k6 hre)) ?_
        rintro _ w_48 ⟨I_f, a34, m34, c34, rfl, hE, h34⟩
        replace hS := hS.call hE
        replace h4 := h4.mono hE.ext
        replace h5 := h5.mono hE.ext
        replace h6 := h6.mono hE.ext
        replace h24 := h24.mono hE.ext
        replace h29 := h29.mono hE.ext
        refine ⟨_, _, hS0.le hE.ext (List.Sublist.refl _), hS, ?_⟩
        refine sb rfl (d_store 1 hS Try.sizeOf31 rfl rfl rfl (vs := [.bool _, .int .i64 _, .int .i64 _, .slice _ _ _]) rfl rfl rfl (Nat.le_of_ble_eq_true rfl) (cs' := [_, _, _, _]) rfl) ?_
        rintro _ w_49 ⟨rfl, hS⟩
        refine ⟨_, _, hS, ?_⟩
        refine sb rfl (d_store 0 hS Try.sizeOf31 rfl rfl rfl (vs := [.bool _, .int .i64 _, .int .i64 _, .slice _ _ _]) rfl rfl rfl (Nat.le_of_ble_eq_true rfl) (cs' := [_, _, _, _]) rfl) ?_
        rintro _ w_50 ⟨rfl, hS⟩
        refine ⟨_, _, hS, ?_⟩
        refine sn (thenN ?_)
        exact ⟨_, rfl, _, _, _, _, _, _, _, _, _, ⟨rfl, rfl, rfl, rfl, rfl, rfl, rfl, trivial⟩, hS, h6, h34, h29, h24⟩
    ·
      have hS0 := hS
      refine se rfl (d_alloc (cs := [.bool _, .int .i64 _, .int .i64 _, .slice _ _ _]) hS Try.zeroValue31 rfl) ?_
      rintro _ w_51 ⟨b10, rfl, hS⟩
      refine ⟨_, _, hS0.le (Sub.refl _) (List.sublist_cons_self _ _), hS, ?_⟩
      refine sk ?_ ?_
      ·
        have hS0 := hS
        refine se rfl (d_call Try.call25 rfl (sized_E s bd capb lb p.in_ q _ _ hS.imm h5 hqb k6 hqe)) ?_
        rintro _ w_52 ⟨I_f, a29, m29, c29, rfl, hE, h29⟩
        replace hS := hS.call hE
        replace h4 := h4.mono hE.ext
        replace h5 := h5.mono hE.ext
        replace h6 := h6.mono hE.ext
        replace h24 := h24.mono hE.ext
        refine ⟨_, _, hS0.le hE.ext (List.Sublist.refl _), hS, ?_⟩
        refine sk ?_ ?_
        ·
          have hS0 := hS
          refine se rfl (d_call Try.call25 rfl (sized_E t cd capc lc p.in_ r0 _ _ hS.imm h6 hqc k6 hre)) ?_
          rintro _ w_53 ⟨I_f, a34, m34, c34, rfl, hE, h34⟩
          replace hS := hS.call hE
          replace h4 := h4.mono hE.ext
          replace h5 := h5.mono hE.ext
          replace h6 := h6.mono hE.ext
          replace h24 := h24.mono hE.ext
          replace h29 := h29.mono hE.ext
          refine ⟨_, _, hS0.le hE.ext (List.Sublist.refl _), hS, ?_⟩
          have hS0 := hS
          refine se rfl (d_alloc (cs := [.bool _, .int .i64 _, .int .i64 _, .slice _ _ _]) hS Try.zeroValue31 rfl) ?_
          rintro _ w_54 ⟨b9, rfl, hS⟩
          refine ⟨_, _, hS0.le (Sub.refl _) (List.sublist_cons_self _ _), hS, ?_⟩
          refine sb rfl (d_store 0 hS Try.sizeOf31 rfl rfl rfl (vs := [.bool _, .int .i64 _, .int .i64 _, .slice _ _ _]) rfl rfl rfl (Nat.le_of_ble_eq_true rfl) (cs' := [_, _, _, _]) rfl) ?_
          rintro _ w_55 ⟨rfl, hS⟩
          refine ⟨_, _, hS, ?_⟩
          refine sb rfl (d_store 1 hS Try.sizeOf31 rfl rfl rfl (vs := [.bool _, .int .i64 _, .int .i64 _, .slice _ _ _]) rfl rfl rfl (Nat.le_of_ble_eq_true rfl) (cs' := [_, _, _, _]) rfl) ?_
          rintro _ w_56 ⟨rfl, hS⟩
          refine ⟨_, _, hS, ?_⟩
          refine sn (thenN ?_)
          exact ⟨_, rfl, _, _, _, _, _, _, _, _, _, ⟨rfl, rfl, rfl, rfl, rfl, rfl, rfl, trivial⟩, (hS.ord [1, 0, 2, 3, 4]), h6, h34, h29, h24⟩
        ·
          have hS0 := hS
          refine se rfl (d_alloc (cs := [.bool _, .int .i64 _, .int .i64 _, .slice _ _ _]) hS Try.zeroValue31 rfl) ?_
          rintro _ w_57 ⟨b9, rfl, hS⟩
          refine ⟨_, _, hS0.le (Sub.refl _) (List.sublist_cons_self _ _), hS, ?_⟩
          have hS0 := hS
          refine se rfl (d_call Try.call25 rfl (sized_E t cd capc lc p.in_ r0 _ _ hS.imm h6 hqc k6 hre)) ?_
          rintro _ w_58 ⟨I_f, a34, m34, c34, rfl, hE, h34⟩
          replace hS := hS.call hE
          replace h4 := h4.mono hE.ext
          replace h5 := h5.mono hE.ext
          replace h6 := h6.mono hE.ext
          replace h24 := h24.mono hE.ext
          replace h29 := h29.mono hE.ext
          refine ⟨_, _, hS0.le hE.ext (List.Sublist.refl _), hS, ?_⟩
          refine sb rfl (d_store 0 hS Try.sizeOf31 rfl rfl rfl (vs := [.bool _, .int .i64 _, .int .i64 _, .slice _ _ _]) rfl rfl rfl (Nat.le_of_ble_eq_true rfl) (cs' := [_, _, _, _]) rfl) ?_
          rintro _ w_59 ⟨rfl, hS⟩
          refine ⟨_, _, hS, ?_⟩
          refine sb rfl (d_store 1 hS Try.sizeOf31 rfl rfl rfl (vs := [.bool _, .int .i64 _, .int .i64 _, .slice _ _ _]) rfl rfl rfl (Nat.le_of_ble_eq_true rfl) (cs' := [_, _, _, _]) rfl) ?_
          rintro _ w_60 ⟨rfl, hS⟩
          refine ⟨_, _, hS, ?_⟩
          refine sn (thenN ?_)
          exact ⟨_, rfl, _, _, _, _, _, _, _, _, _, ⟨rfl, rfl, rfl, rfl, rfl, rfl, rfl, trivial⟩, (hS.ord [1, 0, 2, 3, 4]), h6, h34, h29, h24⟩
      ·
        have hS0 := hS
        refine se rfl (d_alloc (cs := [.bool _, .int .i64 _, .int .i64 _, .slice _ _ _]) hS Try.zeroValue31 rfl) ?_
        rintro _ w_61 ⟨b9, rfl, hS⟩
        refine ⟨_, _, hS0.le (Sub.refl _) (List.sublist_cons_self _ _), hS, ?_⟩
        have hS0 := hS
        refine se rfl (d_call Try.call25 rfl (sized_E s bd capb lb p.in_ q _ _ hS.imm h5 hqb k6 hqe)) ?_
        rintro _ w_62 ⟨I_f, a29, m29, c29, rfl, hE, h29⟩
        replace hS := hS.call hE
        replace h4 := h4.mono hE.ext
        replace h5 := h5.mono hE.ext
        replace h6 := h6.mono hE.ext
        replace h24 := h24.mono hE.ext
        refine ⟨_, _, hS0.le hE.ext (List.Sublist.refl _), hS, ?_⟩
        have hS0 := hS
        refine se rfl (d_call Try.call25 rfl (sized_E t cd capc lc p.in_ r0 _ _ hS.imm h6 hqc k6 hre)) ?_
        rintro _ w_63 ⟨I_f, a34, m34, c34, rfl, hE, h34⟩
        replace hS := hS.call hE
        replace h4 := h4.mono hE.ext
        replace h5 := h5.mono hE.ext
        replace h6 := h6.mono hE.ext
        replace h24 := h24.mono hE.ext
        replace h29 := h29.mono hE.ext
        refine ⟨_, _, hS0.le hE.ext (List.Sublist.refl _), hS, ?_⟩
        refine sb rfl (d_store 0 hS Try.sizeOf31 rfl rfl rfl (vs := [.bool _, .int .i64 _, .int .i64 _, .slice _ _ _]) rfl rfl rfl (Nat.le_of_ble_eq_true rfl) (cs' := [_, _, _, _]) rfl) ?_
        rintro _ w_64 ⟨rfl, hS⟩
        refine ⟨_, _, hS, ?_⟩
        refine sb rfl (d_store 1 hS Try.sizeOf31 rfl rfl rfl (vs := [.bool _, .int .i64 _, .int .i64 _, .slice _ _ _]) rfl rfl rfl (Nat.le_of_ble_eq_true rfl) (cs' := [_, _, _, _]) rfl) ?_
        rintro _ w_65 ⟨rfl, hS⟩
        refine ⟨_, _, hS, ?_⟩
        refine sn (thenN ?_)
        exact ⟨_, rfl, _, _, _, _, _, _, _, _, _, ⟨rfl, rfl, rfl, rfl, rfl, rfl, rfl, trivial⟩, (hS.ord [1, 0, 2, 3, 4]), h6, h34, h29, h24⟩
  ·
    rintro σ w ⟨I, b9, b10, a29, m29, c29, a34, m34, c34, hs, hS, h6, h34, h29, h24⟩
    rw [← upds_self hs]
    refine wpIn_seq ?_
    refine reg ?_
    refine qq hS (g_assignv (v := .int .i64 _) rfl) ?_
    refine ol_nil (thenN ?_)
    refine meet (fun σ w => ∃ I ar mr cr, okS σ [(2, .int .i16 n), (3, .pointer (some ⟨b3, 0, none⟩)), (4, .pointer (some ⟨b4, 0, none⟩)), (7, .bool true), (8, .pointer (some ⟨b8, 0, none⟩)), (9, .pointer (some ⟨b9, 0, none⟩)), (10, .pointer (some ⟨b10, 0, none⟩)), (11, .int .i64 (if m2 then 61 else 0 : Int))] ∧ St [] w0 I0 I w [.cel b10 31 [.bool (if m2 then q2 else r0).lifted, .int .i64 (if m2 then q2 else r0).in_, .int .i64 (if m2 then q2 else r0).out, .slice ar mr cr], .cel b9 31 [.bool q.lifted, .int .i64 q.in_, .int .i64 q.out, .slice a29 m29 c29], .cel b8 31 [.bool p.lifted, .int .i64 p.in_, .int .i64 p.out, .slice a24 m24 c24], .cel b4 49 [.bool m0, .bool m1, .bool m2], .cel b3 78 [.int .u8 r, .slice ad l.length cap, .int .u8 s, .slice bd lb.length capb, .int .u8 t, .slice cd lc.length capc]] ∧ ROps I (.slice ar mr cr) (if m2 then q2 else r0).ops ∧ ROps I (.slice a29 m29 c29) q.ops ∧ ROps I (.slice a24 m24 c24) p.ops) ?_ ?_
    ·
      refine wpIn_seq ?_
      refine reg ?_
      refine qq hS (g_indexArr (o' := 2) Try.underlying49 Try.sizeOf4 rfl rfl (by decide) (by decide) rfl) ?_
      refine qq hS (g_ldO1 3 Try.isAgg4 rfl rfl rfl) ?_
      refine ol_nil (thenN ?_)
      refine cond_s rfl ?_ ?_
      ·
        intro hc36
        subst hc36
        refine wpIn_seq ?_
        refine reg ?_
        refine qq hS (g_indexArr (o' := 4) Try.underlying78 Try.sizeOf47 rfl rfl (by decide) (by decide) rfl) ?_
        refine qq hS (g_ldO 4 (vs := [.int .u8 _, .slice _ _ _]) Try.sizeOf47 Try.isAgg47 rfl rfl rfl rfl) ?_
        refine qq hS (g_fieldAddr (o' := 1) Try.underlying31 rfl Try.sizeOf3 rfl rfl rfl) ?_
        refine qq hS (g_ldO1 2 Try.isAgg3 rfl rfl rfl) ?_
        refine qq hS (g_add rfl rfl (by omega) (by omega)) ?_
        refine qe (d_call Try.call25 rfl (sized_E t cd capc lc (p.in_ + 1) q2 _ _ hS.imm h6 hqc hso hqe2)) ?_
        rintro _ w_66 ⟨I_f, a42, m42, c42, rfl, hE, h42⟩
        replace hS := hS.callE hE
        replace h6 := h6.mono hE.ext
        replace h34 := h34.mono hE.ext
        replace h29 := h29.mono hE.ext
        replace h24 := h24.mono hE.ext
        refine qe (d_store 0 hS Try.sizeOf31 rfl rfl rfl (vs := [.bool _, .int .i64 _, .int .i64 _, .slice _ _ _]) rfl rfl rfl (Nat.le_of_ble_eq_true rfl) (cs' := [_, _, _, _]) rfl) ?_
        clear hS
        rintro _ w_67 ⟨rfl, hS⟩
        refine ol_nil (thenN ?_)
        refine reg ?_
        refine qq hS (g_assignv (v := .int .i64 _) rfl) ?_
        refine ol_nil (thenN ?_)
        first
          | exact ⟨_, rfl, _, _, _, _, ⟨rfl, rfl, rfl, rfl, rfl, rfl, rfl, rfl, trivial⟩, hS, h42, h29, h24⟩
          | exact ⟨_, rfl, _, _, _, _, ⟨rfl, rfl, rfl, rfl, rfl, rfl, rfl, rfl, trivial⟩, hS, h34, h29, h24⟩
      ·
        intro hc36
        subst hc36
        refine wpIn_skip ?_
        refine thenN ?_
        first
          | exact ⟨_, rfl, _, _, _, _, ⟨rfl, rfl, rfl, rfl, rfl, rfl, rfl, rfl, trivial⟩, hS, h42, h29, h24⟩
          | exact ⟨_, rfl, _, _, _, _, ⟨rfl, rfl, rfl, rfl, rfl, rfl, rfl, rfl, trivial⟩, hS, h34, h29, h24⟩
    ·
      rintro σ w ⟨I, ar, mr, cr, hs, hS, hRo, h29, h24⟩
      rw [← upds_self hs]
      refine meet (fun σ w => okS σ [(2, .int .i16 n), (3, .pointer (some ⟨b3, 0, none⟩)), (4, .pointer (some ⟨b4, 0, none⟩)), (7, .bool true), (8, .pointer (some ⟨b8, 0, none⟩)), (9, .pointer (some ⟨b9, 0, none⟩)), (10, .pointer (some ⟨b10, 0, none⟩)), (11, .int .i64 (if m1 then 62 else if m2 then 61 else 0 : Int))] ∧ St [] w0 I0 I w [.cel b10 31 [.bool (if m2 then q2 else r0).lifted, .int .i64 (if m2 then q2 else r0).in_, .int .i64 (if m2 then q2 else r0).out, .slice ar mr cr], .cel b9 31 [.bool (if m1 then true else q.lifted), .int .i64 q.in_, .int .i64 q.out, .slice a29 m29 c29], .cel b8 31 [.bool p.lifted, .int .i64 p.in_, .int .i64 p.out, .slice a24 m24 c24], .cel b4 49 [.bool m0, .bool m1, .bool m2], .cel b3 78 [.int .u8 r, .slice ad l.length cap, .int .u8 s, .slice bd lb.length capb, .int .u8 t, .slice cd lc.length capc]]) ?_ ?_
      ·
        refine wpIn_seq ?_
        refine reg ?_
        refine qq hS (g_indexArr (o' := 1) Try.underlying49 Try.sizeOf4 rfl rfl (by decide) (by decide) rfl) ?_
        refine qq hS (g_ldO1 3 Try.isAgg4 rfl rfl rfl) ?_
        refine ol_nil (thenN ?_)
        refine cond_s rfl ?_ ?_
        ·
          intro hc44
          subst hc44
          refine wpIn_seq ?_
          refine reg ?_
          refine qq hS (g_fieldAddr (o' := 0) Try.underlying31 rfl Try.sizeOf4 rfl rfl rfl) ?_
          refine qe (d_store 1 hS Try.sizeOf4 rfl rfl rfl (vs := [.bool _]) rfl rfl rfl (Nat.le_of_ble_eq_true rfl) (cs' := [_, _, _, _]) rfl) ?_
          clear hS
          rintro _ w_68 ⟨rfl, hS⟩
          refine ol_nil (thenN ?_)
          refine reg ?_
          refine qq hS (g_assignv (v := .int .i64 _) rfl) ?_
          refine ol_nil (thenN ?_)
          exact ⟨_, rfl, ⟨rfl, rfl, rfl, rfl, rfl, rfl, rfl, rfl, trivial⟩, hS.sel [true, true, true, true, true]⟩
        ·
          intro hc44
          subst hc44
          refine wpIn_skip ?_
          refine thenN ?_
          exact ⟨_, rfl, ⟨rfl, rfl, rfl, rfl, rfl, rfl, rfl, rfl, trivial⟩, hS.sel [true, true, true, true, true]⟩
      ·
        rintro σ w ⟨hs, hS⟩
        rw [← upds_self hs]
        refine meet (fun σ w => okS σ [(2, .int .i16 n), (3, .pointer (some ⟨b3, 0, none⟩)), (4, .pointer (some ⟨b4, 0, none⟩)), (7, .bool true), (8, .pointer (some ⟨b8, 0, none⟩)), (9, .pointer (some ⟨b9, 0, none⟩)), (10, .pointer (some ⟨b10, 0, none⟩)), (11, .int .i64 (if m0 then 60 else if m1 then 62 else if m2 then 61 else 0 : Int))] ∧ St [] w0 I0 I w [.cel b10 31 [.bool (if m2 then q2 else r0).lifted, .int .i64 (if m2 then q2 else r0).in_, .int .i64 (if m0 then (if m2 then q2 else r0).out + 1 else (if m2 then q2 else r0).out), .slice ar mr cr], .cel b9 31 [.bool (if m1 then true else q.lifted), .int .i64 q.in_, .int .i64 q.out, .slice a29 m29 c29], .cel b8 31 [.bool p.lifted, .int .i64 p.in_, .int .i64 p.out, .slice a24 m24 c24], .cel b4 49 [.bool m0, .bool m1, .bool m2], .cel b3 78 [.int .u8 r, .slice ad l.length cap, .int .u8 s, .slice bd lb.length capb, .int .u8 t, .slice cd lc.length capc]]) ?_ ?_
        ·
          refine wpIn_seq ?_
          refine reg ?_
          refine qq hS (g_indexArr (o' := 0) Try.underlying49 Try.sizeOf4 rfl rfl (by decide) (by decide) rfl) ?_
          refine qq hS (g_ldO1 3 Try.isAgg4 rfl rfl rfl) ?_
          refine ol_nil (thenN ?_)
          refine cond_s rfl ?_ ?_
          ·
            intro hc47
            subst hc47
            refine wpIn_seq ?_
            refine reg ?_
            refine qq hS (g_fieldAddr (o' := 2) Try.underlying31 rfl Try.sizeOf3 rfl rfl rfl) ?_
            refine qq hS (g_ldO1 0 Try.isAgg3 rfl rfl rfl) ?_
            refine qq hS (g_add rfl rfl (by omega) (by omega)) ?_
            refine qq hS (g_fieldAddr (o' := 2) Try.underlying31 rfl Try.sizeOf3 rfl rfl rfl) ?_
            refine qe (d_store 0 hS Try.sizeOf3 rfl rfl rfl (vs := [.int .i64 _]) rfl rfl rfl (Nat.le_of_ble_eq_true rfl) (cs' := [_, _, _, _]) rfl) ?_
            clear hS
            rintro _ w_69 ⟨rfl, hS⟩
            refine ol_nil (thenN ?_)
            refine reg ?_
            refine qq hS (g_assignv (v := .int .i64 _) rfl) ?_
            refine ol_nil (thenN ?_)
            exact ⟨_, rfl, ⟨rfl, rfl, rfl, rfl, rfl, rfl, rfl, rfl, trivial⟩, hS.sel [true, true, true, true, true]⟩
          ·
            intro hc47
            subst hc47
            refine wpIn_skip ?_
            refine thenN ?_
            exact ⟨_, rfl, ⟨rfl, rfl, rfl, rfl, rfl, rfl, rfl, rfl, trivial⟩, hS.sel [true, true, true, true, true]⟩
        ·
          rintro σ w ⟨hs, hS⟩
          rw [← upds_self hs]
          refine wpIn_seq ?_
          have eq9 : (if m1 then true else q.lifted) = m1 := by rw [hqf]; cases m1 <;> rfl
          rw [eq9] at hS
          refine reg ?_
          refine qq hS (g_ldO 2 (vs := [.bool _, .int .i64 _, .int .i64 _, .slice _ _ _]) Try.sizeOf31 Try.isAgg31 rfl rfl rfl rfl) ?_
          refine qq hS (g_ldO 1 (vs := [.bool _, .int .i64 _, .int .i64 _, .slice _ _ _]) Try.sizeOf31 Try.isAgg31 rfl rfl rfl rfl) ?_
          refine qq hS (g_ldO 0 (vs := [.bool _, .int .i64 _, .int .i64 _, .slice _ _ _]) Try.sizeOf31 Try.isAgg31 rfl rfl rfl rfl) ?_
          refine qe (d_lit (vs := [.agg #[.bool _, .int .i64 _, .int .i64 _, .slice _ _ _], .agg #[.bool _, .int .i64 _, .int .i64 _, .slice _ _ _], .agg #[.bool _, .int .i64 _, .int .i64 _, .slice _ _ _]]) (cs := [.bool _, .int .i64 _, .int .i64 _, .slice _ _ _, .bool _, .int .i64 _, .int .i64 _, .slice _ _ _, .bool _, .int .i64 _, .int .i64 _, .slice _ _ _]) hS Try.underlying27 Try.sizeOf31 Try.zeroValue31 rfl rfl rfl rfl (fun v hv => by simp only [List.mem_cons, List.not_mem_nil, or_false] at hv; rcases hv with rfl | rfl | rfl <;> rfl) rfl) ?_
          clear hS
          rintro _ w_70 ⟨b56, rfl, hS⟩
          have hF := hS.freeze1
          clear hS
          obtain ⟨I56, hS, hI56, hb56⟩ := hF
          replace hRo := hRo.mono hI56
          replace h29 := h29.mono hI56
          replace h24 := h24.mono hI56
          have h56 : RPats _ (.slice (some ⟨b56, 0, none⟩) 3 3) [p, (liftS m1 q), (outS m0 (if m2 then q2 else r0))] := RSl.ofAt (css := [[.bool p.lifted, .int .i64 p.in_, .int .i64 p.out, .slice a24 m24 c24], [.bool m1, .int .i64 q.in_, .int .i64 q.out, .slice a29 m29 c29], [.bool (if m2 then q2 else r0).lifted, .int .i64 (if m2 then q2 else r0).in_, .int .i64 (if m0 then (if m2 then q2 else r0).out + 1 else (if m2 then q2 else r0).out), .slice ar mr cr]]) hb56 rfl (by simp) (All2.cons ⟨_, _, _, rfl, h24⟩ (All2.cons ⟨_, _, _, rfl, h29⟩ (All2.cons ⟨_, _, _, rfl, hRo⟩ (All2.nil _)))) rfl (by show 3 ≤ maxLen; decide)
          refine qe (d_call Try.call41 rfl (join_E [p, liftS m1 q, outS m0 (if m2 then q2 else r0)] C _ _ _ _ _ hS.imm h56 rfl (three_mem hpw (liftS_wf (b := m1) hqw) hRw) (by simp) hC)) ?_
          rintro _ w_71 ⟨I_f, a57, m57, c57, rfl, hE, h57⟩
          replace hS := hS.callE hE
          replace hRo := hRo.mono hE.ext
          replace h29 := h29.mono hE.ext
          replace h24 := h24.mono hE.ext
          replace h56 := h56.mono hE.ext
          refine qq hS (g_move _) ?_
          refine qq hS (g_extract rfl rfl) ?_
          refine qq hS (g_extract (v := .int .i64 _) rfl rfl) ?_
          refine qe (d_alloc (cs := [.bool _, .int .i64 _, .int .i64 _, .slice _ _ _]) hS Try.zeroValue31 rfl) ?_
          clear hS
          rintro _ w_72 ⟨b12, rfl, hS⟩
          refine qe (d_store 0 hS Try.sizeOf31 rfl rfl rfl (vs := [.bool _, .int .i64 _, .int .i64 _, .slice _ _ _]) rfl rfl rfl (Nat.le_of_ble_eq_true rfl) (cs' := [_, _, _, _]) rfl) ?_
          clear hS
          rintro _ w_73 ⟨rfl, hS⟩
          refine qq hS (g_assignv (v := .int .i64 _) rfl) ?_
          refine ol_nil (thenN ?_)
          refine wpIn_seq ?_
          refine reg ?_
          refine qq hS (g_ldO 3 (vs := [.bool _, .int .i64 _, .int .i64 _, .slice _ _ _]) Try.sizeOf31 Try.isAgg31 rfl rfl rfl rfl) ?_
          refine qq hS (g_movev (v := .int .i16 _) rfl) ?_
          refine qq hS (g_convi Try.underlying79 Try.underlying3 rfl (by omega) (by omega)) ?_
          refine qe (d_call Try.call39 rfl (sectors_E p n A _ _ _ _ _ hS.imm h24 hpw (by omega) (by unfold Mid; omega) hA)) ?_
          rintro _ w_74 ⟨I_f, a64, c64, rfl, hE, h64⟩
          replace hS := hS.callE hE
          replace hRo := hRo.mono hE.ext
          replace h29 := h29.mono hE.ext
          replace h24 := h24.mono hE.ext
          replace h56 := h56.mono hE.ext
          replace h57 := h57.mono hE.ext
          refine qq hS (g_move _) ?_
          refine qq hS (g_extract rfl rfl) ?_
          refine qq hS (g_extract (v := .int .i64 _) rfl rfl) ?_
          refine qq hS (g_assign _) ?_
          refine qq hS (g_assignv (v := .int .i64 _) rfl) ?_
          refine ol_nil (thenN ?_)
          refine wpIn_seq ?_
          refine reg ?_
          refine qq hS (g_ldO 1 (vs := [.bool _, .int .i64 _, .int .i64 _, .slice _ _ _]) Try.sizeOf31 Try.isAgg31 rfl rfl rfl rfl) ?_
          refine qe (d_call Try.call39 rfl (sectors_E (outS m0 (if m2 then q2 else r0)) 0 B _ _ _ _ _ hS.imm hRo hRw hRo4 (by unfold Mid; omega) hB)) ?_
          rintro _ w_75 ⟨I_f, a69, c69, rfl, hE, h69⟩
          replace hS := hS.callE hE
          replace hRo := hRo.mono hE.ext
          replace h29 := h29.mono hE.ext
          replace h24 := h24.mono hE.ext
          replace h56 := h56.mono hE.ext
          replace h57 := h57.mono hE.ext
          replace h64 := h64.mono hE.ext
          refine qq hS (g_move _) ?_
          refine qq hS (g_extract rfl rfl) ?_
          refine qq hS (g_extract (v := .int .i64 _) rfl rfl) ?_
          refine qq hS (g_assign _) ?_
          refine qq hS (g_assignv (v := .int .i64 _) rfl) ?_
          refine ol_nil (thenN ?_)
          refine wpIn_seq ?_
          refine reg ?_
          refine qq hS (g_fieldAddr (o' := 1) Try.underlying31 rfl Try.sizeOf3 rfl rfl rfl) ?_
          refine qq hS (g_ldO1 3 Try.isAgg3 rfl rfl rfl) ?_
          refine qq hS (g_buildv (pl := [(0, 1), (1, 1), (2, 1), (3, 1), (4, 1)]) (cs := [.int .i64 _, .int .i64 _, .int .i64 _, .int .u8 _, .slice _ _ _]) Try.zeroValue81 Try.underlying81 (fun w => by simp [Try.sizeOf3, Try.sizeOf5, Try.sizeOf62]) (mp (v := .int .i64 _) rfl (mp (v := .int .i64 _) rfl mp0)) rfl) ?_
          refine qe (d_lit (vs := [.agg #[.int .i64 _, .int .i64 _, .int .i64 _, .int .u8 _, .slice _ _ _]]) (cs := [.int .i64 _, .int .i64 _, .int .i64 _, .int .u8 _, .slice _ _ _]) hS Try.underlying29 Try.sizeOf81 Try.zeroValue81 rfl rfl rfl rfl (fun v hv => by simp only [List.mem_cons, List.not_mem_nil, or_false] at hv; subst hv; rfl) rfl) ?_
          clear hS
          rintro _ w_76 ⟨b75, rfl, hS⟩
          have hF := hS.freeze1
          clear hS
          obtain ⟨I75, hS, hI75, hb75⟩ := hF
          replace hRo := hRo.mono hI75
          replace h29 := h29.mono hI75
          replace h24 := h24.mono hI75
          replace h56 := h56.mono hI75
          replace h57 := h57.mono hI75
          replace h64 := h64.mono hI75
          replace h69 := h69.mono hI75
          have h75 : ROps _ (.slice (some ⟨b75, 0, none⟩) 1 1) [halfO] := RSl.ofAt (css := [[.int .i64 3, .int .i64 0, .int .i64 32768, .int .u8 0, .slice none 0 0]]) hb75 rfl (by simp) (All2.cons ⟨_, _, _, rfl, RFl.nil⟩ (All2.nil _)) rfl (by show 1 ≤ maxLen; decide)
          refine qq hS (g_buildv (pl := [(0, 1), (1, 1), (2, 1), (3, 1)]) (cs := [.bool _, .int .i64 _, .int .i64 _, .slice _ _ _]) Try.zeroValue31 Try.underlying31 (fun w => by simp [Try.sizeOf29, Try.sizeOf3, Try.sizeOf4]) (mp (v := .int .i64 _) rfl (mp (v := .int .i64 _) rfl (mp rfl mp0))) rfl) ?_
          refine qe (d_alloc (cs := [.bool _, .int .i64 _, .int .i64 _, .slice _ _ _]) hS Try.zeroValue31 rfl) ?_
          clear hS
          rintro _ w_77 ⟨b18, rfl, hS⟩
          refine qe (d_store 0 hS Try.sizeOf31 rfl rfl rfl (vs := [.bool _, .int .i64 _, .int .i64 _, .slice _ _ _]) rfl rfl rfl (Nat.le_of_ble_eq_true rfl) (cs' := [_, _, _, _]) rfl) ?_
          clear hS
          rintro _ w_78 ⟨rfl, hS⟩
          refine ol_nil (thenN ?_)
          refine wpIn_seq ?_
          refine reg ?_
          refine qq hS (g_assignv (v := .int .i64 _) rfl) ?_
          refine ol_nil (thenN ?_)
          refine meet (fun σ w => ∃ I, okS σ [(2, .int .i16 n), (3, .pointer (some ⟨b3, 0, none⟩)), (4, .pointer (some ⟨b4, 0, none⟩)), (7, .bool true), (8, .pointer (some ⟨b8, 0, none⟩)), (9, .pointer (some ⟨b9, 0, none⟩)), (10, .pointer (some ⟨b10, 0, none⟩)), (11, .int .i64 (if m0 then 60 else if m1 then 62 else if m2 then 61 else 0 : Int)), (13, .int .i64 C.2), (15, .int .i64 A.2), (17, .int .i64 B.2), (19, .int .i64 61)] ∧ St [] w0 I0 I w [.cel b10 31 [.bool (if m2 then q2 else r0).lifted, .int .i64 (if m2 then q2 else r0).in_, .int .i64 (if m0 then (if m2 then q2 else r0).out + 1 else (if m2 then q2 else r0).out), .slice ar mr cr], .cel b9 31 [.bool m1, .int .i64 q.in_, .int .i64 q.out, .slice a29 m29 c29], .cel b8 31 [.bool p.lifted, .int .i64 p.in_, .int .i64 p.out, .slice a24 m24 c24], .cel b4 49 [.bool m0, .bool m1, .bool m2], .cel b3 78 [.int .u8 r, .slice ad l.length cap, .int .u8 s, .slice bd lb.length capb, .int .u8 t, .slice cd lc.length capc]]) ?_ ?_
          ·
            refine wpIn_seq ?_
            refine reg ?_
            refine qq hS (g_fieldAddr (o' := 2) Try.underlying31 rfl Try.sizeOf3 rfl rfl rfl) ?_
            refine qq hS (g_ldO1 4 Try.isAgg3 rfl rfl rfl) ?_
            refine qq hS (g_gtr rfl rfl) ?_
            refine ol_nil (thenN ?_)
            refine cond_s rfl ?_ ?_
            ·
              intro hc79
              try simp only [Bool.and_eq_true, Bool.or_eq_true, Bool.not_eq_true', Bool.and_eq_false_imp, Bool.or_eq_false_iff, Bool.not_eq_false', decide_eq_true_eq, decide_eq_false_iff_not] at hc79
              refine reg ?_
              refine qq hS (g_ldO 0 (vs := [.bool _, .int .i64 _, .int .i64 _, .slice _ _ _]) Try.sizeOf31 Try.isAgg31 rfl rfl rfl rfl) ?_
              refine qq hS (g_ldO 0 (vs := [.bool _, .int .i64 _, .int .i64 _, .slice _ _ _]) Try.sizeOf31 Try.isAgg31 rfl rfl rfl rfl) ?_
              refine qq hS (g_ldO 4 (vs := [.bool _, .int .i64 _, .int .i64 _, .slice _ _ _]) Try.sizeOf31 Try.isAgg31 rfl rfl rfl rfl) ?_
              refine qe (d_lit (vs := [.agg #[.bool _, .int .i64 _, .int .i64 _, .slice _ _ _], .agg #[.bool _, .int .i64 _, .int .i64 _, .slice _ _ _], .agg #[.bool _, .int .i64 _, .int .i64 _, .slice _ _ _]]) (cs := [.bool _, .int .i64 _, .int .i64 _, .slice _ _ _, .bool _, .int .i64 _, .int .i64 _, .slice _ _ _, .bool _, .int .i64 _, .int .i64 _, .slice _ _ _]) hS Try.underlying27 Try.sizeOf31 Try.zeroValue31 rfl rfl rfl rfl (fun v hv => by simp only [List.mem_cons, List.not_mem_nil, or_false] at hv; rcases hv with rfl | rfl | rfl <;> rfl) rfl) ?_
              clear hS
              rintro _ w_79 ⟨b84, rfl, hS⟩
              have hF := hS.freeze1
              clear hS
              obtain ⟨I84, hS, hI84, hb84⟩ := hF
              replace hRo := hRo.mono hI84
              replace h29 := h29.mono hI84
              replace h24 := h24.mono hI84
              replace h56 := h56.mono hI84
              replace h57 := h57.mono hI84
              replace h64 := h64.mono hI84
              replace h69 := h69.mono hI84
              replace h75 := h75.mono hI84
              have h84 : RPats _ (.slice (some ⟨b84, 0, none⟩) 3 3) [(halfP p.in_), (halfP p.in_), p] := RSl.ofAt (css := [[.bool false, .int .i64 p.in_, .int .i64 32768, .slice (some ⟨b75, 0, none⟩) 1 1], [.bool false, .int .i64 p.in_, .int .i64 32768, .slice (some ⟨b75, 0, none⟩) 1 1], [.bool p.lifted, .int .i64 p.in_, .int .i64 p.out, .slice a24 m24 c24]]) hb84 rfl (by simp) (All2.cons ⟨_, _, _, rfl, h75⟩ (All2.cons ⟨_, _, _, rfl, h75⟩ (All2.cons ⟨_, _, _, rfl, h24⟩ (All2.nil _)))) rfl (by show 3 ≤ maxLen; decide)
              refine qe (d_call Try.call41 rfl (join_L [(halfP p.in_), (halfP p.in_), p] false 0 0 [] 61 _ _ _ _ _ hS.imm h84 rfl (three_mem (half_wf k6) (half_wf k6) hpw) (by simp) (half_join hpk hpf hc79 k6))) ?_
              rintro _ w_80 ⟨I_f, a85, m85, c85, rfl, hE, h85⟩
              replace hS := hS.callE hE
              replace hRo := hRo.mono hE.ext
              replace h29 := h29.mono hE.ext
              replace h24 := h24.mono hE.ext
              replace h56 := h56.mono hE.ext
              replace h57 := h57.mono hE.ext
              replace h64 := h64.mono hE.ext
              replace h69 := h69.mono hE.ext
              replace h75 := h75.mono hE.ext
              replace h84 := h84.mono hE.ext
              refine qq hS (g_move _) ?_
              refine qq hS (g_extract rfl rfl) ?_
              refine qq hS (g_extract (v := .int .i64 _) rfl rfl) ?_
              refine qq hS (g_assignv (v := .int .i64 _) rfl) ?_
              refine ol_nil (thenN ?_)
              exact ⟨_, rfl, _, ⟨rfl, rfl, rfl, rfl, rfl, rfl, rfl, rfl, rfl, rfl, rfl, rfl, trivial⟩, hS.sel [false, false, true, true, true, true, true]⟩
            ·
              intro hc79
              try simp only [Bool.and_eq_true, Bool.or_eq_true, Bool.not_eq_true', Bool.and_eq_false_imp, Bool.or_eq_false_iff, Bool.not_eq_false', decide_eq_true_eq, decide_eq_false_iff_not] at hc79
              refine wpIn_skip ?_
              refine thenN ?_
              exact ⟨_, rfl, _, ⟨rfl, rfl, rfl, rfl, rfl, rfl, rfl, rfl, rfl, rfl, rfl, rfl, trivial⟩, hS.sel [false, false, true, true, true, true, true]⟩
          ·
            rintro σ w ⟨I, hs, hS⟩
            rw [← upds_self hs]
            refine wpIn_seq ?_
            refine reg ?_
            refine qq hS (g_movev (v := .int .i16 _) rfl) ?_
            refine qq hS (g_geq rfl rfl) ?_
            refine qq hS (g_movev (v := .bool _) rfl) ?_
            refine qu rfl rfl hS (fun hg => (g_movev (v := .int .i16 _) rfl)) ?_
            intro u91 hu91 hn91
            refine qu rfl rfl hS (fun hg => (g_convi Try.underlying79 Try.underlying3 (hu91 hg) (by omega) (by omega))) ?_
            intro u92 hu92 hn92
            refine qu rfl rfl hS (fun hg => (g_leq (hu92 hg) rfl)) ?_
            intro u93 hu93 hn93
            refine qq hS (g_and rfl rfl (fun hq => hu93 hq)) ?_
            refine qq hS (g_assignv (v := .bool _) rfl) ?_
            refine ol_nil (thenN ?_)
            refine wpIn_seq ?_
            refine reg ?_
            refine qq hS (g_movev (v := .int .i64 _) rfl) ?_
            refine qq hS (g_movev (v := .int .i64 _) rfl) ?_
            refine qq hS (g_eqT rfl rfl hcw) ?_
            refine qq hS (g_movev (v := .bool _) rfl) ?_
            refine qqs rfl rfl hS (g_movev (v := .int .i64 _) rfl) ?_
            refine qqs rfl rfl hS (g_eql rfl rfl) ?_
            refine qqs rfl rfl hS (g_movev (v := .bool _) rfl) ?_
            refine qqs rfl rfl hS (g_eqbT Try.underlying4 rfl rfl hT1) ?_
            refine qq hS (g_and rfl rfl (fun _ => rfl)) ?_
            refine qq hS (g_movev (v := .bool _) rfl) ?_
            refine qqs rfl rfl hS (g_movev (v := .bool _) rfl) ?_
            refine qqs rfl rfl hS (g_movev (v := .bool _) rfl) ?_
            refine qu rfl rfl hS (fun hg => (g_movev (v := .int .i64 _) rfl)) ?_
            intro u107 hu107 hn107
            refine qu rfl rfl hS (fun hg => (g_eql (hu107 hg) rfl)) ?_
            intro u108 hu108 hn108
            refine qqs rfl rfl hS (g_castS (g_or rfl rfl (fun hq => hu108 hq)) (congrArg Value.bool hT2)) ?_
            refine qq hS (g_and rfl rfl (fun _ => rfl)) ?_
            refine qq hS (g_movev (v := .bool _) rfl) ?_
            refine qqs rfl rfl hS (g_movev (v := .int .i64 _) rfl) ?_
            refine qqs rfl rfl hS (g_eql rfl rfl) ?_
            refine qqs rfl rfl hS (g_indexArr (o' := 0) Try.underlying49 Try.sizeOf4 rfl rfl (by decide) (by decide) rfl) ?_
            refine qqs rfl rfl hS (g_ldO1 3 Try.isAgg4 rfl rfl rfl) ?_
            refine qqs rfl rfl hS (g_eqbT Try.underlying4 rfl rfl hG1) ?_
            refine qq hS (g_and rfl rfl (fun _ => rfl)) ?_
            refine qq hS (g_movev (v := .bool _) rfl) ?_
            refine qqs rfl rfl hS (g_indexArr (o' := 0) Try.underlying49 Try.sizeOf4 rfl rfl (by decide) (by decide) rfl) ?_
            refine qqs rfl rfl hS (g_ldO1 3 Try.isAgg4 rfl rfl rfl) ?_
            refine qqs rfl rfl hS (g_movev (v := .bool _) rfl) ?_
            refine qu rfl rfl hS (fun hg => (g_movev (v := .int .i64 _) rfl)) ?_
            intro u122 hu122 hn122
            refine qu rfl rfl hS (fun hg => (g_eql (hu122 hg) rfl)) ?_
            intro u123 hu123 hn123
            refine qqs rfl rfl hS (g_castS (g_or rfl rfl (fun hq => hu123 hq)) (congrArg Value.bool hG2)) ?_
            refine qq hS (g_and rfl rfl (fun _ => rfl)) ?_
            refine qq hS (g_movev (v := .bool _) rfl) ?_
            refine qqs rfl rfl hS (g_movev (v := .int .i64 _) rfl) ?_
            refine qqs rfl rfl hS (g_eqT rfl rfl rfl) ?_
            refine qq hS (g_and rfl rfl (fun _ => rfl)) ?_
            refine qq hS (g_movev (v := .bool _) rfl) ?_
            refine qqs rfl rfl hS (g_movev (v := .bool _) rfl) ?_
            refine qq hS (g_and rfl rfl (fun _ => rfl)) ?_
            refine qq hS (g_assignv (v := .bool _) rfl) ?_
            refine ol_nil (thenN ?_)
            refine wpIn_ret ?_
            refine ret1 Try.results11 (rv_tmp (v := .bool _) rfl) ?_
            exact ⟨_, rfl, hS.nil⟩

end Go.Proofs.Ythningkgpanaoaa

