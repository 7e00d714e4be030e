/- inlayref11: Touched, Read, Clashes, Merge, Independent, Commute, In, Right; inlayref05.SameRanges: what they compute. Conditions: numbers within bounds. -/
import Derived.Test.YtodopmclnklgdaaGreatRef11
namespace Go.Proofs.YtodopmclnklgdaaGreat
open Go Go.RowKit Go.Inl
set_option linter.unusedSimpArgs false
set_option linter.unusedVariables false
structure Even1 (p : PatL) (S : List Sym) (N : Nat) : Prop where
  c : (checkP p).2 = 0
  s : symsP p = S
  n : S.length = N
  i : p.in_ = (N : Int)
  b : N ≤ 65536
theorem even_one {p : PatL} (h : checkM [p] = 0) : ∃ S N, Even1 p S N := by
  have hck := checkM_all h
  have hcp := hck.1 p (by simp)
  have h1 := symsP_len hcp
  have h2 := (hck.2.2 p (by simp)).1
  have h3 := checkP_ok hcp
  exact ⟨_, _, hcp, rfl, rfl, by omega, by omega⟩
theorem even_two {p q : PatL} (h : checkM [p, q] = 0) : ∃ S T N, Even1 p S N ∧ Even1 q T N ∧ q.lifted = p.lifted := by
  have hck := checkM_all h
  have hcp := hck.1 p (by simp)
  have hcq := hck.1 q (by simp)
  have h1 := symsP_len hcp
  have h1' := symsP_len hcq
  have h2 := (hck.2.2 p (by simp)).1
  have h2' := hck.2.2 q (by simp)
  have h3 := checkP_ok hcp
  have h4 : q.in_ = p.in_ := h2'.2
  exact ⟨_, _, (symsP p).length, ⟨hcp, rfl, rfl, by omega, by omega⟩, ⟨hcq, rfl, by omega, by omega, by omega⟩, hck.2.1 q (by simp)⟩
theorem cheapP_Z {l : List Sym} {n : Int} {C : PatL × Int} (h : cheapP l n = C) (h2 : C.2 ≠ 0) : C.1 = PatL.zero := by subst h; exact cheapP_zero h2
theorem all_no {f : Nat → Bool} {N : Nat} (h : ∀ i, i < N → f i = false) : (List.range N).any f = false := by
  rw [List.any_eq_false]; intro i hi; rw [h i (List.mem_range.1 hi)]; decide
theorem any_yes {f : Nat → Bool} {N i : Nat} (hi : i < N) (h : f i = true) : (List.range N).any f = true := List.any_eq_true.2 ⟨i, List.mem_range.2 hi, h⟩
theorem fill_two (z0 z1 z2 z3 z4 z5 z6 z7 z8 a0 a1 a2 a3 b0 b1 b2 b3 : Value) : Instr.fill ([(0, 4), (4, 4), (8, 1)][·]?) #[z0, z1, z2, z3, z4, z5, z6, z7, z8] [(0, .agg #[a0, a1, a2, a3]), (1, .agg #[b0, b1, b2, b3])] = some #[a0, a1, a2, a3, b0, b1, b2, b3, z8] := by
  simp [Instr.fill, Value.cells, List.zipIdx]
theorem fill_twoE (z0 z1 z2 z3 z4 z5 z6 z7 z8 a0 a1 a2 a3 b0 b1 b2 b3 : Value) (k : IntKind) (e : Int) : Instr.fill ([(0, 4), (4, 4), (8, 1)][·]?) #[z0, z1, z2, z3, z4, z5, z6, z7, z8] [(0, .agg #[a0, a1, a2, a3]), (1, .agg #[b0, b1, b2, b3]), (2, .int k e)] = some #[a0, a1, a2, a3, b0, b1, b2, b3, .int k e] := by
  simp [Instr.fill, Value.cells, List.zipIdx]
/-- Places in ranges; right ranges; equal ranges. -/
def inR (l : List (Int × Int)) (i : Int) : Bool := l.any fun r => inS i r.1 (r.2 - 1)
def rightAt (l : List (Int × Int)) (n : Int) (i : Nat) : Bool :=
  !(((decide ((l.getD i (0, 0)).1 < 0) || decide ((l.getD i (0, 0)).2 ≤ (l.getD i (0, 0)).1)) || decide (n < (l.getD i (0, 0)).2)) || (decide (0 < i) && decide ((l.getD i (0, 0)).1 ≤ (l.getD (i - 1) (0, 0)).2)))
def rightL (l : List (Int × Int)) (n : Int) : Bool := (List.range l.length).all (rightAt l n)
theorem getD_at {l : List (Int × Int)} {i : Nat} {r : Int × Int} (h : l[i]? = some r) : l.getD i (0, 0) = r := by rw [List.getD_eq_getElem?_getD, h]; rfl
theorem all_yes {f : Nat → Bool} {N : Nat} (h : ∀ i, i < N → f i = true) : (List.range N).all f = true := by
  rw [List.all_eq_true]; intro i hi; exact h i (List.mem_range.1 hi)
theorem all_not {f : Nat → Bool} {N i : Nat} (hi : i < N) (h : f i = false) : (List.range N).all f = false := by
  rw [List.all_eq_false]; exact ⟨i, List.mem_range.2 hi, by rw [h]; decide⟩
theorem rgMid {l : List (Int × Int)} {k : Nat} {r : Int × Int} (h : ∀ r ∈ l, Mid r.1 ∧ Mid r.2) (hk : l[k]? = some r) : (-1099511627776 ≤ r.1 ∧ r.1 ≤ 1099511627776) ∧ (-1099511627776 ≤ r.2 ∧ r.2 ≤ 1099511627776) := h r (List.mem_of_getElem? hk)

set_option maxHeartbeats 1000000 in
theorem independent_c (p : PatL) (S : List Sym) (N : Nat) (ad : Option Addr) (m cap : Nat) (T : List Sym) (q : PatL) (bd : Option Addr) (n capb : Nat) (w0 : World) (I0 : Imm) (hI : Sat I0 w0) (hp : p.wf) (hpo : ROps I0 (.slice ad m cap) p.ops) (hq : q.wf) (hqo : ROps I0 (.slice bd n capb) q.ops) (hA : Even1 p S N) (hB : Even1 q T N) :
    Ctr Tryz.prog 34 [.agg #[.bool p.lifted, .int .i64 p.in_, .int .i64 p.out, .slice ad m cap], .agg #[.bool q.lifted, .int .i64 q.in_, .int .i64 q.out, .slice bd n capb]] w0 (fun v w' => ∃ I', v = .bool (indep S T N) ∧ Ext w0 I0 w' I') := by
  have hNb := hA.b
  have hin := hA.i
  have hSn := hA.n
  have hTn := hB.n
  have htl := marks_len N (touched S)
  have hul := marks_len N (touched T)
  have hrl := marks_len N (readUp S N)
  have hvl := marks_len N (readUp T N)
  refine fn (n := 52) Tryz.func34 rfl rfl rfl ?_
  have hS := St.start hI
  refine wpIn_seq ?_
  refine reg ?_
  refine qe (d_box (cs := [.bool _, .int .i64 _, .int .i64 _, .slice _ _ _]) hS rfl) ?_
  clear hS
  rintro _ w_1 ⟨b2, rfl, hS⟩
  refine qe (d_box (cs := [.bool _, .int .i64 _, .int .i64 _, .slice _ _ _]) hS rfl) ?_
  clear hS
  rintro _ w_2 ⟨b3, rfl, hS⟩
  refine qq hS (g_assignv (v := .bool _) rfl) ?_
  refine ol_nil (thenN ?_)
  refine wpIn_seq ?_
  refine draw (.cons 0 .held (.cons 2 .held (.cons 4 .held (.cons 6 .held (.cons 1 .eff (.cons 3 .eff (.cons 5 .eff (.cons 7 .eff (.cons 8 .pure (.cons 9 .pure (.cons 10 .pure (.cons 11 .pure .nil)))))))))))) mixed (by kernel_rfl) hS ?_
  intro w_3 hS
  refine sh rfl (g_ldO 1 (vs := [.bool _, .int .i64 _, .int .i64 _, .slice _ _ _]) Tryz.sizeOf29 Tryz.isAgg29 rfl rfl rfl rfl) ?_
  refine sh rfl (g_ldO 1 (vs := [.bool _, .int .i64 _, .int .i64 _, .slice _ _ _]) Tryz.sizeOf29 Tryz.isAgg29 rfl rfl rfl rfl) ?_
  refine sh rfl (g_ldO 0 (vs := [.bool _, .int .i64 _, .int .i64 _, .slice _ _ _]) Tryz.sizeOf29 Tryz.isAgg29 rfl rfl rfl rfl) ?_
  refine sh rfl (g_ldO 0 (vs := [.bool _, .int .i64 _, .int .i64 _, .slice _ _ _]) Tryz.sizeOf29 Tryz.isAgg29 rfl rfl rfl rfl) ?_
  have hS0 := hS
  refine se rfl (d_call Tryz.call32 rfl (touches_c p S N ad m cap _ _ hS.imm hp hpo hA.c hA.s hA.n hA.i hA.b)) ?_
  rintro _ w_4 ⟨I_f, a11, c11, rfl, hE, h11⟩
  replace hS := hS.call hE
  replace hpo := hpo.mono hE.ext
  replace hqo := hqo.mono hE.ext
  refine ⟨_, _, hS0.le hE.ext (List.Sublist.refl _), hS, ?_⟩
  have hS0 := hS
  refine se rfl (d_call Tryz.call75 rfl (reads_c p S N ad m cap _ _ hS.imm hp hpo hA.c hA.s hA.n hA.i hA.b)) ?_
  rintro _ w_5 ⟨I_f, a13, c13, rfl, hE, h13⟩
  replace hS := hS.call hE
  replace hpo := hpo.mono hE.ext
  replace hqo := hqo.mono hE.ext
  replace h11 := h11.mono hE.ext
  refine ⟨_, _, hS0.le hE.ext (List.Sublist.refl _), hS, ?_⟩
  have hS0 := hS
  refine se rfl (d_call Tryz.call32 rfl (touches_c q T N bd n capb _ _ hS.imm hq hqo hB.c hB.s hB.n hB.i hB.b)) ?_
  rintro _ w_6 ⟨I_f, a15, c15, rfl, hE, h15⟩
  replace hS := hS.call hE
  replace hpo := hpo.mono hE.ext
  replace hqo := hqo.mono hE.ext
  replace h11 := h11.mono hE.ext
  replace h13 := h13.mono hE.ext
  refine ⟨_, _, hS0.le hE.ext (List.Sublist.refl _), hS, ?_⟩
  have hS0 := hS
  refine se rfl (d_call Tryz.call75 rfl (reads_c q T N bd n capb _ _ hS.imm hq hqo hB.c hB.s hB.n hB.i hB.b)) ?_
  rintro _ w_7 ⟨I_f, a17, c17, rfl, hE, h17⟩
  replace hS := hS.call hE
  replace hpo := hpo.mono hE.ext
  replace hqo := hqo.mono hE.ext
  replace h11 := h11.mono hE.ext
  replace h13 := h13.mono hE.ext
  replace h15 := h15.mono hE.ext
  refine ⟨_, _, hS0.le hE.ext (List.Sublist.refl _), hS, ?_⟩
  refine sp rfl (g_assign _) ?_
  refine sp rfl (g_assign _) ?_
  refine sp rfl (g_assign _) ?_
  refine sp rfl (g_assign _) ?_
  refine sn (thenN ?_)
  refine wpIn_seq ?_
  refine wpIn_seq ?_
  refine reg ?_
  refine qq hS (g_assignv (v := .int .i64 _) rfl) ?_
  refine ol_nil (thenN ?_)
  refine wpIn_block ?_
  refine loop (fun (i : Nat) σ w => okS σ [(2, .pointer (some ⟨b2, 0, none⟩)), (5, .slice a11 N c11), (6, .slice a13 N c13), (7, .slice a15 N c15), (8, .slice a17 N c17), (9, .int .i64 i)] ∧ St [] w0 I0 I_f w [.cel b2 29 [.bool p.lifted, .int .i64 p.in_, .int .i64 p.out, .slice ad m cap]] ∧ i ≤ N ∧ ∀ j, j < i → indepAt S T N j = false) (fun i => N - i) (0) ?_ ?_
  ·
    exact ⟨⟨rfl, rfl, rfl, rfl, rfl, rfl, trivial⟩, hS.sel [false, true], by simp, fun j h => absurd h (Nat.not_lt_zero j)⟩
  ·
    rintro i σ w_l ⟨hs, hS, hi0, hall⟩
    rw [← upds_self hs]; clear hs
    refine wpIn_seq ?_
    refine wpIn_seq ?_
    refine reg ?_
    refine qq hS (g_movev (v := .int .i64 _) rfl) ?_
    refine qq hS (g_fieldAddr (o' := 1) Tryz.underlying29 rfl Tryz.sizeOf3 rfl rfl rfl) ?_
    refine qq hS (g_ldO1 0 Tryz.isAgg3 rfl rfl rfl) ?_
    refine qq hS (g_lss rfl rfl) ?_
    refine ol_nil (thenN ?_)
    refine cond_s rfl ?_ ?_
    ·
      intro hc21
      try simp only [Bool.and_eq_true, Bool.or_eq_true, Bool.not_eq_true', Bool.and_eq_false_imp, Bool.or_eq_false_iff, Bool.not_eq_false', decide_eq_true_eq, decide_eq_false_iff_not] at hc21
      have hi' : i < N := by omega
      have htA := h11.at (marks_at (f := touched S) hi')
      have hrA := h13.at (marks_at (f := readUp S N) hi')
      have huA := h15.at (marks_at (f := touched T) hi')
      have hvA := h17.at (marks_at (f := readUp T N) hi')
      refine wpIn_skip ?_
      refine thenN ?_
      refine wpIn_seq ?_
      refine wpIn_block ?_
      refine wpIn_seq ?_
      refine reg ?_
      refine qq hS (g_move _) ?_
      refine qq hS (g_movev (v := .int .i64 _) rfl) ?_
      refine qq hS (g_ixI Tryz.underlying59 Tryz.sizeOf4 h11 rfl rfl (by omega) (by omega)) ?_
      refine qq hS (g_ldE1 Tryz.isAgg4 htA rfl rfl) ?_
      refine qq hS (g_movev (v := .bool _) rfl) ?_
      refine qu rfl rfl hS (fun hg => (g_move _)) ?_
      intro u29 hu29 hn29
      refine qu rfl rfl hS (fun hg => (g_movev (v := .int .i64 _) rfl)) ?_
      intro u30 hu30 hn30
      refine qu rfl rfl hS (fun hg => (g_ixI Tryz.underlying59 Tryz.sizeOf4 h15 (hu29 hg) (hu30 hg) (by omega) (by omega))) ?_
      intro u31 hu31 hn31
      refine qu rfl rfl hS (fun hg => (g_ldE1 Tryz.isAgg4 huA (hu31 hg) rfl)) ?_
      intro u32 hu32 hn32
      refine qu rfl rfl hS (fun hg => (g_movev (hu32 hg))) ?_
      intro u33 hu33 hn33
      refine qn rfl hu33 hn33 hS (fun hg => (g_move _)) ?_
      intro u34 hu34 hn34
      refine qn rfl hu33 hn33 hS (fun hg => (g_movev (v := .int .i64 _) rfl)) ?_
      intro u35 hu35 hn35
      refine qn rfl hu33 hn33 hS (fun hg => (g_ixI Tryz.underlying59 Tryz.sizeOf4 h17 (hu34 hg) (hu35 hg) (by omega) (by omega))) ?_
      intro u36 hu36 hn36
      refine qn rfl hu33 hn33 hS (fun hg => (g_ldE1 Tryz.isAgg4 hvA (hu36 hg) rfl)) ?_
      intro u37 hu37 hn37
      refine qu rfl rfl hS (fun hg => (g_or (hu33 hg) rfl (fun hq => hu37 ⟨hg, hq⟩))) ?_
      intro u38 hu38 hn38
      refine qq hS (g_and rfl rfl (fun hq => hu38 hq)) ?_
      refine qq hS (g_movev (v := .bool _) rfl) ?_
      refine qu rfl rfl hS (fun hg => (g_move _)) ?_
      intro u41 hu41 hn41
      refine qu rfl rfl hS (fun hg => (g_movev (v := .int .i64 _) rfl)) ?_
      intro u42 hu42 hn42
      refine qu rfl rfl hS (fun hg => (g_ixI Tryz.underlying59 Tryz.sizeOf4 h13 (hu41 hg) (hu42 hg) (by omega) (by omega))) ?_
      intro u43 hu43 hn43
      refine qu rfl rfl hS (fun hg => (g_ldE1 Tryz.isAgg4 hrA (hu43 hg) rfl)) ?_
      intro u44 hu44 hn44
      refine qu rfl rfl hS (fun hg => (g_movev (hu44 hg))) ?_
      intro u45 hu45 hn45
      refine qn rfl hu45 hn45 hS (fun hg => (g_move _)) ?_
      intro u46 hu46 hn46
      refine qn rfl hu45 hn45 hS (fun hg => (g_movev (v := .int .i64 _) rfl)) ?_
      intro u47 hu47 hn47
      refine qn rfl hu45 hn45 hS (fun hg => (g_ixI Tryz.underlying59 Tryz.sizeOf4 h15 (hu46 hg) (hu47 hg) (by omega) (by omega))) ?_
      intro u48 hu48 hn48
      refine qn rfl hu45 hn45 hS (fun hg => (g_ldE1 Tryz.isAgg4 huA (hu48 hg) rfl)) ?_
      intro u49 hu49 hn49
      refine qu rfl rfl hS (fun hg => (g_and (hu45 hg) rfl (fun hq => hu49 ⟨hg, hq⟩))) ?_
      intro u50 hu50 hn50
      refine qq hS (g_or rfl rfl (fun hq => hu50 hq)) ?_
      refine ol_nil (thenN ?_)
      refine cond_s rfl ?_ ?_
      ·
        intro hc51
        clear hu29 hn29 hu30 hn30 hu31 hn31 hu32 hn32 hu33 hn33 hu34 hn34 hu35 hn35 hu36 hn36 hu37 hn37 hu38 hn38 hu41 hn41 hu42 hn42 hu43 hn43 hu44 hn44 hu45 hn45 hu46 hn46 hu47 hn47 hu48 hn48 hu49 hn49 hu50 hn50
        have hind : indep S T N = false := by unfold indep; rw [any_yes hi' (f := indepAt S T N) hc51]; rfl
        refine wpIn_seq ?_
        refine reg ?_
        refine qq hS (g_assignv (v := .bool _) rfl) ?_
        refine ol_nil (thenN ?_)
        refine wpIn_ret ?_
        refine blkR (thenR (thenR (blkR (thenR ?_))))
        refine ret1 Tryz.results34 (rv_tmp (v := .bool _) rfl) ?_
        exact ⟨_, by rw [hind], hS.nil⟩
      ·
        intro hc51
        clear hu29 hn29 hu30 hn30 hu31 hn31 hu32 hn32 hu33 hn33 hu34 hn34 hu35 hn35 hu36 hn36 hu37 hn37 hu38 hn38 hu41 hn41 hu42 hn42 hu43 hn43 hu44 hn44 hu45 hn45 hu46 hn46 hu47 hn47 hu48 hn48 hu49 hn49 hu50 hn50
        have hno : indepAt S T N i = false := hc51
        refine wpIn_skip ?_
        refine blkN (thenN ?_)
        refine reg ?_
        refine qq hS (g_movev (v := .int .i64 _) rfl) ?_
        refine qq hS (g_add rfl rfl (by omega) (by omega)) ?_
        refine qq hS (g_assignv (v := .int .i64 _) rfl) ?_
        refine ol_nil (thenN ?_)
        exact ⟨i + 1, _, rfl, ⟨⟨rfl, rfl, rfl, rfl, rfl, rfl, trivial⟩, hS.sel [true], by omega, fun j h => (Nat.lt_succ_iff_lt_or_eq.1 h).elim (hall j) (fun e => by rw [e]; exact hno)⟩, by omega⟩
    ·
      intro hc21
      try simp only [Bool.and_eq_true, Bool.or_eq_true, Bool.not_eq_true', Bool.and_eq_false_imp, Bool.or_eq_false_iff, Bool.not_eq_false', decide_eq_true_eq, decide_eq_false_iff_not] at hc21
      have hi : N = i := by omega
      subst hi
      refine wpIn_exit ?_
      refine thenE (thenE (blkE ?_))
      refine thenN ?_
      refine wpIn_seq ?_
      refine reg ?_
      refine qq hS (g_assignv (v := .bool _) rfl) ?_
      refine ol_nil (thenN ?_)
      refine wpIn_ret ?_
      refine ret1 Tryz.results34 (rv_tmp (v := .bool _) rfl) ?_
      exact ⟨_, by unfold indep; rw [all_no hall]; rfl, hS.nil⟩

set_option maxHeartbeats 1000000 in
theorem in11_c (l : List (Int × Int)) (i : Int) (ad : Option Addr) (cap : Nat) (w0 : World) (I0 : Imm) (hI : Sat I0 w0) (hl : RRgs I0 (.slice ad l.length cap) l) (hm : ∀ r ∈ l, Mid r.1 ∧ Mid r.2) :
    Ctr Tryz.prog 29 [.slice ad l.length cap, .int .i64 i] w0 (fun v w' => v = .bool (inR l i) ∧ Ext w0 I0 w' I0) := by
  have hle := RSl.le hl
  simp only [maxLen] at hle
  refine fn (n := 25) Tryz.func29 rfl rfl rfl ?_
  have hS := St.start hI
  refine wpIn_seq ?_
  refine reg ?_
  refine qq hS (g_assignv (v := .bool _) rfl) ?_
  refine ol_nil (thenN ?_)
  refine wpIn_seq ?_
  refine wpIn_seq ?_
  refine reg ?_
  refine qq hS (g_assignv (v := .int .i64 _) rfl) ?_
  refine ol_nil (thenN ?_)
  refine wpIn_block ?_
  refine loop (fun (k : Nat) σ w => okS σ [(0, .slice ad l.length cap), (1, .int .i64 i), (5, .int .i64 k)] ∧ St [] w0 I0 I0 w [] ∧ k ≤ l.length ∧ ∀ r ∈ l.take k, inS i r.1 (r.2 - 1) = false) (fun k => l.length - k) (0) ?_ ?_
  ·
    exact ⟨⟨rfl, rfl, rfl, trivial⟩, hS.sel [], by simp, by simp⟩
  ·
    rintro k σ w_l ⟨hs, hS, hk0, hall⟩
    rw [← upds_self hs]; clear hs
    refine wpIn_seq ?_
    refine wpIn_seq ?_
    refine reg ?_
    refine qq hS (g_movev (v := .int .i64 _) rfl) ?_
    refine qq hS (g_move _) ?_
    refine qq hS (g_lenI rfl Tryz.underlying51 hl rfl) ?_
    refine qq hS (g_lss rfl rfl) ?_
    refine ol_nil (thenN ?_)
    refine cond_s rfl ?_ ?_
    ·
      intro hc9
      try simp only [Bool.and_eq_true, Bool.or_eq_true, Bool.not_eq_true', Bool.and_eq_false_imp, Bool.or_eq_false_iff, Bool.not_eq_false', decide_eq_true_eq, decide_eq_false_iff_not] at hc9
      obtain ⟨r, hri⟩ : ∃ r, l[k]? = some r := ⟨_, List.getElem?_eq_getElem (by omega)⟩
      have hrA := hl.at hri
      obtain ⟨hr1, hr2⟩ := rgMid hm hri
      refine wpIn_skip ?_
      refine thenN ?_
      refine wpIn_seq ?_
      refine wpIn_block ?_
      refine wpIn_seq ?_
      refine draw (.cons 0 .pure (.cons 1 .pure (.cons 2 .pure (.cons 3 .pure (.cons 4 .pure (.cons 5 .held (.cons 6 .pure (.cons 7 .pure (.cons 8 .pure (.cons 9 .pure (.cons 10 .held (.cons 11 .pure (.cons 12 .eff .nil))))))))))))) mixed (by kernel_rfl) hS ?_
      intro w_1 hS
      refine sp rfl (g_movev (v := .int .i64 _) rfl) ?_
      refine sp rfl (g_move _) ?_
      refine sp rfl (g_movev (v := .int .i64 _) rfl) ?_
      refine sp rfl (g_ixI Tryz.underlying51 Tryz.sizeOf117 hl rfl rfl (by omega) (by omega)) ?_
      refine sp rfl (g_fieldE (c' := 0) Tryz.underlying117 rfl Tryz.sizeOf3 rfl rfl rfl) ?_
      refine sh rfl (g_ldE1 Tryz.isAgg3 hrA rfl rfl) ?_
      refine sp rfl (g_move _) ?_
      refine sp rfl (g_movev (v := .int .i64 _) rfl) ?_
      refine sp rfl (g_ixI Tryz.underlying51 Tryz.sizeOf117 hl rfl rfl (by omega) (by omega)) ?_
      refine sp rfl (g_fieldE (c' := 1) Tryz.underlying117 rfl Tryz.sizeOf3 rfl rfl rfl) ?_
      refine sh rfl (g_ldE1 Tryz.isAgg3 hrA rfl rfl) ?_
      refine sp rfl (g_sub rfl rfl (by omega) (by omega)) ?_
      have hS0 := hS
      refine se rfl (d_call Tryz.call70 rfl (refIn_c _ _ _ _ _ hS.imm)) ?_
      rintro _ w_2 ⟨rfl, hE⟩
      replace hS := hS.call hE
      refine ⟨_, _, hS0.le hE.ext (List.Sublist.refl _), hS, ?_⟩
      refine sn (thenN ?_)
      refine cond_s rfl ?_ ?_
      ·
        intro hc24
        have e : inR l i = true := List.any_eq_true.2 ⟨r, List.mem_of_getElem? hri, hc24⟩
        refine wpIn_seq ?_
        refine reg ?_
        refine qq hS (g_assignv (v := .bool _) rfl) ?_
        refine ol_nil (thenN ?_)
        refine wpIn_ret ?_
        refine blkR (thenR (thenR (blkR (thenR ?_))))
        refine ret1 Tryz.results29 (rv_tmp (v := .bool _) rfl) ?_
        rw [e]; exact ⟨rfl, hS.nil⟩
      ·
        intro hc24
        refine wpIn_skip ?_
        refine blkN (thenN ?_)
        refine reg ?_
        refine qq hS (g_movev (v := .int .i64 _) rfl) ?_
        refine qq hS (g_add rfl rfl (by omega) (by omega)) ?_
        refine qq hS (g_assignv (v := .int .i64 _) rfl) ?_
        refine ol_nil (thenN ?_)
        exact ⟨k + 1, _, rfl, ⟨⟨rfl, rfl, rfl, trivial⟩, hS.sel [], by omega, any_take (q := fun (r : Int × Int) => inS i r.1 (r.2 - 1)) hri hall hc24⟩, by omega⟩
    ·
      intro hc9
      try simp only [Bool.and_eq_true, Bool.or_eq_true, Bool.not_eq_true', Bool.and_eq_false_imp, Bool.or_eq_false_iff, Bool.not_eq_false', decide_eq_true_eq, decide_eq_false_iff_not] at hc9
      have hk : k = l.length := by omega
      subst hk
      rw [List.take_length] at hall
      refine wpIn_exit ?_
      refine thenE (thenE (blkE ?_))
      refine thenN ?_
      refine wpIn_seq ?_
      refine reg ?_
      refine qq hS (g_assignv (v := .bool _) rfl) ?_
      refine ol_nil (thenN ?_)
      refine wpIn_ret ?_
      refine ret1 Tryz.results29 (rv_tmp (v := .bool _) rfl) ?_
      exact ⟨by unfold inR; rw [List.any_eq_false.2 (fun r hr => by rw [hall r hr]; decide)], hS.nil⟩

set_option maxHeartbeats 1000000 in
theorem right11_c (l : List (Int × Int)) (n : Int) (ad : Option Addr) (cap : Nat) (w0 : World) (I0 : Imm) (hI : Sat I0 w0) (hl : RRgs I0 (.slice ad l.length cap) l) :
    Ctr Tryz.prog 28 [.slice ad l.length cap, .int .i64 n] w0 (fun v w' => v = .bool (rightL l n) ∧ Ext w0 I0 w' I0) := by
  have hle := RSl.le hl
  simp only [maxLen] at hle
  refine fn (n := 58) Tryz.func28 rfl rfl rfl ?_
  have hS := St.start hI
  refine wpIn_seq ?_
  refine reg ?_
  refine qq hS (g_assignv (v := .bool _) rfl) ?_
  refine ol_nil (thenN ?_)
  refine wpIn_seq ?_
  refine wpIn_seq ?_
  refine reg ?_
  refine qq hS (g_assignv (v := .int .i64 _) rfl) ?_
  refine ol_nil (thenN ?_)
  refine wpIn_block ?_
  refine loop (fun (k : Nat) σ w => okS σ [(0, .slice ad l.length cap), (1, .int .i64 n), (5, .int .i64 k)] ∧ St [] w0 I0 I0 w [] ∧ k ≤ l.length ∧ ∀ j, j < k → rightAt l n j = true) (fun k => l.length - k) (0) ?_ ?_
  ·
    exact ⟨⟨rfl, rfl, rfl, trivial⟩, hS.sel [], by simp, fun j h => absurd h (Nat.not_lt_zero j)⟩
  ·
    rintro k σ w_l ⟨hs, hS, hk0, hall⟩
    rw [← upds_self hs]; clear hs
    refine wpIn_seq ?_
    refine wpIn_seq ?_
    refine reg ?_
    refine qq hS (g_movev (v := .int .i64 _) rfl) ?_
    refine qq hS (g_move _) ?_
    refine qq hS (g_lenI rfl Tryz.underlying51 hl rfl) ?_
    refine qq hS (g_lss rfl rfl) ?_
    refine ol_nil (thenN ?_)
    refine cond_s rfl ?_ ?_
    ·
      intro hc9
      try simp only [Bool.and_eq_true, Bool.or_eq_true, Bool.not_eq_true', Bool.and_eq_false_imp, Bool.or_eq_false_iff, Bool.not_eq_false', decide_eq_true_eq, decide_eq_false_iff_not] at hc9
      obtain ⟨r, hri⟩ : ∃ r, l[k]? = some r := ⟨_, List.getElem?_eq_getElem (by omega)⟩
      have hrA := hl.at hri
      have hpi : 0 < k → l[((k : Int) - 1).toNat]? = some (l.getD (k - 1) (0, 0)) := fun h => by
        rw [show ((k : Int) - 1).toNat = k - 1 by omega, List.getElem?_eq_getElem (show k - 1 < l.length by omega)]
        rw [List.getD_eq_getElem?_getD, List.getElem?_eq_getElem (show k - 1 < l.length by omega)]; rfl
      have hpA := fun h => hl.at (hpi h)
      have hkl : k < l.length := by omega
      have hra : rightAt l n k = !(((decide (r.1 < 0) || decide (r.2 ≤ r.1)) || decide (n < r.2)) || (decide ((0 : Int) < k) && decide (r.1 ≤ (l.getD (k - 1) (0, 0)).2))) := by
        unfold rightAt
        rw [getD_at hri]
        simp only [Int.natCast_pos]
      refine wpIn_skip ?_
      refine thenN ?_
      refine wpIn_seq ?_
      refine wpIn_block ?_
      refine wpIn_seq ?_
      refine draw (.cons 0 .pure (.cons 1 .pure (.cons 2 .pure (.cons 3 .pure (.cons 4 .held (.cons 5 .pure (.cons 6 .pure (.cons 7 .pure (.cons 8 .pure (.cons 9 .pure (.cons 10 .pure (.cons 11 .held (.cons 12 .pure (.cons 13 .pure (.cons 14 .pure (.cons 15 .pure (.cons 16 .held (.cons 17 .pure (.cons 18 .pure (.cons 19 .pure (.cons 20 .pure (.cons 21 .pure (.cons 22 .pure (.cons 23 .pure (.cons 24 .held (.cons 25 .pure (.cons 26 .pure (.cons 27 .pure (.cons 28 .pure (.cons 29 .pure (.cons 30 .pure (.cons 31 .pure (.cons 32 .pure (.cons 33 .pure (.cons 34 .pure (.cons 35 .pure (.cons 36 .pure (.cons 37 .held (.cons 38 .pure (.cons 39 .pure (.cons 40 .pure (.cons 41 .pure (.cons 42 .held (.cons 43 .pure (.cons 44 .pure (.cons 45 .pure .nil)))))))))))))))))))))))))))))))))))))))))))))) mixed (by kernel_rfl) hS ?_
      intro w_1 hS
      refine sp rfl (g_move _) ?_
      refine sp rfl (g_movev (v := .int .i64 _) rfl) ?_
      refine sp rfl (g_ixI Tryz.underlying51 Tryz.sizeOf117 hl rfl rfl (by omega) (by omega)) ?_
      refine sp rfl (g_fieldE (c' := 0) Tryz.underlying117 rfl Tryz.sizeOf3 rfl rfl rfl) ?_
      refine sh rfl (g_ldE1 Tryz.isAgg3 hrA rfl rfl) ?_
      refine sp rfl (g_lss rfl rfl) ?_
      refine sp rfl (g_movev (v := .bool _) rfl) ?_
      refine spu rfl rfl rfl (fun hg => (g_move _)) ?_
      intro u19 hu19 hn19
      refine spu rfl rfl rfl (fun hg => (g_movev (v := .int .i64 _) rfl)) ?_
      intro u20 hu20 hn20
      refine spu rfl rfl rfl (fun hg => (g_ixI Tryz.underlying51 Tryz.sizeOf117 hl (hu19 hg) (hu20 hg) (by omega) (by omega))) ?_
      intro u21 hu21 hn21
      refine spu rfl rfl rfl (fun hg => (g_fieldE (c' := 0) Tryz.underlying117 rfl Tryz.sizeOf3 rfl (hu21 hg) rfl)) ?_
      intro u22 hu22 hn22
      refine shu rfl rfl rfl (fun hg => (g_ldE1 Tryz.isAgg3 hrA (hu22 hg) rfl)) ?_
      intro u23 hu23 hn23
      refine spu rfl rfl rfl (fun hg => (g_move _)) ?_
      intro u24 hu24 hn24
      refine spu rfl rfl rfl (fun hg => (g_movev (v := .int .i64 _) rfl)) ?_
      intro u25 hu25 hn25
      refine spu rfl rfl rfl (fun hg => (g_ixI Tryz.underlying51 Tryz.sizeOf117 hl (hu24 hg) (hu25 hg) (by omega) (by omega))) ?_
      intro u26 hu26 hn26
      refine spu rfl rfl rfl (fun hg => (g_fieldE (c' := 1) Tryz.underlying117 rfl Tryz.sizeOf3 rfl (hu26 hg) rfl)) ?_
      intro u27 hu27 hn27
      refine shu rfl rfl rfl (fun hg => (g_ldE1 Tryz.isAgg3 hrA (hu27 hg) rfl)) ?_
      intro u28 hu28 hn28
      refine spu rfl rfl rfl (fun hg => (g_geq (hu23 hg) (hu28 hg))) ?_
      intro u29 hu29 hn29
      refine sp rfl (g_or rfl rfl (fun hq => hu29 hq)) ?_
      refine sp rfl (g_movev (v := .bool _) rfl) ?_
      refine spu rfl rfl rfl (fun hg => (g_move _)) ?_
      intro u32 hu32 hn32
      refine spu rfl rfl rfl (fun hg => (g_movev (v := .int .i64 _) rfl)) ?_
      intro u33 hu33 hn33
      refine spu rfl rfl rfl (fun hg => (g_ixI Tryz.underlying51 Tryz.sizeOf117 hl (hu32 hg) (hu33 hg) (by omega) (by omega))) ?_
      intro u34 hu34 hn34
      refine spu rfl rfl rfl (fun hg => (g_fieldE (c' := 1) Tryz.underlying117 rfl Tryz.sizeOf3 rfl (hu34 hg) rfl)) ?_
      intro u35 hu35 hn35
      refine shu rfl rfl rfl (fun hg => (g_ldE1 Tryz.isAgg3 hrA (hu35 hg) rfl)) ?_
      intro u36 hu36 hn36
      refine spu rfl rfl rfl (fun hg => (g_movev (v := .int .i64 _) rfl)) ?_
      intro u37 hu37 hn37
      refine spu rfl rfl rfl (fun hg => (g_gtr (hu36 hg) (hu37 hg))) ?_
      intro u38 hu38 hn38
      refine sp rfl (g_or rfl rfl (fun hq => hu38 hq)) ?_
      refine sp rfl (g_movev (v := .bool _) rfl) ?_
      refine spu rfl rfl rfl (fun hg => (g_movev (v := .int .i64 _) rfl)) ?_
      intro u41 hu41 hn41
      refine spu rfl rfl rfl (fun hg => (g_gtr (hu41 hg) rfl)) ?_
      intro u42 hu42 hn42
      refine spu rfl rfl rfl (fun hg => (g_movev (hu42 hg))) ?_
      intro u43 hu43 hn43
      refine spn (P := Tryz.prog) rfl rfl (C := _) hu43 hn43 (fun hg => (g_move _)) ?_
      intro u44 hu44 hn44
      refine spn (P := Tryz.prog) rfl rfl (C := _) hu43 hn43 (fun hg => (g_movev (v := .int .i64 _) rfl)) ?_
      intro u45 hu45 hn45
      refine spn (P := Tryz.prog) rfl rfl (C := _) hu43 hn43 (fun hg => (g_sub (hu45 hg) rfl (by omega) (by omega))) ?_
      intro u46 hu46 hn46
      refine spn (P := Tryz.prog) rfl rfl (C := _) hu43 hn43 (fun hg => (g_ixI Tryz.underlying51 Tryz.sizeOf117 hl (hu44 hg) (hu46 hg) (by have := of_decide_eq_true hg.2; omega) (by have := of_decide_eq_true hg.2; omega))) ?_
      intro u47 hu47 hn47
      refine spn (P := Tryz.prog) rfl rfl (C := _) hu43 hn43 (fun hg => (g_fieldE (c' := 1) Tryz.underlying117 rfl Tryz.sizeOf3 rfl (hu47 hg) rfl)) ?_
      intro u48 hu48 hn48
      refine shn (P := Tryz.prog) rfl rfl (C := _) hu43 hn43 (fun hg => (g_ldE1 Tryz.isAgg3 (hpA (by have := of_decide_eq_true hg.2; omega)) (hu48 hg) rfl)) ?_
      intro u49 hu49 hn49
      refine spn (P := Tryz.prog) rfl rfl (C := _) hu43 hn43 (fun hg => (g_move _)) ?_
      intro u50 hu50 hn50
      refine spn (P := Tryz.prog) rfl rfl (C := _) hu43 hn43 (fun hg => (g_movev (v := .int .i64 _) rfl)) ?_
      intro u51 hu51 hn51
      refine spn (P := Tryz.prog) rfl rfl (C := _) hu43 hn43 (fun hg => (g_ixI Tryz.underlying51 Tryz.sizeOf117 hl (hu50 hg) (hu51 hg) (by omega) (by omega))) ?_
      intro u52 hu52 hn52
      refine spn (P := Tryz.prog) rfl rfl (C := _) hu43 hn43 (fun hg => (g_fieldE (c' := 0) Tryz.underlying117 rfl Tryz.sizeOf3 rfl (hu52 hg) rfl)) ?_
      intro u53 hu53 hn53
      refine shn (P := Tryz.prog) rfl rfl (C := _) hu43 hn43 (fun hg => (g_ldE1 Tryz.isAgg3 hrA (hu53 hg) rfl)) ?_
      intro u54 hu54 hn54
      refine spn (P := Tryz.prog) rfl rfl (C := _) hu43 hn43 (fun hg => (g_geq (hu49 hg) (hu54 hg))) ?_
      intro u55 hu55 hn55
      refine spu rfl rfl rfl (fun hg => (g_and (hu43 hg) rfl (fun hq => hu55 ⟨hg, hq⟩))) ?_
      intro u56 hu56 hn56
      refine sp rfl (g_or rfl rfl (fun hq => hu56 hq)) ?_
      refine sn (thenN ?_)
      refine cond_s rfl ?_ ?_
      ·
        intro hc57
        clear hu19 hn19 hu20 hn20 hu21 hn21 hu22 hn22 hu23 hn23 hu24 hn24 hu25 hn25 hu26 hn26 hu27 hn27 hu28 hn28 hu29 hn29 hu32 hn32 hu33 hn33 hu34 hn34 hu35 hn35 hu36 hn36 hu37 hn37 hu38 hn38 hu41 hn41 hu42 hn42 hu43 hn43 hu44 hn44 hu45 hn45 hu46 hn46 hu47 hn47 hu48 hn48 hu49 hn49 hu50 hn50 hu51 hn51 hu52 hn52 hu53 hn53 hu54 hn54 hu55 hn55 hu56 hn56
        have e : rightL l n = false := all_not hkl (by rw [hra, hc57]; rfl)
        refine wpIn_seq ?_
        refine reg ?_
        refine qq hS (g_assignv (v := .bool _) rfl) ?_
        refine ol_nil (thenN ?_)
        refine wpIn_ret ?_
        refine blkR (thenR (thenR (blkR (thenR ?_))))
        refine ret1 Tryz.results28 (rv_tmp (v := .bool _) rfl) ?_
        rw [e]; exact ⟨rfl, hS.nil⟩
      ·
        intro hc57
        clear hu19 hn19 hu20 hn20 hu21 hn21 hu22 hn22 hu23 hn23 hu24 hn24 hu25 hn25 hu26 hn26 hu27 hn27 hu28 hn28 hu29 hn29 hu32 hn32 hu33 hn33 hu34 hn34 hu35 hn35 hu36 hn36 hu37 hn37 hu38 hn38 hu41 hn41 hu42 hn42 hu43 hn43 hu44 hn44 hu45 hn45 hu46 hn46 hu47 hn47 hu48 hn48 hu49 hn49 hu50 hn50 hu51 hn51 hu52 hn52 hu53 hn53 hu54 hn54 hu55 hn55 hu56 hn56
        have hok : rightAt l n k = true := by rw [hra, hc57]; rfl
        refine wpIn_skip ?_
        refine blkN (thenN ?_)
        refine reg ?_
        refine qq hS (g_movev (v := .int .i64 _) rfl) ?_
        refine qq hS (g_add rfl rfl (by omega) (by omega)) ?_
        refine qq hS (g_assignv (v := .int .i64 _) rfl) ?_
        refine ol_nil (thenN ?_)
        exact ⟨k + 1, _, rfl, ⟨⟨rfl, rfl, rfl, trivial⟩, hS.sel [], by omega, fun j h => (Nat.lt_succ_iff_lt_or_eq.1 h).elim (hall j) (fun e => by rw [e]; exact hok)⟩, by omega⟩
    ·
      intro hc9
      try simp only [Bool.and_eq_true, Bool.or_eq_true, Bool.not_eq_true', Bool.and_eq_false_imp, Bool.or_eq_false_iff, Bool.not_eq_false', decide_eq_true_eq, decide_eq_false_iff_not] at hc9
      have hk : k = l.length := by omega
      subst hk
      refine wpIn_exit ?_
      refine thenE (thenE (blkE ?_))
      refine thenN ?_
      refine wpIn_seq ?_
      refine reg ?_
      refine qq hS (g_assignv (v := .bool _) rfl) ?_
      refine ol_nil (thenN ?_)
      refine wpIn_ret ?_
      refine ret1 Tryz.results28 (rv_tmp (v := .bool _) rfl) ?_
      exact ⟨by unfold rightL; rw [all_yes hall], hS.nil⟩

end Go.Proofs.YtodopmclnklgdaaGreat

