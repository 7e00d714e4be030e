/- inlayref11: Touched, Read, Clashes, Merge, Independent, Commute, In, Right; inlayref05.SameRanges: what they compute. Conditions: numbers within bounds. -/
import Derived.Test.YtalemnjjljnnpaaRef11
namespace Go.Proofs.Ytalemnjjljnnpaa
open Go Go.RowKit Go.Inl
set_option linter.unusedSimpArgs false
set_option linter.unusedVariables false
structure Even1 (p : PatL) (S : List Sym) (N : Nat) : Prop where
  c : (checkP p).2 = 0
  s : symsP p = S
  n : S.length = N
  i : p.in_ = (N : Int)
  b : N ≤ 65536
theorem even_one {p : PatL} (h : checkM [p] = 0) : ∃ S N, Even1 p S N := by
  have hck := checkM_all h
  have hcp := hck.1 p (by simp)
  have h1 := symsP_len hcp
  have h2 := (hck.2.2 p (by simp)).1
  have h3 := checkP_ok hcp
  exact ⟨_, _, hcp, rfl, rfl, by omega, by omega⟩
theorem even_two {p q : PatL} (h : checkM [p, q] = 0) : ∃ S T N, Even1 p S N ∧ Even1 q T N ∧ q.lifted = p.lifted := by
  have hck := checkM_all h
  have hcp := hck.1 p (by simp)
  have hcq := hck.1 q (by simp)
  have h1 := symsP_len hcp
  have h1' := symsP_len hcq
  have h2 := (hck.2.2 p (by simp)).1
  have h2' := hck.2.2 q (by simp)
  have h3 := checkP_ok hcp
  have h4 : q.in_ = p.in_ := h2'.2
  exact ⟨_, _, (symsP p).length, ⟨hcp, rfl, rfl, by omega, by omega⟩, ⟨hcq, rfl, by omega, by omega, by omega⟩, hck.2.1 q (by simp)⟩
theorem cheapP_Z {l : List Sym} {n : Int} {C : PatL × Int} (h : cheapP l n = C) (h2 : C.2 ≠ 0) : C.1 = PatL.zero := by subst h; exact cheapP_zero h2
theorem all_no {f : Nat → Bool} {N : Nat} (h : ∀ i, i < N → f i = false) : (List.range N).any f = false := by
  rw [List.any_eq_false]; intro i hi; rw [h i (List.mem_range.1 hi)]; decide
theorem any_yes {f : Nat → Bool} {N i : Nat} (hi : i < N) (h : f i = true) : (List.range N).any f = true := List.any_eq_true.2 ⟨i, List.mem_range.2 hi, h⟩
theorem fill_two (z0 z1 z2 z3 z4 z5 z6 z7 z8 a0 a1 a2 a3 b0 b1 b2 b3 : Value) : Instr.fill ([(0, 4), (4, 4), (8, 1)][·]?) #[z0, z1, z2, z3, z4, z5, z6, z7, z8] [(0, .agg #[a0, a1, a2, a3]), (1, .agg #[b0, b1, b2, b3])] = some #[a0, a1, a2, a3, b0, b1, b2, b3, z8] := by
  simp [Instr.fill, Value.cells, List.zipIdx]
theorem fill_twoE (z0 z1 z2 z3 z4 z5 z6 z7 z8 a0 a1 a2 a3 b0 b1 b2 b3 : Value) (k : IntKind) (e : Int) : Instr.fill ([(0, 4), (4, 4), (8, 1)][·]?) #[z0, z1, z2, z3, z4, z5, z6, z7, z8] [(0, .agg #[a0, a1, a2, a3]), (1, .agg #[b0, b1, b2, b3]), (2, .int k e)] = some #[a0, a1, a2, a3, b0, b1, b2, b3, .int k e] := by
  simp [Instr.fill, Value.cells, List.zipIdx]
/-- Places in ranges; right ranges; equal ranges. -/
def inR (l : List (Int × Int)) (i : Int) : Bool := l.any fun r => inS i r.1 (r.2 - 1)
def rightAt (l : List (Int × Int)) (n : Int) (i : Nat) : Bool :=
  !(((decide ((l.getD i (0, 0)).1 < 0) || decide ((l.getD i (0, 0)).2 ≤ (l.getD i (0, 0)).1)) || decide (n < (l.getD i (0, 0)).2)) || (decide (0 < i) && decide ((l.getD i (0, 0)).1 ≤ (l.getD (i - 1) (0, 0)).2)))
def rightL (l : List (Int × Int)) (n : Int) : Bool := (List.range l.length).all (rightAt l n)
theorem getD_at {l : List (Int × Int)} {i : Nat} {r : Int × Int} (h : l[i]? = some r) : l.getD i (0, 0) = r := by rw [List.getD_eq_getElem?_getD, h]; rfl
theorem all_yes {f : Nat → Bool} {N : Nat} (h : ∀ i, i < N → f i = true) : (List.range N).all f = true := by
  rw [List.all_eq_true]; intro i hi; exact h i (List.mem_range.1 hi)
theorem all_not {f : Nat → Bool} {N i : Nat} (hi : i < N) (h : f i = false) : (List.range N).all f = false := by
  rw [List.all_eq_false]; exact ⟨i, List.mem_range.2 hi, by rw [h]; decide⟩
theorem rgMid {l : List (Int × Int)} {k : Nat} {r : Int × Int} (h : ∀ r ∈ l, Mid r.1 ∧ Mid r.2) (hk : l[k]? = some r) : (-1099511627776 ≤ r.1 ∧ r.1 ≤ 1099511627776) ∧ (-1099511627776 ≤ r.2 ∧ r.2 ≤ 1099511627776) := h r (List.mem_of_getElem? hk)

theorem refTouched_E (p : PatL) (ad : Option Addr) (m cap : Nat) (A : List (Int × Int) × Int) (w0 : World) (I0 : Imm) (hI : Sat I0 w0) (hp : p.wf) (hpo : ROps I0 (.slice ad m cap) p.ops) (he : touchedP p = A) :
    Ctr Try.prog 12 [.agg #[.bool p.lifted, .int .i64 p.in_, .int .i64 p.out, .slice ad m cap]] w0 (fun v w' => ∃ I' a c, v = .tuple #[.slice a A.1.length c, .int .i64 A.2] ∧ Ext w0 I0 w' I' ∧ RRgs I' (.slice a A.1.length c) A.1) := by
  refine fn (n := 14) Try.func12 rfl rfl rfl ?_
  have hS := St.start hI
  refine wpIn_seq ?_
  refine reg ?_
  refine qe (d_box (cs := [.bool _, .int .i64 _, .int .i64 _, .slice _ _ _]) hS rfl) ?_
  clear hS
  rintro _ w_1 ⟨b1, rfl, hS⟩
  refine qq hS (g_assign _) ?_
  refine qq hS (g_assignv (v := .int .i64 _) rfl) ?_
  refine ol_nil (thenN ?_)
  refine wpIn_seq ?_
  refine reg ?_
  refine qq hS (g_ldO 0 (vs := [.bool _, .int .i64 _, .int .i64 _, .slice _ _ _]) Try.sizeOf31 Try.isAgg31 rfl rfl rfl rfl) ?_
  refine qe (d_lit (vs := [.agg #[.bool _, .int .i64 _, .int .i64 _, .slice _ _ _]]) (cs := [.bool _, .int .i64 _, .int .i64 _, .slice _ _ _]) hS Try.underlying35 Try.sizeOf31 Try.zeroValue31 rfl rfl rfl rfl (fun v hv => by simp only [List.mem_cons, List.not_mem_nil, or_false] at hv; subst hv; rfl) rfl) ?_
  clear hS
  rintro _ w_2 ⟨b6, rfl, hS⟩
  have hF := hS.freeze1
  clear hS
  obtain ⟨I6, hS, hI6, hb6⟩ := hF
  replace hpo := hpo.mono hI6
  have h6 : RPats _ (.slice (some ⟨b6, 0, none⟩) 1 1) [p] := RSl.ofAt (css := [[.bool p.lifted, .int .i64 p.in_, .int .i64 p.out, .slice ad m cap]]) hb6 rfl (by simp) (All2.cons ⟨_, _, _, rfl, hpo⟩ (All2.nil _)) rfl (by show 1 ≤ maxLen; decide)
  refine qe (d_call Try.call40 rfl (check11_c [p] (some ⟨b6, 0, none⟩) 1 _ _ hS.imm h6 (by simpa using hp) (by simp) (by simp))) ?_
  rintro _ w_3 ⟨rfl, hE⟩
  replace hS := hS.callE hE
  refine qq hS (g_assignv (v := .int .i64 _) rfl) ?_
  refine ol_nil (thenN ?_)
  refine wpIn_seq ?_
  refine wpIn_seq ?_
  refine reg ?_
  refine qq hS (g_movev (v := .int .i64 _) rfl) ?_
  refine qq hS (g_neq rfl rfl) ?_
  refine ol_nil (thenN ?_)
  refine cond_s rfl ?_ ?_
  ·
    intro hc9
    try simp only [Bool.and_eq_true, Bool.or_eq_true, Bool.not_eq_true', Bool.and_eq_false_imp, Bool.or_eq_false_iff, Bool.not_eq_false', decide_eq_true_eq, decide_eq_false_iff_not] at hc9
    have e : A = ([], checkM [p]) := by rw [← he]; unfold touchedP; rw [if_pos hc9]
    subst e
    refine wpIn_seq ?_
    refine reg ?_
    refine qq hS (g_movev (v := .int .i64 _) rfl) ?_
    refine qq hS (g_assign _) ?_
    refine qq hS (g_assignv (v := .int .i64 _) rfl) ?_
    refine ol_nil (thenN ?_)
    refine wpIn_ret ?_
    refine thenR ?_
    refine ret2 Try.results12 (rv_tmp rfl) (rv_tmp (v := .int .i64 _) rfl) ?_
    exact ⟨_, none, 0, rfl, hS.nil, RFl.nil⟩
  ·
    intro hc9
    try simp only [Bool.and_eq_true, Bool.or_eq_true, Bool.not_eq_true', Bool.and_eq_false_imp, Bool.or_eq_false_iff, Bool.not_eq_false', decide_eq_true_eq, decide_eq_false_iff_not] at hc9
    obtain ⟨S, N, hE⟩ := even_one hc9
    have hb := hE.b
    have e : A = (rngs N (touched S), 0) := by
      rw [← he]; unfold touchedP
      rw [if_neg (by rw [hc9]; decide), hE.s, hE.n]
    subst e
    refine wpIn_skip ?_
    refine thenN ?_
    refine wpIn_seq ?_
    refine reg ?_
    refine qq hS (g_ldO 0 (vs := [.bool _, .int .i64 _, .int .i64 _, .slice _ _ _]) Try.sizeOf31 Try.isAgg31 rfl rfl rfl rfl) ?_
    refine qe (d_call Try.call25 rfl (touches_c p S N ad m cap _ _ hS.imm hp hpo hE.c hE.s hE.n hE.i hE.b)) ?_
    rintro _ w_4 ⟨I12, a12, c12, rfl, hE, h12⟩
    replace hS := hS.callE hE
    replace hpo := hpo.mono hE.ext
    replace h6 := h6.mono hE.ext
    refine qe (d_call Try.call41 rfl (refRanges_c N (touched S) _ _ _ _ hS.imm h12 hb)) ?_
    rintro _ w_5 ⟨I13, a13, c13, rfl, hE, h13⟩
    replace hS := hS.callE hE
    replace hpo := hpo.mono hE.ext
    replace h6 := h6.mono hE.ext
    replace h12 := h12.mono hE.ext
    refine qq hS (g_assign _) ?_
    refine qq hS (g_assignv (v := .int .i64 _) rfl) ?_
    refine ol_nil (thenN ?_)
    refine wpIn_ret ?_
    refine ret2 Try.results12 (rv_tmp rfl) (rv_tmp (v := .int .i64 _) rfl) ?_
    exact ⟨_, a13, c13, rfl, hS.nil, h13⟩

theorem refRead_E (p : PatL) (ad : Option Addr) (m cap : Nat) (A : List (Int × Int) × Int) (w0 : World) (I0 : Imm) (hI : Sat I0 w0) (hp : p.wf) (hpo : ROps I0 (.slice ad m cap) p.ops) (he : readP p = A) :
    Ctr Try.prog 14 [.agg #[.bool p.lifted, .int .i64 p.in_, .int .i64 p.out, .slice ad m cap]] w0 (fun v w' => ∃ I' a c, v = .tuple #[.slice a A.1.length c, .int .i64 A.2] ∧ Ext w0 I0 w' I' ∧ RRgs I' (.slice a A.1.length c) A.1) := by
  refine fn (n := 14) Try.func14 rfl rfl rfl ?_
  have hS := St.start hI
  refine wpIn_seq ?_
  refine reg ?_
  refine qe (d_box (cs := [.bool _, .int .i64 _, .int .i64 _, .slice _ _ _]) hS rfl) ?_
  clear hS
  rintro _ w_1 ⟨b1, rfl, hS⟩
  refine qq hS (g_assign _) ?_
  refine qq hS (g_assignv (v := .int .i64 _) rfl) ?_
  refine ol_nil (thenN ?_)
  refine wpIn_seq ?_
  refine reg ?_
  refine qq hS (g_ldO 0 (vs := [.bool _, .int .i64 _, .int .i64 _, .slice _ _ _]) Try.sizeOf31 Try.isAgg31 rfl rfl rfl rfl) ?_
  refine qe (d_lit (vs := [.agg #[.bool _, .int .i64 _, .int .i64 _, .slice _ _ _]]) (cs := [.bool _, .int .i64 _, .int .i64 _, .slice _ _ _]) hS Try.underlying35 Try.sizeOf31 Try.zeroValue31 rfl rfl rfl rfl (fun v hv => by simp only [List.mem_cons, List.not_mem_nil, or_false] at hv; subst hv; rfl) rfl) ?_
  clear hS
  rintro _ w_2 ⟨b6, rfl, hS⟩
  have hF := hS.freeze1
  clear hS
  obtain ⟨I6, hS, hI6, hb6⟩ := hF
  replace hpo := hpo.mono hI6
  have h6 : RPats _ (.slice (some ⟨b6, 0, none⟩) 1 1) [p] := RSl.ofAt (css := [[.bool p.lifted, .int .i64 p.in_, .int .i64 p.out, .slice ad m cap]]) hb6 rfl (by simp) (All2.cons ⟨_, _, _, rfl, hpo⟩ (All2.nil _)) rfl (by show 1 ≤ maxLen; decide)
  refine qe (d_call Try.call40 rfl (check11_c [p] (some ⟨b6, 0, none⟩) 1 _ _ hS.imm h6 (by simpa using hp) (by simp) (by simp))) ?_
  rintro _ w_3 ⟨rfl, hE⟩
  replace hS := hS.callE hE
  refine qq hS (g_assignv (v := .int .i64 _) rfl) ?_
  refine ol_nil (thenN ?_)
  refine wpIn_seq ?_
  refine wpIn_seq ?_
  refine reg ?_
  refine qq hS (g_movev (v := .int .i64 _) rfl) ?_
  refine qq hS (g_neq rfl rfl) ?_
  refine ol_nil (thenN ?_)
  refine cond_s rfl ?_ ?_
  ·
    intro hc9
    try simp only [Bool.and_eq_true, Bool.or_eq_true, Bool.not_eq_true', Bool.and_eq_false_imp, Bool.or_eq_false_iff, Bool.not_eq_false', decide_eq_true_eq, decide_eq_false_iff_not] at hc9
    have e : A = ([], checkM [p]) := by rw [← he]; unfold readP; rw [if_pos hc9]
    subst e
    refine wpIn_seq ?_
    refine reg ?_
    refine qq hS (g_movev (v := .int .i64 _) rfl) ?_
    refine qq hS (g_assign _) ?_
    refine qq hS (g_assignv (v := .int .i64 _) rfl) ?_
    refine ol_nil (thenN ?_)
    refine wpIn_ret ?_
    refine thenR ?_
    refine ret2 Try.results14 (rv_tmp rfl) (rv_tmp (v := .int .i64 _) rfl) ?_
    exact ⟨_, none, 0, rfl, hS.nil, RFl.nil⟩
  ·
    intro hc9
    try simp only [Bool.and_eq_true, Bool.or_eq_true, Bool.not_eq_true', Bool.and_eq_false_imp, Bool.or_eq_false_iff, Bool.not_eq_false', decide_eq_true_eq, decide_eq_false_iff_not] at hc9
    obtain ⟨S, N, hE⟩ := even_one hc9
    have hb := hE.b
    have e : A = (rngs N (readUp S N), 0) := by
      rw [← he]; unfold readP
      rw [if_neg (by rw [hc9]; decide), hE.s, hE.n]
    subst e
    refine wpIn_skip ?_
    refine thenN ?_
    refine wpIn_seq ?_
    refine reg ?_
    refine qq hS (g_ldO 0 (vs := [.bool _, .int .i64 _, .int .i64 _, .slice _ _ _]) Try.sizeOf31 Try.isAgg31 rfl rfl rfl rfl) ?_
    refine qe (d_call Try.call42 rfl (reads_c p S N ad m cap _ _ hS.imm hp hpo hE.c hE.s hE.n hE.i hE.b)) ?_
    rintro _ w_4 ⟨I12, a12, c12, rfl, hE, h12⟩
    replace hS := hS.callE hE
    replace hpo := hpo.mono hE.ext
    replace h6 := h6.mono hE.ext
    refine qe (d_call Try.call41 rfl (refRanges_c N (readUp S N) _ _ _ _ hS.imm h12 hb)) ?_
    rintro _ w_5 ⟨I13, a13, c13, rfl, hE, h13⟩
    replace hS := hS.callE hE
    replace hpo := hpo.mono hE.ext
    replace h6 := h6.mono hE.ext
    replace h12 := h12.mono hE.ext
    refine qq hS (g_assign _) ?_
    refine qq hS (g_assignv (v := .int .i64 _) rfl) ?_
    refine ol_nil (thenN ?_)
    refine wpIn_ret ?_
    refine ret2 Try.results14 (rv_tmp rfl) (rv_tmp (v := .int .i64 _) rfl) ?_
    exact ⟨_, a13, c13, rfl, hS.nil, h13⟩

set_option maxHeartbeats 1000000 in
theorem refClashes_E (p : PatL) (ad : Option Addr) (m cap : Nat) (q : PatL) (bd : Option Addr) (n capb : Nat) (A : List (Int × Int) × Int) (w0 : World) (I0 : Imm) (hI : Sat I0 w0) (hp : p.wf) (hpo : ROps I0 (.slice ad m cap) p.ops) (hq : q.wf) (hqo : ROps I0 (.slice bd n capb) q.ops) (he : clashP p q = A) :
    Ctr Try.prog 17 [.agg #[.bool p.lifted, .int .i64 p.in_, .int .i64 p.out, .slice ad m cap], .agg #[.bool q.lifted, .int .i64 q.in_, .int .i64 q.out, .slice bd n capb]] w0 (fun v w' => ∃ I' a c, v = .tuple #[.slice a A.1.length c, .int .i64 A.2] ∧ Ext w0 I0 w' I' ∧ RRgs I' (.slice a A.1.length c) A.1) := by
  refine fn (n := 63) Try.func17 rfl rfl rfl ?_
  have hS := St.start hI
  refine wpIn_seq ?_
  refine reg ?_
  refine qe (d_box (cs := [.bool _, .int .i64 _, .int .i64 _, .slice _ _ _]) hS rfl) ?_
  clear hS
  rintro _ w_1 ⟨b2, rfl, hS⟩
  refine qe (d_box (cs := [.bool _, .int .i64 _, .int .i64 _, .slice _ _ _]) hS rfl) ?_
  clear hS
  rintro _ w_2 ⟨b3, rfl, hS⟩
  refine qq hS (g_assign _) ?_
  refine qq hS (g_assignv (v := .int .i64 _) rfl) ?_
  refine ol_nil (thenN ?_)
  refine wpIn_seq ?_
  refine reg ?_
  refine qq hS (g_ldO 1 (vs := [.bool _, .int .i64 _, .int .i64 _, .slice _ _ _]) Try.sizeOf31 Try.isAgg31 rfl rfl rfl rfl) ?_
  refine qq hS (g_ldO 0 (vs := [.bool _, .int .i64 _, .int .i64 _, .slice _ _ _]) Try.sizeOf31 Try.isAgg31 rfl rfl rfl rfl) ?_
  refine qe (d_lit (vs := [.agg #[.bool _, .int .i64 _, .int .i64 _, .slice _ _ _], .agg #[.bool _, .int .i64 _, .int .i64 _, .slice _ _ _]]) (cs := [.bool _, .int .i64 _, .int .i64 _, .slice _ _ _, .bool _, .int .i64 _, .int .i64 _, .slice _ _ _]) hS Try.underlying35 Try.sizeOf31 Try.zeroValue31 rfl rfl rfl rfl (fun v hv => by simp only [List.mem_cons, List.not_mem_nil, or_false] at hv; rcases hv with rfl | rfl <;> rfl) rfl) ?_
  clear hS
  rintro _ w_3 ⟨b15, rfl, hS⟩
  have hF := hS.freeze1
  clear hS
  obtain ⟨I15, hS, hI15, hb15⟩ := hF
  replace hpo := hpo.mono hI15
  replace hqo := hqo.mono hI15
  have h15 : RPats _ (.slice (some ⟨b15, 0, none⟩) 2 2) [p, q] := RSl.ofAt (css := [[.bool p.lifted, .int .i64 p.in_, .int .i64 p.out, .slice ad m cap], [.bool q.lifted, .int .i64 q.in_, .int .i64 q.out, .slice bd n capb]]) hb15 rfl (by simp) (All2.two ⟨_, _, _, rfl, hpo⟩ ⟨_, _, _, rfl, hqo⟩) rfl (by show 2 ≤ maxLen; decide)
  refine qe (d_call Try.call40 rfl (check11_c [p, q] (some ⟨b15, 0, none⟩) 2 _ _ hS.imm h15 (two_wf hp hq) (by simp) (by simp))) ?_
  rintro _ w_4 ⟨rfl, hE⟩
  replace hS := hS.callE hE
  refine qq hS (g_assignv (v := .int .i64 _) rfl) ?_
  refine ol_nil (thenN ?_)
  refine wpIn_seq ?_
  refine wpIn_seq ?_
  refine reg ?_
  refine qq hS (g_movev (v := .int .i64 _) rfl) ?_
  refine qq hS (g_neq rfl rfl) ?_
  refine ol_nil (thenN ?_)
  refine cond_s rfl ?_ ?_
  ·
    intro hc18
    try simp only [Bool.and_eq_true, Bool.or_eq_true, Bool.not_eq_true', Bool.and_eq_false_imp, Bool.or_eq_false_iff, Bool.not_eq_false', decide_eq_true_eq, decide_eq_false_iff_not] at hc18
    have e : A = ([], checkM [p, q]) := by rw [← he]; unfold clashP; rw [if_pos hc18]
    subst e
    refine wpIn_seq ?_
    refine reg ?_
    refine qq hS (g_movev (v := .int .i64 _) rfl) ?_
    refine qq hS (g_assign _) ?_
    refine qq hS (g_assignv (v := .int .i64 _) rfl) ?_
    refine ol_nil (thenN ?_)
    refine wpIn_ret ?_
    refine thenR ?_
    refine ret2 Try.results17 (rv_tmp rfl) (rv_tmp (v := .int .i64 _) rfl) ?_
    exact ⟨_, none, 0, rfl, hS.nil, RFl.nil⟩
  ·
    intro hc18
    try simp only [Bool.and_eq_true, Bool.or_eq_true, Bool.not_eq_true', Bool.and_eq_false_imp, Bool.or_eq_false_iff, Bool.not_eq_false', decide_eq_true_eq, decide_eq_false_iff_not] at hc18
    obtain ⟨S, T, N, hA, hB, hlq⟩ := even_two hc18
    have hNb := hA.b
    have hin := hA.i
    have hSn := hA.n
    have hTn := hB.n
    have htl := marks_len N (touched S)
    have hul := marks_len N (touched T)
    have hrl := marks_len N (readUp S N)
    have hvl := marks_len N (readUp T N)
    have e : A = (rngs N (clashAt S T), 0) := by
      rw [← he]; unfold clashP clashL
      rw [if_neg (by rw [hc18]; decide), hA.s, hB.s, hA.n]
    subst e
    refine wpIn_skip ?_
    refine thenN ?_
    refine wpIn_seq ?_
    refine draw (.cons 0 .held (.cons 2 .held (.cons 4 .held (.cons 6 .held (.cons 1 .eff (.cons 3 .eff (.cons 5 .eff (.cons 7 .eff (.cons 8 .pure (.cons 9 .pure (.cons 10 .pure (.cons 11 .pure .nil)))))))))))) mixed (by kernel_rfl) hS ?_
    intro w_5 hS
    refine sh rfl (g_ldO 1 (vs := [.bool _, .int .i64 _, .int .i64 _, .slice _ _ _]) Try.sizeOf31 Try.isAgg31 rfl rfl rfl rfl) ?_
    refine sh rfl (g_ldO 0 (vs := [.bool _, .int .i64 _, .int .i64 _, .slice _ _ _]) Try.sizeOf31 Try.isAgg31 rfl rfl rfl rfl) ?_
    refine sh rfl (g_ldO 1 (vs := [.bool _, .int .i64 _, .int .i64 _, .slice _ _ _]) Try.sizeOf31 Try.isAgg31 rfl rfl rfl rfl) ?_
    refine sh rfl (g_ldO 0 (vs := [.bool _, .int .i64 _, .int .i64 _, .slice _ _ _]) Try.sizeOf31 Try.isAgg31 rfl rfl rfl rfl) ?_
    have hS0 := hS
    refine se rfl (d_call Try.call25 rfl (touches_c p S N ad m cap _ _ hS.imm hp hpo hA.c hA.s hA.n hA.i hA.b)) ?_
    rintro _ w_6 ⟨I_f, a21, c21, rfl, hE, h21⟩
    replace hS := hS.call hE
    replace hpo := hpo.mono hE.ext
    replace hqo := hqo.mono hE.ext
    replace h15 := h15.mono hE.ext
    refine ⟨_, _, hS0.le hE.ext (List.Sublist.refl _), hS, ?_⟩
    have hS0 := hS
    refine se rfl (d_call Try.call25 rfl (touches_c q T N bd n capb _ _ hS.imm hq hqo hB.c hB.s hB.n hB.i hB.b)) ?_
    rintro _ w_7 ⟨I_f, a23, c23, rfl, hE, h23⟩
    replace hS := hS.call hE
    replace hpo := hpo.mono hE.ext
    replace hqo := hqo.mono hE.ext
    replace h15 := h15.mono hE.ext
    replace h21 := h21.mono hE.ext
    refine ⟨_, _, hS0.le hE.ext (List.Sublist.refl _), hS, ?_⟩
    have hS0 := hS
    refine se rfl (d_call Try.call32 rfl (symbols11_c p S N ad m cap _ _ hS.imm hp hpo hA.c hA.s hA.n)) ?_
    rintro _ w_8 ⟨I_f, a25, c25, rfl, hE, h25⟩
    replace hS := hS.call hE
    replace hpo := hpo.mono hE.ext
    replace hqo := hqo.mono hE.ext
    replace h15 := h15.mono hE.ext
    replace h21 := h21.mono hE.ext
    replace h23 := h23.mono hE.ext
    refine ⟨_, _, hS0.le hE.ext (List.Sublist.refl _), hS, ?_⟩
    have hS0 := hS
    refine se rfl (d_call Try.call32 rfl (symbols11_c q T N bd n capb _ _ hS.imm hq hqo hB.c hB.s hB.n)) ?_
    rintro _ w_9 ⟨I_f, a27, c27, rfl, hE, h27⟩
    replace hS := hS.call hE
    replace hpo := hpo.mono hE.ext
    replace hqo := hqo.mono hE.ext
    replace h15 := h15.mono hE.ext
    replace h21 := h21.mono hE.ext
    replace h23 := h23.mono hE.ext
    replace h25 := h25.mono hE.ext
    refine ⟨_, _, hS0.le hE.ext (List.Sublist.refl _), hS, ?_⟩
    refine sp rfl (g_assign _) ?_
    refine sp rfl (g_assign _) ?_
    refine sp rfl (g_assign _) ?_
    refine sp rfl (g_assign _) ?_
    refine sn (thenN ?_)
    refine wpIn_seq ?_
    refine reg ?_
    refine qq hS (g_fieldAddr (o' := 1) Try.underlying31 rfl Try.sizeOf3 rfl rfl rfl) ?_
    refine qq hS (g_ldO1 1 Try.isAgg3 rfl rfl rfl) ?_
    refine qe (d_makeF boolC_len false N hS Try.underlying51 info4 rfl rfl rfl rfl hin (by omega) rfl) ?_
    clear hS
    rintro _ w_10 ⟨b30, rfl, hS⟩
    refine qq hS (g_assign _) ?_
    refine ol_nil (thenN ?_)
    refine wpIn_seq ?_
    refine wpIn_seq ?_
    refine reg ?_
    refine qq hS (g_assignv (v := .int .i64 _) rfl) ?_
    refine ol_nil (thenN ?_)
    refine wpIn_block ?_
    refine loop (fun (i : Nat) σ w => okS σ [(2, .pointer (some ⟨b2, 0, none⟩)), (7, .slice a21 N c21), (8, .slice a23 N c23), (9, .slice a25 N c25), (10, .slice a27 N c27), (11, .slice (some ⟨b30, 0, none⟩) N N), (12, .int .i64 i)] ∧ St [] w0 I0 I_f w [.cel b30 4 (flat boolC (marks N (upF (clashAt S T) i))), .cel b2 31 [.bool p.lifted, .int .i64 p.in_, .int .i64 p.out, .slice ad m cap]] ∧ i ≤ N) (fun i => N - i) (0) ?_ ?_
    ·
      refine ⟨⟨rfl, rfl, rfl, rfl, rfl, rfl, rfl, trivial⟩, ?_, by omega⟩
      rw [upF_zero]
      exact hS.sel [true, false, true]
    ·
      rintro i σ w_l ⟨hs, hS, hi0⟩
      rw [← upds_self hs]; clear hs
      refine wpIn_seq ?_
      refine wpIn_seq ?_
      refine reg ?_
      refine qq hS (g_movev (v := .int .i64 _) rfl) ?_
      refine qq hS (g_fieldAddr (o' := 1) Try.underlying31 rfl Try.sizeOf3 rfl rfl rfl) ?_
      refine qq hS (g_ldO1 1 Try.isAgg3 rfl rfl rfl) ?_
      refine qq hS (g_lss rfl rfl) ?_
      refine ol_nil (thenN ?_)
      refine cond_s rfl ?_ ?_
      ·
        intro hc34
        try simp only [Bool.and_eq_true, Bool.or_eq_true, Bool.not_eq_true', Bool.and_eq_false_imp, Bool.or_eq_false_iff, Bool.not_eq_false', decide_eq_true_eq, decide_eq_false_iff_not] at hc34
        obtain ⟨s, hsi⟩ : ∃ s, S[i]? = some s := ⟨_, List.getElem?_eq_getElem (by omega)⟩
        obtain ⟨t, hti⟩ : ∃ t, T[i]? = some t := ⟨_, List.getElem?_eq_getElem (by omega)⟩
        have hi' : i < N := by omega
        have htA := h21.at (marks_at (f := touched S) hi')
        have huA := h23.at (marks_at (f := touched T) hi')
        have hsA := h25.at hsi
        have hyA := h27.at hti
        have hcl : clashAt S T i = ((touched S i && touched T i) && !symEq s t) := by unfold clashAt; rw [sAt_of hsi, sAt_of hti]
        refine wpIn_skip ?_
        refine thenN ?_
        refine wpIn_seq ?_
        refine wpIn_block ?_
        refine draw (.cons 0 .pure (.cons 1 .pure (.cons 2 .pure (.cons 3 .pure (.cons 4 .pure (.cons 5 .held (.cons 6 .pure (.cons 7 .pure (.cons 8 .pure (.cons 9 .pure (.cons 10 .held (.cons 11 .pure (.cons 12 .pure (.cons 13 .pure (.cons 14 .pure (.cons 15 .pure (.cons 16 .held (.cons 17 .pure (.cons 18 .pure (.cons 19 .pure (.cons 20 .held (.cons 21 .pure (.cons 22 .pure (.cons 23 .pure (.cons 24 .bar .nil))))))))))))))))))))))))) mixed (by kernel_rfl) hS ?_
        intro w_11 hS
        refine sp rfl (g_move _) ?_
        refine sp rfl (g_movev (v := .int .i64 _) rfl) ?_
        refine sp rfl (g_move _) ?_
        refine sp rfl (g_movev (v := .int .i64 _) rfl) ?_
        refine sp rfl (g_ixI Try.underlying51 Try.sizeOf4 h21 rfl rfl (by omega) (by omega)) ?_
        refine sh rfl (g_ldE1 Try.isAgg4 htA rfl rfl) ?_
        refine sp rfl (g_movev (v := .bool _) rfl) ?_
        refine spu rfl rfl rfl (fun hg => (g_move _)) ?_
        intro u44 hu44 hn44
        refine spu rfl rfl rfl (fun hg => (g_movev (v := .int .i64 _) rfl)) ?_
        intro u45 hu45 hn45
        refine spu rfl rfl rfl (fun hg => (g_ixI Try.underlying51 Try.sizeOf4 h23 (hu44 hg) (hu45 hg) (by omega) (by omega))) ?_
        intro u46 hu46 hn46
        refine shu rfl rfl rfl (fun hg => (g_ldE1 Try.isAgg4 huA (hu46 hg) rfl)) ?_
        intro u47 hu47 hn47
        refine sp rfl (g_and rfl rfl (fun hq => hu47 hq)) ?_
        refine sp rfl (g_movev (v := .bool _) rfl) ?_
        refine spu rfl rfl rfl (fun hg => (g_move _)) ?_
        intro u50 hu50 hn50
        refine spu rfl rfl rfl (fun hg => (g_movev (v := .int .i64 _) rfl)) ?_
        intro u51 hu51 hn51
        refine spu rfl rfl rfl (fun hg => (g_ixI Try.underlying53 Try.sizeOf57 h25 (hu50 hg) (hu51 hg) (by omega) (by omega))) ?_
        intro u52 hu52 hn52
        refine shu rfl rfl rfl (fun hg => (g_ldE (us := [.bool _, .int .i64 _, .int .u8 _]) Try.sizeOf57 Try.isAgg57 hsA (hu52 hg) rfl rfl)) ?_
        intro u53 hu53 hn53
        refine spu rfl rfl rfl (fun hg => (g_move _)) ?_
        intro u54 hu54 hn54
        refine spu rfl rfl rfl (fun hg => (g_movev (v := .int .i64 _) rfl)) ?_
        intro u55 hu55 hn55
        refine spu rfl rfl rfl (fun hg => (g_ixI Try.underlying53 Try.sizeOf57 h27 (hu54 hg) (hu55 hg) (by omega) (by omega))) ?_
        intro u56 hu56 hn56
        refine shu rfl rfl rfl (fun hg => (g_ldE (us := [.bool _, .int .i64 _, .int .u8 _]) Try.sizeOf57 Try.isAgg57 hyA (hu56 hg) rfl rfl)) ?_
        intro u57 hu57 hn57
        refine spu rfl rfl rfl (fun hg => (neqSym s t (hu53 hg) (hu57 hg))) ?_
        intro u58 hu58 hn58
        refine sp rfl (g_and rfl rfl (fun hq => hu58 hq)) ?_
        refine sp rfl (g_indexAddrV (o := i) Try.underlying51 Try.sizeOf4 rfl rfl (by omega) (by omega) (by omega)) ?_
        refine sb rfl (d_store 0 hS Try.sizeOf4 rfl rfl rfl (vs := [.bool _]) rfl rfl rfl (by rw [flat_length boolC_len, marks_len]; omega) (cs' := flat boolC (marks N (upF (clashAt S T) (i + 1)))) (put_up hcl (by omega))) ?_
        rintro _ w_12 ⟨rfl, hS⟩
        refine ⟨_, _, hS, ?_⟩
        refine sn (blkN (thenN ?_))
        refine reg ?_
        refine qq hS (g_movev (v := .int .i64 _) rfl) ?_
        refine qq hS (g_add rfl rfl (by omega) (by omega)) ?_
        refine qq hS (g_assignv (v := .int .i64 _) rfl) ?_
        refine ol_nil (thenN ?_)
        exact ⟨i + 1, _, rfl, ⟨⟨rfl, rfl, rfl, rfl, rfl, rfl, rfl, trivial⟩, hS.sel [true, true], by omega⟩, by omega⟩
      ·
        intro hc34
        try simp only [Bool.and_eq_true, Bool.or_eq_true, Bool.not_eq_true', Bool.and_eq_false_imp, Bool.or_eq_false_iff, Bool.not_eq_false', decide_eq_true_eq, decide_eq_false_iff_not] at hc34
        have hi : N = i := by omega
        subst hi
        refine wpIn_exit ?_
        refine thenE (thenE (blkE ?_))
        refine thenN ?_
        refine wpIn_seq ?_
        obtain ⟨I9, hS9, hI9, h9⟩ := hS.freezeAt 0 rfl
        have h30 := RFl.ofAt boolC_len (marks N (upF (clashAt S T) N)) h9 rfl (by rw [marks_len]; unfold maxLen; omega)
        rw [marks_len, upF_all] at h30
        clear hS
        replace hS := hS9
        clear hS9
        refine reg ?_
        refine qq hS (g_move _) ?_
        refine qe (d_call Try.call41 rfl (refRanges_c N (clashAt S T) _ _ _ _ hS.imm h30 hNb)) ?_
        rintro _ w_13 ⟨I62, a62, c62, rfl, hE, h62⟩
        replace hS := hS.callE hE
        refine qq hS (g_assign _) ?_
        refine qq hS (g_assignv (v := .int .i64 _) rfl) ?_
        refine ol_nil (thenN ?_)
        refine wpIn_ret ?_
        refine ret2 Try.results17 (rv_tmp rfl) (rv_tmp (v := .int .i64 _) rfl) ?_
        exact ⟨_, a62, c62, rfl, hS.nil, h62⟩

set_option maxHeartbeats 1000000 in
theorem refMerge_E (p : PatL) (ad : Option Addr) (m cap : Nat) (q : PatL) (bd : Option Addr) (n capb : Nat) (A : PatL × Int) (w0 : World) (I0 : Imm) (hI : Sat I0 w0) (hp : p.wf) (hpo : ROps I0 (.slice ad m cap) p.ops) (hq : q.wf) (hqo : ROps I0 (.slice bd n capb) q.ops) (he : mergeP p q = A) :
    Ctr Try.prog 19 [.agg #[.bool p.lifted, .int .i64 p.in_, .int .i64 p.out, .slice ad m cap], .agg #[.bool q.lifted, .int .i64 q.in_, .int .i64 q.out, .slice bd n capb]] w0 (fun v w' => ∃ I' a m c, v = .tuple #[.agg #[.bool A.1.lifted, .int .i64 A.1.in_, .int .i64 A.1.out, .slice a m c], .int .i64 A.2] ∧ Ext w0 I0 w' I' ∧ ROps I' (.slice a m c) A.1.ops) := by
  obtain ⟨K, hK⟩ : ∃ K, clashP p q = K := ⟨_, rfl⟩
  refine fn (n := 65) Try.func19 rfl rfl rfl ?_
  have hS := St.start hI
  refine wpIn_seq ?_
  refine reg ?_
  refine qe (d_box (cs := [.bool _, .int .i64 _, .int .i64 _, .slice _ _ _]) hS rfl) ?_
  clear hS
  rintro _ w_1 ⟨b2, rfl, hS⟩
  refine qe (d_box (cs := [.bool _, .int .i64 _, .int .i64 _, .slice _ _ _]) hS rfl) ?_
  clear hS
  rintro _ w_2 ⟨b3, rfl, hS⟩
  refine qe (d_alloc (cs := [.bool _, .int .i64 _, .int .i64 _, .slice _ _ _]) hS Try.zeroValue31 rfl) ?_
  clear hS
  rintro _ w_3 ⟨b4, rfl, hS⟩
  refine qq hS (g_assignv (v := .int .i64 _) rfl) ?_
  refine ol_nil (thenN ?_)
  refine wpIn_seq ?_
  refine reg ?_
  refine qq hS (g_ldO 2 (vs := [.bool _, .int .i64 _, .int .i64 _, .slice _ _ _]) Try.sizeOf31 Try.isAgg31 rfl rfl rfl rfl) ?_
  refine qq hS (g_ldO 1 (vs := [.bool _, .int .i64 _, .int .i64 _, .slice _ _ _]) Try.sizeOf31 Try.isAgg31 rfl rfl rfl rfl) ?_
  refine qe (d_call Try.call17 rfl (refClashes_E p ad m cap q bd n capb K _ _ hS.imm hp hpo hq hqo hK)) ?_
  rintro _ w_4 ⟨I_f, a17, c17, rfl, hE, h17⟩
  replace hS := hS.callE hE
  replace hpo := hpo.mono hE.ext
  replace hqo := hqo.mono hE.ext
  refine qq hS (g_move _) ?_
  refine qq hS (g_extract rfl rfl) ?_
  refine qq hS (g_extract (v := .int .i64 _) rfl rfl) ?_
  refine qq hS (g_assign _) ?_
  refine qq hS (g_assignv (v := .int .i64 _) rfl) ?_
  refine ol_nil (thenN ?_)
  refine wpIn_seq ?_
  refine wpIn_seq ?_
  refine reg ?_
  refine qq hS (g_movev (v := .int .i64 _) rfl) ?_
  refine qq hS (g_neq rfl rfl) ?_
  refine ol_nil (thenN ?_)
  refine cond_s rfl ?_ ?_
  ·
    intro hc21
    try simp only [Bool.and_eq_true, Bool.or_eq_true, Bool.not_eq_true', Bool.and_eq_false_imp, Bool.or_eq_false_iff, Bool.not_eq_false', decide_eq_true_eq, decide_eq_false_iff_not] at hc21
    have hk : K.2 = checkM [p, q] ∧ checkM [p, q] ≠ 0 := by
      unfold clashP at hK
      split at hK
      · rename_i h; subst hK; exact ⟨rfl, h⟩
      · subst hK; exact absurd rfl hc21
    have e : A = (PatL.zero, K.2) := by rw [← he, hk.1]; unfold mergeP; rw [if_pos hk.2]
    subst e
    refine wpIn_seq ?_
    refine reg ?_
    refine qq hS (g_buildv (pl := [(0, 1), (1, 1), (2, 1), (3, 1)]) (cs := [.bool _, .int .i64 _, .int .i64 _, .slice _ _ _]) Try.zeroValue31 Try.underlying31 (fun w => by simp [Try.sizeOf29, Try.sizeOf3, Try.sizeOf4]) mp0 rfl) ?_
    refine qq hS (g_movev (v := .int .i64 _) rfl) ?_
    refine qe (d_store 0 hS Try.sizeOf31 rfl rfl rfl (vs := [.bool _, .int .i64 _, .int .i64 _, .slice _ _ _]) rfl rfl rfl (Nat.le_of_ble_eq_true rfl) (cs' := [_, _, _, _]) rfl) ?_
    clear hS
    rintro _ w_5 ⟨rfl, hS⟩
    refine qq hS (g_assignv (v := .int .i64 _) rfl) ?_
    refine ol_nil (thenN ?_)
    refine wpIn_ret ?_
    refine thenR ?_
    refine ret2 Try.results19 (rv_cel 0 hS Try.sizeOf31 Try.isAgg31 rfl rfl rfl) (rv_tmp (v := .int .i64 _) rfl) ?_
    exact ⟨_, none, 0, 0, rfl, hS.nil, RSl.nilR⟩
  ·
    intro hc21
    try simp only [Bool.and_eq_true, Bool.or_eq_true, Bool.not_eq_true', Bool.and_eq_false_imp, Bool.or_eq_false_iff, Bool.not_eq_false', decide_eq_true_eq, decide_eq_false_iff_not] at hc21
    have hk : checkM [p, q] = 0 ∧ K.1 = clashL (symsP p) (symsP q) := by
      unfold clashP at hK
      split at hK
      · rename_i h; subst hK; exact absurd hc21 h
      · rename_i h; subst hK; exact ⟨Decidable.not_not.1 h, rfl⟩
    obtain ⟨hk0, hk1⟩ := hk
    have e0 : A = if clashL (symsP p) (symsP q) ≠ [] then (PatL.zero, 110) else if (cheapP (mergeS (symsP p) (symsP q)) p.in_).2 ≠ 0 then (PatL.zero, (cheapP (mergeS (symsP p) (symsP q)) p.in_).2) else ({ (cheapP (mergeS (symsP p) (symsP q)) p.in_).1 with lifted := p.lifted }, 0) := by rw [← he]; unfold mergeP; rw [if_neg (by rw [hk0]; decide)]
    clear he
    refine wpIn_skip ?_
    refine thenN ?_
    refine wpIn_seq ?_
    refine wpIn_seq ?_
    refine reg ?_
    refine qq hS (g_move _) ?_
    refine qq hS (g_lenI rfl Try.underlying36 h17 rfl) ?_
    refine qq hS (g_gtr rfl rfl) ?_
    refine ol_nil (thenN ?_)
    refine cond_s rfl ?_ ?_
    ·
      intro hc26
      try simp only [Bool.and_eq_true, Bool.or_eq_true, Bool.not_eq_true', Bool.and_eq_false_imp, Bool.or_eq_false_iff, Bool.not_eq_false', decide_eq_true_eq, decide_eq_false_iff_not] at hc26
      have e : A = (PatL.zero, 110) := by rw [e0, if_pos (fun h => by rw [hk1, h] at hc26; simp at hc26)]
      subst e
      refine wpIn_seq ?_
      refine reg ?_
      refine qq hS (g_buildv (pl := [(0, 1), (1, 1), (2, 1), (3, 1)]) (cs := [.bool _, .int .i64 _, .int .i64 _, .slice _ _ _]) Try.zeroValue31 Try.underlying31 (fun w => by simp [Try.sizeOf29, Try.sizeOf3, Try.sizeOf4]) mp0 rfl) ?_
      refine qe (d_store 0 hS Try.sizeOf31 rfl rfl rfl (vs := [.bool _, .int .i64 _, .int .i64 _, .slice _ _ _]) rfl rfl rfl (Nat.le_of_ble_eq_true rfl) (cs' := [_, _, _, _]) rfl) ?_
      clear hS
      rintro _ w_6 ⟨rfl, hS⟩
      refine qq hS (g_assignv (v := .int .i64 _) rfl) ?_
      refine ol_nil (thenN ?_)
      refine wpIn_ret ?_
      refine thenR ?_
      refine ret2 Try.results19 (rv_cel 0 hS Try.sizeOf31 Try.isAgg31 rfl rfl rfl) (rv_tmp (v := .int .i64 _) rfl) ?_
      exact ⟨_, none, 0, 0, rfl, hS.nil, RSl.nilR⟩
    ·
      intro hc26
      try simp only [Bool.and_eq_true, Bool.or_eq_true, Bool.not_eq_true', Bool.and_eq_false_imp, Bool.or_eq_false_iff, Bool.not_eq_false', decide_eq_true_eq, decide_eq_false_iff_not] at hc26
      have hcl : clashL (symsP p) (symsP q) = [] := by
        rw [hk1] at hc26
        cases hl : clashL (symsP p) (symsP q) with
        | nil => rfl
        | cons x r => rw [hl] at hc26; simp at hc26
      rw [if_neg (fun h => h hcl)] at e0
      obtain ⟨S, T, N, hA, hB, hlq⟩ := even_two hk0
      have hNb := hA.b
      have hin := hA.i
      have hSn := hA.n
      have hTn := hB.n
      have htl := marks_len N (touched S)
      have hul := marks_len N (touched T)
      have hrl := marks_len N (readUp S N)
      have hvl := marks_len N (readUp T N)
      rw [hA.s, hB.s] at e0
      obtain ⟨C, hC⟩ : ∃ C, cheapP (mergeS S T) p.in_ = C := ⟨_, rfl⟩
      rw [hC] at e0
      have hml2 : N = (mergeS S T).length := by unfold mergeS; rw [mergeUp_len, hTn]
      have hmw := mergeS_wf (hSn.trans hTn.symm) (by rw [← hA.s]; exact symsP_wf hp hA.c) (by rw [← hB.s]; exact symsP_wf hq hB.c)
      refine wpIn_skip ?_
      refine thenN ?_
      refine wpIn_seq ?_
      refine draw (.cons 0 .held (.cons 2 .held (.cons 4 .held (.cons 1 .eff (.cons 3 .eff (.cons 5 .eff (.cons 6 .pure (.cons 7 .pure (.cons 8 .pure .nil))))))))) mixed (by kernel_rfl) hS ?_
      intro w_7 hS
      refine sh rfl (g_ldO 2 (vs := [.bool _, .int .i64 _, .int .i64 _, .slice _ _ _]) Try.sizeOf31 Try.isAgg31 rfl rfl rfl rfl) ?_
      refine sh rfl (g_ldO 2 (vs := [.bool _, .int .i64 _, .int .i64 _, .slice _ _ _]) Try.sizeOf31 Try.isAgg31 rfl rfl rfl rfl) ?_
      refine sh rfl (g_ldO 1 (vs := [.bool _, .int .i64 _, .int .i64 _, .slice _ _ _]) Try.sizeOf31 Try.isAgg31 rfl rfl rfl rfl) ?_
      have hS0 := hS
      refine se rfl (d_call Try.call25 rfl (touches_c p S N ad m cap _ _ hS.imm hp hpo hA.c hA.s hA.n hA.i hA.b)) ?_
      rintro _ w_8 ⟨I_f, a29, c29, rfl, hE, h29⟩
      replace hS := hS.call hE
      replace hpo := hpo.mono hE.ext
      replace hqo := hqo.mono hE.ext
      replace h17 := h17.mono hE.ext
      refine ⟨_, _, hS0.le hE.ext (List.Sublist.refl _), hS, ?_⟩
      have hS0 := hS
      refine se rfl (d_call Try.call32 rfl (symbols11_c p S N ad m cap _ _ hS.imm hp hpo hA.c hA.s hA.n)) ?_
      rintro _ w_9 ⟨I_f, a31, c31, rfl, hE, h31⟩
      replace hS := hS.call hE
      replace hpo := hpo.mono hE.ext
      replace hqo := hqo.mono hE.ext
      replace h17 := h17.mono hE.ext
      replace h29 := h29.mono hE.ext
      refine ⟨_, _, hS0.le hE.ext (List.Sublist.refl _), hS, ?_⟩
      have hS0 := hS
      refine se rfl (d_call Try.call32 rfl (symbols11_o q T N bd n capb _ _ hS.imm hq hqo hB.c hB.s hB.n)) ?_
      rintro _ w_10 ⟨a33, c33, rfl, hE⟩
      replace hS := hS.call hE
      refine ⟨_, _, hS0.le hE.ext (List.sublist_append_right _ _), hS, ?_⟩
      refine sp rfl (g_assign _) ?_
      refine sp rfl (g_assign _) ?_
      refine sp rfl (g_assign _) ?_
      refine sn (thenN ?_)
      refine wpIn_seq ?_
      refine wpIn_seq ?_
      refine reg ?_
      refine qq hS (g_assignv (v := .int .i64 _) rfl) ?_
      refine ol_nil (thenN ?_)
      refine wpIn_block ?_
      refine loop (fun (i : Nat) σ w => okS σ [(2, .pointer (some ⟨b2, 0, none⟩)), (4, .pointer (some ⟨b4, 0, none⟩)), (8, .slice a29 N c29), (9, .slice a31 N c31), (10, .slice a33 N c33), (11, .int .i64 i)] ∧ St [] w0 I0 I_f w [.row (.slice a33 N c33) 57 3 N (flat symC (mergeUp S T i)), .cel b4 31 [.bool false, .int .i64 0, .int .i64 0, .slice none 0 0], .cel b2 31 [.bool p.lifted, .int .i64 p.in_, .int .i64 p.out, .slice ad m cap]] ∧ i ≤ N) (fun i => N - i) (0) ?_ ?_
      ·
        refine ⟨⟨rfl, rfl, rfl, rfl, rfl, rfl, trivial⟩, ?_, by omega⟩
        rw [mergeUp_zero]
        exact hS.sel [true, true, false, true]
      ·
        rintro i σ w_l ⟨hs, hS, hi0⟩
        rw [← upds_self hs]; clear hs
        refine wpIn_seq ?_
        refine wpIn_seq ?_
        refine reg ?_
        refine qq hS (g_movev (v := .int .i64 _) rfl) ?_
        refine qq hS (g_fieldAddr (o' := 1) Try.underlying31 rfl Try.sizeOf3 rfl rfl rfl) ?_
        refine qq hS (g_ldO1 2 Try.isAgg3 rfl rfl rfl) ?_
        refine qq hS (g_lss rfl rfl) ?_
        refine ol_nil (thenN ?_)
        refine cond_s rfl ?_ ?_
        ·
          intro hc37
          try simp only [Bool.and_eq_true, Bool.or_eq_true, Bool.not_eq_true', Bool.and_eq_false_imp, Bool.or_eq_false_iff, Bool.not_eq_false', decide_eq_true_eq, decide_eq_false_iff_not] at hc37
          obtain ⟨s, hsi⟩ : ∃ s, S[i]? = some s := ⟨_, List.getElem?_eq_getElem (by omega)⟩
          obtain ⟨t, hti⟩ : ∃ t, T[i]? = some t := ⟨_, List.getElem?_eq_getElem (by omega)⟩
          have hi' : i < N := by omega
          have htA := h29.at (marks_at (f := touched S) hi')
          have hsA := h31.at hsi
          have hml : N = (mergeUp S T i).length := by rw [mergeUp_len, hTn]
          obtain ⟨u, hui⟩ : ∃ u, (mergeUp S T i)[i]? = some u := ⟨_, List.getElem?_eq_getElem (by omega)⟩
          refine wpIn_skip ?_
          refine thenN ?_
          refine wpIn_seq ?_
          refine wpIn_block ?_
          refine wpIn_seq ?_
          refine reg ?_
          refine qq hS (g_move _) ?_
          refine qq hS (g_movev (v := .int .i64 _) rfl) ?_
          refine qq hS (g_ixI Try.underlying51 Try.sizeOf4 h29 rfl rfl (by omega) (by omega)) ?_
          refine qq hS (g_ldE1 Try.isAgg4 htA rfl rfl) ?_
          refine ol_nil (thenN ?_)
          refine cond_s rfl ?_ ?_
          ·
            intro hc43
            have hst : (mergeUp S T i).set i s = mergeUp S T (i + 1) := by rw [← mergeUp_set hc43, sAt_of hsi]
            refine reg ?_
            refine qq hS (g_move _) ?_
            refine qq hS (g_movev (v := .int .i64 _) rfl) ?_
            refine qq hS (g_move _) ?_
            refine qq hS (g_movev (v := .int .i64 _) rfl) ?_
            refine qq hS (g_ixI Try.underlying53 Try.sizeOf57 h31 rfl rfl (by omega) (by omega)) ?_
            refine qq hS (g_ldE (us := [.bool _, .int .i64 _, .int .u8 _]) Try.sizeOf57 Try.isAgg57 hsA rfl rfl rfl) ?_
            refine qq hS (g_ixR 0 Try.underlying53 Try.sizeOf57 rfl rfl rfl (by omega) (by omega)) ?_
            refine qe (d_storeRow 0 symC_len s hS hml hui Try.sizeOf57 rfl rfl rfl (vs := [.bool _, .int .i64 _, .int .u8 _]) rfl rfl rfl rfl rfl) ?_
            clear hS
            rintro _ w_11 ⟨rfl, hS⟩
            refine ol_nil (blkN (thenN ?_))
            refine reg ?_
            refine qq hS (g_movev (v := .int .i64 _) rfl) ?_
            refine qq hS (g_add rfl rfl (by omega) (by omega)) ?_
            refine qq hS (g_assignv (v := .int .i64 _) rfl) ?_
            refine ol_nil (thenN ?_)
            first
              | (refine ⟨i + 1, _, rfl, ⟨⟨rfl, rfl, rfl, rfl, rfl, rfl, trivial⟩, ?_, by omega⟩, by omega⟩
                 rw [← hsk]
                 exact hS.sel [true, true, true])
              | (refine ⟨i + 1, _, rfl, ⟨⟨rfl, rfl, rfl, rfl, rfl, rfl, trivial⟩, ?_, by omega⟩, by omega⟩
                 rw [← hst]
                 exact hS.sel [true, true, true])
          ·
            intro hc43
            have hsk := mergeUp_skip (t := T) hc43
            refine wpIn_skip ?_
            refine blkN (thenN ?_)
            refine reg ?_
            refine qq hS (g_movev (v := .int .i64 _) rfl) ?_
            refine qq hS (g_add rfl rfl (by omega) (by omega)) ?_
            refine qq hS (g_assignv (v := .int .i64 _) rfl) ?_
            refine ol_nil (thenN ?_)
            first
              | (refine ⟨i + 1, _, rfl, ⟨⟨rfl, rfl, rfl, rfl, rfl, rfl, trivial⟩, ?_, by omega⟩, by omega⟩
                 rw [← hsk]
                 exact hS.sel [true, true, true])
              | (refine ⟨i + 1, _, rfl, ⟨⟨rfl, rfl, rfl, rfl, rfl, rfl, trivial⟩, ?_, by omega⟩, by omega⟩
                 rw [← hst]
                 exact hS.sel [true, true, true])
        ·
          intro hc37
          try simp only [Bool.and_eq_true, Bool.or_eq_true, Bool.not_eq_true', Bool.and_eq_false_imp, Bool.or_eq_false_iff, Bool.not_eq_false', decide_eq_true_eq, decide_eq_false_iff_not] at hc37
          have hi : N = i := by omega
          subst hi
          refine wpIn_exit ?_
          refine thenE (thenE (blkE ?_))
          refine thenN ?_
          refine wpIn_seq ?_
          rw [show mergeUp S T N = mergeS S T by unfold mergeS; rw [hTn]] at hS
          obtain ⟨I9, hS9, hI9, h55⟩ := St.freezeRow symC_len hS hml2
          clear hS
          replace hS := hS9
          clear hS9
          refine reg ?_
          refine qq hS (g_move _) ?_
          refine qq hS (g_fieldAddr (o' := 1) Try.underlying31 rfl Try.sizeOf3 rfl rfl rfl) ?_
          refine qq hS (g_ldO1 1 Try.isAgg3 rfl rfl rfl) ?_
          refine qe (d_call Try.call45 rfl (refCheap_M a33 N c33 (mergeS S T) p.in_ C _ _ hS.imm h55 hml2 hmw hp.in_ hC)) ?_
          rintro _ w_12 ⟨I_f, a58, m58, c58, rfl, hE, h58⟩
          replace hS := hS.callE hE
          refine qq hS (g_move _) ?_
          refine qq hS (g_extract rfl rfl) ?_
          refine qq hS (g_extract (v := .int .i64 _) rfl rfl) ?_
          refine qe (d_alloc (cs := [.bool _, .int .i64 _, .int .i64 _, .slice _ _ _]) hS Try.zeroValue31 rfl) ?_
          clear hS
          rintro _ w_13 ⟨b12, rfl, hS⟩
          refine qe (d_store 0 hS Try.sizeOf31 rfl rfl rfl (vs := [.bool _, .int .i64 _, .int .i64 _, .slice _ _ _]) rfl rfl rfl (Nat.le_of_ble_eq_true rfl) (cs' := [_, _, _, _]) rfl) ?_
          clear hS
          rintro _ w_14 ⟨rfl, hS⟩
          refine qq hS (g_assignv (v := .int .i64 _) rfl) ?_
          refine ol_nil (thenN ?_)
          refine wpIn_seq ?_
          refine wpIn_seq ?_
          refine reg ?_
          refine qq hS (g_movev (v := .int .i64 _) rfl) ?_
          refine qq hS (g_eql rfl rfl) ?_
          refine ol_nil (thenN ?_)
          refine cond_s rfl ?_ ?_
          ·
            intro hc59
            try simp only [Bool.and_eq_true, Bool.or_eq_true, Bool.not_eq_true', Bool.and_eq_false_imp, Bool.or_eq_false_iff, Bool.not_eq_false', decide_eq_true_eq, decide_eq_false_iff_not] at hc59
            rw [if_neg (fun h => h hc59)] at e0
            subst e0
            refine reg ?_
            refine qq hS (g_fieldAddr (o' := 0) Try.underlying31 rfl Try.sizeOf4 rfl rfl rfl) ?_
            refine qq hS (g_ldO1 2 Try.isAgg4 rfl rfl rfl) ?_
            refine qq hS (g_fieldAddr (o' := 0) Try.underlying31 rfl Try.sizeOf4 rfl rfl rfl) ?_
            refine qe (d_store 0 hS Try.sizeOf4 rfl rfl rfl (vs := [.bool _]) rfl rfl rfl (Nat.le_of_ble_eq_true rfl) (cs' := [_, _, _, _]) rfl) ?_
            clear hS
            rintro _ w_15 ⟨rfl, hS⟩
            refine ol_nil (thenN ?_)
            refine wpIn_seq ?_
            refine reg ?_
            refine qq hS (g_ldO 0 (vs := [.bool _, .int .i64 _, .int .i64 _, .slice _ _ _]) Try.sizeOf31 Try.isAgg31 rfl rfl rfl rfl) ?_
            refine qq hS (g_movev (v := .int .i64 _) rfl) ?_
            refine qe (d_store 1 hS Try.sizeOf31 rfl rfl rfl (vs := [.bool _, .int .i64 _, .int .i64 _, .slice _ _ _]) rfl rfl rfl (Nat.le_of_ble_eq_true rfl) (cs' := [_, _, _, _]) rfl) ?_
            clear hS
            rintro _ w_16 ⟨rfl, hS⟩
            refine qq hS (g_assignv (v := .int .i64 _) rfl) ?_
            refine ol_nil (thenN ?_)
            refine wpIn_ret ?_
            refine ret2 Try.results19 (rv_cel 1 hS Try.sizeOf31 Try.isAgg31 rfl rfl rfl) (rv_tmp (v := .int .i64 _) rfl) ?_
            exact ⟨_, a58, m58, c58, by rw [hc59], hS.nil, h58⟩
          ·
            intro hc59
            try simp only [Bool.and_eq_true, Bool.or_eq_true, Bool.not_eq_true', Bool.and_eq_false_imp, Bool.or_eq_false_iff, Bool.not_eq_false', decide_eq_true_eq, decide_eq_false_iff_not] at hc59
            rw [if_pos hc59] at e0
            have hcz := cheapP_Z hC hc59
            subst e0
            refine wpIn_skip ?_
            refine thenN ?_
            refine wpIn_seq ?_
            refine reg ?_
            refine qq hS (g_ldO 0 (vs := [.bool _, .int .i64 _, .int .i64 _, .slice _ _ _]) Try.sizeOf31 Try.isAgg31 rfl rfl rfl rfl) ?_
            refine qq hS (g_movev (v := .int .i64 _) rfl) ?_
            refine qe (d_store 1 hS Try.sizeOf31 rfl rfl rfl (vs := [.bool _, .int .i64 _, .int .i64 _, .slice _ _ _]) rfl rfl rfl (Nat.le_of_ble_eq_true rfl) (cs' := [_, _, _, _]) rfl) ?_
            clear hS
            rintro _ w_17 ⟨rfl, hS⟩
            refine qq hS (g_assignv (v := .int .i64 _) rfl) ?_
            refine ol_nil (thenN ?_)
            refine wpIn_ret ?_
            refine ret2 Try.results19 (rv_cel 1 hS Try.sizeOf31 Try.isAgg31 rfl rfl rfl) (rv_tmp (v := .int .i64 _) rfl) ?_
            rw [hcz] at h58 ⊢
            exact ⟨_, a58, m58, c58, rfl, hS.nil, h58⟩

set_option maxHeartbeats 1000000 in
theorem independent_c (p : PatL) (S : List Sym) (N : Nat) (ad : Option Addr) (m cap : Nat) (T : List Sym) (q : PatL) (bd : Option Addr) (n capb : Nat) (w0 : World) (I0 : Imm) (hI : Sat I0 w0) (hp : p.wf) (hpo : ROps I0 (.slice ad m cap) p.ops) (hq : q.wf) (hqo : ROps I0 (.slice bd n capb) q.ops) (hA : Even1 p S N) (hB : Even1 q T N) :
    Ctr Try.prog 48 [.agg #[.bool p.lifted, .int .i64 p.in_, .int .i64 p.out, .slice ad m cap], .agg #[.bool q.lifted, .int .i64 q.in_, .int .i64 q.out, .slice bd n capb]] w0 (fun v w' => ∃ I', v = .bool (indep S T N) ∧ Ext w0 I0 w' I') := by
  have hNb := hA.b
  have hin := hA.i
  have hSn := hA.n
  have hTn := hB.n
  have htl := marks_len N (touched S)
  have hul := marks_len N (touched T)
  have hrl := marks_len N (readUp S N)
  have hvl := marks_len N (readUp T N)
  refine fn (n := 52) Try.func48 rfl rfl rfl ?_
  have hS := St.start hI
  refine wpIn_seq ?_
  refine reg ?_
  refine qe (d_box (cs := [.bool _, .int .i64 _, .int .i64 _, .slice _ _ _]) hS rfl) ?_
  clear hS
  rintro _ w_1 ⟨b2, rfl, hS⟩
  refine qe (d_box (cs := [.bool _, .int .i64 _, .int .i64 _, .slice _ _ _]) hS rfl) ?_
  clear hS
  rintro _ w_2 ⟨b3, rfl, hS⟩
  refine qq hS (g_assignv (v := .bool _) rfl) ?_
  refine ol_nil (thenN ?_)
  refine wpIn_seq ?_
  refine draw (.cons 0 .held (.cons 2 .held (.cons 4 .held (.cons 6 .held (.cons 1 .eff (.cons 3 .eff (.cons 5 .eff (.cons 7 .eff (.cons 8 .pure (.cons 9 .pure (.cons 10 .pure (.cons 11 .pure .nil)))))))))))) mixed (by kernel_rfl) hS ?_
  intro w_3 hS
  refine sh rfl (g_ldO 1 (vs := [.bool _, .int .i64 _, .int .i64 _, .slice _ _ _]) Try.sizeOf31 Try.isAgg31 rfl rfl rfl rfl) ?_
  refine sh rfl (g_ldO 1 (vs := [.bool _, .int .i64 _, .int .i64 _, .slice _ _ _]) Try.sizeOf31 Try.isAgg31 rfl rfl rfl rfl) ?_
  refine sh rfl (g_ldO 0 (vs := [.bool _, .int .i64 _, .int .i64 _, .slice _ _ _]) Try.sizeOf31 Try.isAgg31 rfl rfl rfl rfl) ?_
  refine sh rfl (g_ldO 0 (vs := [.bool _, .int .i64 _, .int .i64 _, .slice _ _ _]) Try.sizeOf31 Try.isAgg31 rfl rfl rfl rfl) ?_
  have hS0 := hS
  refine se rfl (d_call Try.call25 rfl (touches_c p S N ad m cap _ _ hS.imm hp hpo hA.c hA.s hA.n hA.i hA.b)) ?_
  rintro _ w_4 ⟨I_f, a11, c11, rfl, hE, h11⟩
  replace hS := hS.call hE
  replace hpo := hpo.mono hE.ext
  replace hqo := hqo.mono hE.ext
  refine ⟨_, _, hS0.le hE.ext (List.Sublist.refl _), hS, ?_⟩
  have hS0 := hS
  refine se rfl (d_call Try.call42 rfl (reads_c p S N ad m cap _ _ hS.imm hp hpo hA.c hA.s hA.n hA.i hA.b)) ?_
  rintro _ w_5 ⟨I_f, a13, c13, rfl, hE, h13⟩
  replace hS := hS.call hE
  replace hpo := hpo.mono hE.ext
  replace hqo := hqo.mono hE.ext
  replace h11 := h11.mono hE.ext
  refine ⟨_, _, hS0.le hE.ext (List.Sublist.refl _), hS, ?_⟩
  have hS0 := hS
  refine se rfl (d_call Try.call25 rfl (touches_c q T N bd n capb _ _ hS.imm hq hqo hB.c hB.s hB.n hB.i hB.b)) ?_
  rintro _ w_6 ⟨I_f, a15, c15, rfl, hE, h15⟩
  replace hS := hS.call hE
  replace hpo := hpo.mono hE.ext
  replace hqo := hqo.mono hE.ext
  replace h11 := h11.mono hE.ext
  replace h13 := h13.mono hE.ext
  refine ⟨_, _, hS0.le hE.ext (List.Sublist.refl _), hS, ?_⟩
  have hS0 := hS
  refine se rfl (d_call Try.call42 rfl (reads_c q T N bd n capb _ _ hS.imm hq hqo hB.c hB.s hB.n hB.i hB.b)) ?_
  rintro _ w_7 ⟨I_f, a17, c17, rfl, hE, h17⟩
  replace hS := hS.call hE
  replace hpo := hpo.mono hE.ext
  replace hqo := hqo.mono hE.ext
  replace h11 := h11.mono hE.ext
  replace h13 := h13.mono hE.ext
  replace h15 := h15.mono hE.ext
  refine ⟨_, _, hS0.le hE.ext (List.Sublist.refl _), hS, ?_⟩
  refine sp rfl (g_assign _) ?_
  refine sp rfl (g_assign _) ?_
  refine sp rfl (g_assign _) ?_
  refine sp rfl (g_assign _) ?_
  refine sn (thenN ?_)
  refine wpIn_seq ?_
  refine wpIn_seq ?_
  refine reg ?_
  refine qq hS (g_assignv (v := .int .i64 _) rfl) ?_
  refine ol_nil (thenN ?_)
  refine wpIn_block ?_
  refine loop (fun (i : Nat) σ w => okS σ [(2, .pointer (some ⟨b2, 0, none⟩)), (5, .slice a11 N c11), (6, .slice a13 N c13), (7, .slice a15 N c15), (8, .slice a17 N c17), (9, .int .i64 i)] ∧ St [] w0 I0 I_f w [.cel b2 31 [.bool p.lifted, .int .i64 p.in_, .int .i64 p.out, .slice ad m cap]] ∧ i ≤ N ∧ ∀ j, j < i → indepAt S T N j = false) (fun i => N - i) (0) ?_ ?_
  ·
    exact ⟨⟨rfl, rfl, rfl, rfl, rfl, rfl, trivial⟩, hS.sel [false, true], by simp, fun j h => absurd h (Nat.not_lt_zero j)⟩
  ·
    rintro i σ w_l ⟨hs, hS, hi0, hall⟩
    rw [← upds_self hs]; clear hs
    refine wpIn_seq ?_
    refine wpIn_seq ?_
    refine reg ?_
    refine qq hS (g_movev (v := .int .i64 _) rfl) ?_
    refine qq hS (g_fieldAddr (o' := 1) Try.underlying31 rfl Try.sizeOf3 rfl rfl rfl) ?_
    refine qq hS (g_ldO1 0 Try.isAgg3 rfl rfl rfl) ?_
    refine qq hS (g_lss rfl rfl) ?_
    refine ol_nil (thenN ?_)
    refine cond_s rfl ?_ ?_
    ·
      intro hc21
      try simp only [Bool.and_eq_true, Bool.or_eq_true, Bool.not_eq_true', Bool.and_eq_false_imp, Bool.or_eq_false_iff, Bool.not_eq_false', decide_eq_true_eq, decide_eq_false_iff_not] at hc21
      have hi' : i < N := by omega
      have htA := h11.at (marks_at (f := touched S) hi')
      have hrA := h13.at (marks_at (f := readUp S N) hi')
      have huA := h15.at (marks_at (f := touched T) hi')
      have hvA := h17.at (marks_at (f := readUp T N) hi')
      refine wpIn_skip ?_
      refine thenN ?_
      refine wpIn_seq ?_
      refine wpIn_block ?_
      refine wpIn_seq ?_
      refine reg ?_
      refine qq hS (g_move _) ?_
      refine qq hS (g_movev (v := .int .i64 _) rfl) ?_
      refine qq hS (g_ixI Try.underlying51 Try.sizeOf4 h11 rfl rfl (by omega) (by omega)) ?_
      refine qq hS (g_ldE1 Try.isAgg4 htA rfl rfl) ?_
      refine qq hS (g_movev (v := .bool _) rfl) ?_
      refine qu rfl rfl hS (fun hg => (g_move _)) ?_
      intro u29 hu29 hn29
      refine qu rfl rfl hS (fun hg => (g_movev (v := .int .i64 _) rfl)) ?_
      intro u30 hu30 hn30
      refine qu rfl rfl hS (fun hg => (g_ixI Try.underlying51 Try.sizeOf4 h15 (hu29 hg) (hu30 hg) (by omega) (by omega))) ?_
      intro u31 hu31 hn31
      refine qu rfl rfl hS (fun hg => (g_ldE1 Try.isAgg4 huA (hu31 hg) rfl)) ?_
      intro u32 hu32 hn32
      refine qu rfl rfl hS (fun hg => (g_movev (hu32 hg))) ?_
      intro u33 hu33 hn33
      refine qn rfl hu33 hn33 hS (fun hg => (g_move _)) ?_
      intro u34 hu34 hn34
      refine qn rfl hu33 hn33 hS (fun hg => (g_movev (v := .int .i64 _) rfl)) ?_
      intro u35 hu35 hn35
      refine qn rfl hu33 hn33 hS (fun hg => (g_ixI Try.underlying51 Try.sizeOf4 h17 (hu34 hg) (hu35 hg) (by omega) (by omega))) ?_
      intro u36 hu36 hn36
      refine qn rfl hu33 hn33 hS (fun hg => (g_ldE1 Try.isAgg4 hvA (hu36 hg) rfl)) ?_
      intro u37 hu37 hn37
      refine qu rfl rfl hS (fun hg => (g_or (hu33 hg) rfl (fun hq => hu37 ⟨hg, hq⟩))) ?_
      intro u38 hu38 hn38
      refine qq hS (g_and rfl rfl (fun hq => hu38 hq)) ?_
      refine qq hS (g_movev (v := .bool _) rfl) ?_
      refine qu rfl rfl hS (fun hg => (g_move _)) ?_
      intro u41 hu41 hn41
      refine qu rfl rfl hS (fun hg => (g_movev (v := .int .i64 _) rfl)) ?_
      intro u42 hu42 hn42
      refine qu rfl rfl hS (fun hg => (g_ixI Try.underlying51 Try.sizeOf4 h13 (hu41 hg) (hu42 hg) (by omega) (by omega))) ?_
      intro u43 hu43 hn43
      refine qu rfl rfl hS (fun hg => (g_ldE1 Try.isAgg4 hrA (hu43 hg) rfl)) ?_
      intro u44 hu44 hn44
      refine qu rfl rfl hS (fun hg => (g_movev (hu44 hg))) ?_
      intro u45 hu45 hn45
      refine qn rfl hu45 hn45 hS (fun hg => (g_move _)) ?_
      intro u46 hu46 hn46
      refine qn rfl hu45 hn45 hS (fun hg => (g_movev (v := .int .i64 _) rfl)) ?_
      intro u47 hu47 hn47
      refine qn rfl hu45 hn45 hS (fun hg => (g_ixI Try.underlying51 Try.sizeOf4 h15 (hu46 hg) (hu47 hg) (by omega) (by omega))) ?_
      intro u48 hu48 hn48
      refine qn rfl hu45 hn45 hS (fun hg => (g_ldE1 Try.isAgg4 huA (hu48 hg) rfl)) ?_
      intro u49 hu49 hn49
      refine qu rfl rfl hS (fun hg => (g_and (hu45 hg) rfl (fun hq => hu49 ⟨hg, hq⟩))) ?_
      intro u50 hu50 hn50
      refine qq hS (g_or rfl rfl (fun hq => hu50 hq)) ?_
      refine ol_nil (thenN ?_)
      refine cond_s rfl ?_ ?_
      ·
        intro hc51
        clear hu29 hn29 hu30 hn30 hu31 hn31 hu32 hn32 hu33 hn33 hu34 hn34 hu35 hn35 hu36 hn36 hu37 hn37 hu38 hn38 hu41 hn41 hu42 hn42 hu43 hn43 hu44 hn44 hu45 hn45 hu46 hn46 hu47 hn47 hu48 hn48 hu49 hn49 hu50 hn50
        have hind : indep S T N = false := by unfold indep; rw [any_yes hi' (f := indepAt S T N) hc51]; rfl
        refine wpIn_seq ?_
        refine reg ?_
        refine qq hS (g_assignv (v := .bool _) rfl) ?_
        refine ol_nil (thenN ?_)
        refine wpIn_ret ?_
        refine blkR (thenR (thenR (blkR (thenR ?_))))
        refine ret1 Try.results48 (rv_tmp (v := .bool _) rfl) ?_
        exact ⟨_, by rw [hind], hS.nil⟩
      ·
        intro hc51
        clear hu29 hn29 hu30 hn30 hu31 hn31 hu32 hn32 hu33 hn33 hu34 hn34 hu35 hn35 hu36 hn36 hu37 hn37 hu38 hn38 hu41 hn41 hu42 hn42 hu43 hn43 hu44 hn44 hu45 hn45 hu46 hn46 hu47 hn47 hu48 hn48 hu49 hn49 hu50 hn50
        have hno : indepAt S T N i = false := hc51
        refine wpIn_skip ?_
        refine blkN (thenN ?_)
        refine reg ?_
        refine qq hS (g_movev (v := .int .i64 _) rfl) ?_
        refine qq hS (g_add rfl rfl (by omega) (by omega)) ?_
        refine qq hS (g_assignv (v := .int .i64 _) rfl) ?_
        refine ol_nil (thenN ?_)
        exact ⟨i + 1, _, rfl, ⟨⟨rfl, rfl, rfl, rfl, rfl, rfl, trivial⟩, hS.sel [true], by omega, fun j h => (Nat.lt_succ_iff_lt_or_eq.1 h).elim (hall j) (fun e => by rw [e]; exact hno)⟩, by omega⟩
    ·
      intro hc21
      try simp only [Bool.and_eq_true, Bool.or_eq_true, Bool.not_eq_true', Bool.and_eq_false_imp, Bool.or_eq_false_iff, Bool.not_eq_false', decide_eq_true_eq, decide_eq_false_iff_not] at hc21
      have hi : N = i := by omega
      subst hi
      refine wpIn_exit ?_
      refine thenE (thenE (blkE ?_))
      refine thenN ?_
      refine wpIn_seq ?_
      refine reg ?_
      refine qq hS (g_assignv (v := .bool _) rfl) ?_
      refine ol_nil (thenN ?_)
      refine wpIn_ret ?_
      refine ret1 Try.results48 (rv_tmp (v := .bool _) rfl) ?_
      exact ⟨_, by unfold indep; rw [all_no hall]; rfl, hS.nil⟩

set_option maxHeartbeats 1000000 in
theorem refCommute_E (p : PatL) (ad : Option Addr) (m cap : Nat) (q : PatL) (bd : Option Addr) (n capb : Nat) (A : ExcL) (w0 : World) (I0 : Imm) (hI : Sat I0 w0) (hp : p.wf) (hpo : ROps I0 (.slice ad m cap) p.ops) (hq : q.wf) (hqo : ROps I0 (.slice bd n capb) q.ops) (he : commuteP p q = A) :
    Ctr Try.prog 23 [.agg #[.bool p.lifted, .int .i64 p.in_, .int .i64 p.out, .slice ad m cap], .agg #[.bool q.lifted, .int .i64 q.in_, .int .i64 q.out, .slice bd n capb]] w0 (fun v w' => ∃ I' a m c b n d, v = .agg #[.bool A.q.lifted, .int .i64 A.q.in_, .int .i64 A.q.out, .slice a m c, .bool A.p.lifted, .int .i64 A.p.in_, .int .i64 A.p.out, .slice b n d, .int .i64 A.e] ∧ Ext w0 I0 w' I' ∧ ROps I' (.slice a m c) A.q.ops ∧ ROps I' (.slice b n d) A.p.ops) := by
  refine fn (n := 43) Try.func23 rfl rfl rfl ?_
  have hS := St.start hI
  refine wpIn_seq ?_
  refine reg ?_
  refine qe (d_box (cs := [.bool _, .int .i64 _, .int .i64 _, .slice _ _ _]) hS rfl) ?_
  clear hS
  rintro _ w_1 ⟨b2, rfl, hS⟩
  refine qe (d_box (cs := [.bool _, .int .i64 _, .int .i64 _, .slice _ _ _]) hS rfl) ?_
  clear hS
  rintro _ w_2 ⟨b3, rfl, hS⟩
  refine qe (d_alloc (cs := [.bool _, .int .i64 _, .int .i64 _, .slice _ _ _, .bool _, .int .i64 _, .int .i64 _, .slice _ _ _, .int .i64 _]) hS Try.zeroValue47 rfl) ?_
  clear hS
  rintro _ w_3 ⟨b4, rfl, hS⟩
  refine ol_nil (thenN ?_)
  refine wpIn_seq ?_
  refine reg ?_
  refine qq hS (g_ldO 2 (vs := [.bool _, .int .i64 _, .int .i64 _, .slice _ _ _]) Try.sizeOf31 Try.isAgg31 rfl rfl rfl rfl) ?_
  refine qq hS (g_ldO 1 (vs := [.bool _, .int .i64 _, .int .i64 _, .slice _ _ _]) Try.sizeOf31 Try.isAgg31 rfl rfl rfl rfl) ?_
  refine qe (d_lit (vs := [.agg #[.bool _, .int .i64 _, .int .i64 _, .slice _ _ _], .agg #[.bool _, .int .i64 _, .int .i64 _, .slice _ _ _]]) (cs := [.bool _, .int .i64 _, .int .i64 _, .slice _ _ _, .bool _, .int .i64 _, .int .i64 _, .slice _ _ _]) hS Try.underlying35 Try.sizeOf31 Try.zeroValue31 rfl rfl rfl rfl (fun v hv => by simp only [List.mem_cons, List.not_mem_nil, or_false] at hv; rcases hv with rfl | rfl <;> rfl) rfl) ?_
  clear hS
  rintro _ w_4 ⟨b12, rfl, hS⟩
  have hF := hS.freeze1
  clear hS
  obtain ⟨I12, hS, hI12, hb12⟩ := hF
  replace hpo := hpo.mono hI12
  replace hqo := hqo.mono hI12
  have h12 : RPats _ (.slice (some ⟨b12, 0, none⟩) 2 2) [p, q] := RSl.ofAt (css := [[.bool p.lifted, .int .i64 p.in_, .int .i64 p.out, .slice ad m cap], [.bool q.lifted, .int .i64 q.in_, .int .i64 q.out, .slice bd n capb]]) hb12 rfl (by simp) (All2.two ⟨_, _, _, rfl, hpo⟩ ⟨_, _, _, rfl, hqo⟩) rfl (by show 2 ≤ maxLen; decide)
  refine qe (d_call Try.call40 rfl (check11_c [p, q] (some ⟨b12, 0, none⟩) 2 _ _ hS.imm h12 (two_wf hp hq) (by simp) (by simp))) ?_
  rintro _ w_5 ⟨rfl, hE⟩
  replace hS := hS.callE hE
  refine qq hS (g_assignv (v := .int .i64 _) rfl) ?_
  refine ol_nil (thenN ?_)
  refine wpIn_seq ?_
  refine wpIn_seq ?_
  refine reg ?_
  refine qq hS (g_movev (v := .int .i64 _) rfl) ?_
  refine qq hS (g_neq rfl rfl) ?_
  refine ol_nil (thenN ?_)
  refine cond_s rfl ?_ ?_
  ·
    intro hc15
    try simp only [Bool.and_eq_true, Bool.or_eq_true, Bool.not_eq_true', Bool.and_eq_false_imp, Bool.or_eq_false_iff, Bool.not_eq_false', decide_eq_true_eq, decide_eq_false_iff_not] at hc15
    have e : A = ⟨PatL.zero, PatL.zero, checkM [p, q]⟩ := by rw [← he]; unfold commuteP; rw [if_pos hc15]
    subst e
    refine wpIn_seq ?_
    refine reg ?_
    refine qq hS (g_movev (v := .int .i64 _) rfl) ?_
    refine qq hS (g_buildv (pl := [(0, 4), (4, 4), (8, 1)]) (cs := [.bool _, .int .i64 _, .int .i64 _, .slice _ _ _, .bool _, .int .i64 _, .int .i64 _, .slice _ _ _, .int .i64 _]) Try.zeroValue47 Try.underlying47 (fun w => by simp [Try.sizeOf31, Try.sizeOf37]) (mp (v := .int .i64 _) rfl mp0) rfl) ?_
    refine qe (d_store 0 hS Try.sizeOf47 rfl rfl rfl (vs := [.bool _, .int .i64 _, .int .i64 _, .slice _ _ _, .bool _, .int .i64 _, .int .i64 _, .slice _ _ _, .int .i64 _]) rfl rfl rfl (Nat.le_of_ble_eq_true rfl) (cs' := [_, _, _, _, _, _, _, _, _]) rfl) ?_
    clear hS
    rintro _ w_6 ⟨rfl, hS⟩
    refine ol_nil (thenN ?_)
    refine wpIn_ret ?_
    refine thenR ?_
    refine ret1 Try.results23 (rv_cel 0 hS Try.sizeOf47 Try.isAgg47 rfl rfl rfl) ?_
    exact ⟨_, none, 0, 0, none, 0, 0, rfl, hS.nil, RSl.nilR, RSl.nilR⟩
  ·
    intro hc15
    try simp only [Bool.and_eq_true, Bool.or_eq_true, Bool.not_eq_true', Bool.and_eq_false_imp, Bool.or_eq_false_iff, Bool.not_eq_false', decide_eq_true_eq, decide_eq_false_iff_not] at hc15
    obtain ⟨S, T, N, hA, hB, hlq⟩ := even_two hc15
    have hNb := hA.b
    have hin := hA.i
    have hSn := hA.n
    have hTn := hB.n
    have htl := marks_len N (touched S)
    have hul := marks_len N (touched T)
    have hrl := marks_len N (readUp S N)
    have hvl := marks_len N (readUp T N)
    have hie := indep_eq hSn hTn
    have e0 : A = if (disturbs S T || disturbs T S) = true then ⟨PatL.zero, PatL.zero, 110⟩ else if (formP q).2 ≠ 0 ∨ (formP p).2 ≠ 0 then ⟨PatL.zero, PatL.zero, 2⟩ else ⟨(formP q).1, (formP p).1, 0⟩ := by rw [← he]; unfold commuteP; rw [if_neg (by rw [hc15]; decide), hA.s, hB.s]
    clear he
    obtain ⟨F, hF⟩ : ∃ F, formP q = F := ⟨_, rfl⟩
    obtain ⟨G, hG⟩ : ∃ F, formP p = F := ⟨_, rfl⟩
    rw [hF, hG] at e0
    refine wpIn_skip ?_
    refine thenN ?_
    refine wpIn_seq ?_
    refine wpIn_seq ?_
    refine reg ?_
    refine qq hS (g_ldO 2 (vs := [.bool _, .int .i64 _, .int .i64 _, .slice _ _ _]) Try.sizeOf31 Try.isAgg31 rfl rfl rfl rfl) ?_
    refine qq hS (g_ldO 1 (vs := [.bool _, .int .i64 _, .int .i64 _, .slice _ _ _]) Try.sizeOf31 Try.isAgg31 rfl rfl rfl rfl) ?_
    refine qe (d_call Try.call48 rfl (independent_c p S N ad m cap T q bd n capb _ _ hS.imm hp hpo hq hqo hA hB)) ?_
    rintro _ w_7 ⟨I_f, rfl, hE⟩
    replace hS := hS.callE hE
    replace hpo := hpo.mono hE.ext
    replace hqo := hqo.mono hE.ext
    replace h12 := h12.mono hE.ext
    refine qq hS (g_not rfl) ?_
    refine ol_nil (thenN ?_)
    refine cond_s rfl ?_ ?_
    ·
      intro hc21
      rw [if_pos (by rw [hie] at hc21; simpa using hc21)] at e0
      subst e0
      refine wpIn_seq ?_
      refine reg ?_
      refine qq hS (g_buildv (pl := [(0, 4), (4, 4), (8, 1)]) (cs := [.bool _, .int .i64 _, .int .i64 _, .slice _ _ _, .bool _, .int .i64 _, .int .i64 _, .slice _ _ _, .int .i64 _]) Try.zeroValue47 Try.underlying47 (fun w => by simp [Try.sizeOf31, Try.sizeOf37]) (mp (v := .int .i64 _) rfl mp0) rfl) ?_
      refine qe (d_store 0 hS Try.sizeOf47 rfl rfl rfl (vs := [.bool _, .int .i64 _, .int .i64 _, .slice _ _ _, .bool _, .int .i64 _, .int .i64 _, .slice _ _ _, .int .i64 _]) rfl rfl rfl (Nat.le_of_ble_eq_true rfl) (cs' := [_, _, _, _, _, _, _, _, _]) rfl) ?_
      clear hS
      rintro _ w_8 ⟨rfl, hS⟩
      refine ol_nil (thenN ?_)
      refine wpIn_ret ?_
      refine thenR ?_
      refine ret1 Try.results23 (rv_cel 0 hS Try.sizeOf47 Try.isAgg47 rfl rfl rfl) ?_
      exact ⟨_, none, 0, 0, none, 0, 0, rfl, hS.nil, RSl.nilR, RSl.nilR⟩
    ·
      intro hc21
      rw [if_neg (by rw [hie] at hc21; simpa using hc21)] at e0
      refine wpIn_skip ?_
      refine thenN ?_
      refine wpIn_seq ?_
      refine reg ?_
      refine qq hS (g_ldO 1 (vs := [.bool _, .int .i64 _, .int .i64 _, .slice _ _ _]) Try.sizeOf31 Try.isAgg31 rfl rfl rfl rfl) ?_
      refine qe (d_call Try.call49 rfl (refForm_M q F _ _ _ _ _ hS.imm hqo hq hF)) ?_
      rintro _ w_9 ⟨I_f, a46, m46, c46, rfl, hE, h46⟩
      replace hS := hS.callE hE
      replace hpo := hpo.mono hE.ext
      replace hqo := hqo.mono hE.ext
      replace h12 := h12.mono hE.ext
      refine qq hS (g_move _) ?_
      refine qq hS (g_extract rfl rfl) ?_
      refine qq hS (g_extract (v := .int .i64 _) rfl rfl) ?_
      refine qe (d_alloc (cs := [.bool _, .int .i64 _, .int .i64 _, .slice _ _ _]) hS Try.zeroValue31 rfl) ?_
      clear hS
      rintro _ w_10 ⟨b6, rfl, hS⟩
      refine qe (d_store 0 hS Try.sizeOf31 rfl rfl rfl (vs := [.bool _, .int .i64 _, .int .i64 _, .slice _ _ _]) rfl rfl rfl (Nat.le_of_ble_eq_true rfl) (cs' := [_, _, _, _]) rfl) ?_
      clear hS
      rintro _ w_11 ⟨rfl, hS⟩
      refine qq hS (g_assignv (v := .int .i64 _) rfl) ?_
      refine ol_nil (thenN ?_)
      refine wpIn_seq ?_
      refine reg ?_
      refine qq hS (g_ldO 3 (vs := [.bool _, .int .i64 _, .int .i64 _, .slice _ _ _]) Try.sizeOf31 Try.isAgg31 rfl rfl rfl rfl) ?_
      refine qe (d_call Try.call49 rfl (refForm_M p G _ _ _ _ _ hS.imm hpo hp hG)) ?_
      rintro _ w_12 ⟨I_f, a51, m51, c51, rfl, hE, h51⟩
      replace hS := hS.callE hE
      replace hpo := hpo.mono hE.ext
      replace hqo := hqo.mono hE.ext
      replace h12 := h12.mono hE.ext
      replace h46 := h46.mono hE.ext
      refine qq hS (g_move _) ?_
      refine qq hS (g_extract rfl rfl) ?_
      refine qq hS (g_extract (v := .int .i64 _) rfl rfl) ?_
      refine qe (d_alloc (cs := [.bool _, .int .i64 _, .int .i64 _, .slice _ _ _]) hS Try.zeroValue31 rfl) ?_
      clear hS
      rintro _ w_13 ⟨b8, rfl, hS⟩
      refine qe (d_store 0 hS Try.sizeOf31 rfl rfl rfl (vs := [.bool _, .int .i64 _, .int .i64 _, .slice _ _ _]) rfl rfl rfl (Nat.le_of_ble_eq_true rfl) (cs' := [_, _, _, _]) rfl) ?_
      clear hS
      rintro _ w_14 ⟨rfl, hS⟩
      refine qq hS (g_assignv (v := .int .i64 _) rfl) ?_
      refine ol_nil (thenN ?_)
      refine wpIn_seq ?_
      refine wpIn_seq ?_
      refine reg ?_
      refine qq hS (g_movev (v := .int .i64 _) rfl) ?_
      refine qq hS (g_neq rfl rfl) ?_
      refine qq hS (g_movev (v := .bool _) rfl) ?_
      refine qu rfl rfl hS (fun hg => (g_movev (v := .int .i64 _) rfl)) ?_
      intro u36 hu36 hn36
      refine qu rfl rfl hS (fun hg => (g_neq (hu36 hg) rfl)) ?_
      intro u37 hu37 hn37
      refine qq hS (g_or rfl rfl (fun hq => hu37 hq)) ?_
      refine ol_nil (thenN ?_)
      refine cond_s rfl ?_ ?_
      ·
        intro hc38
        clear hu36 hn36 hu37 hn37
        try simp only [Bool.and_eq_true, Bool.or_eq_true, Bool.not_eq_true', Bool.and_eq_false_imp, Bool.or_eq_false_iff, Bool.not_eq_false', decide_eq_true_eq, decide_eq_false_iff_not] at hc38
        rw [if_pos (by simpa using hc38)] at e0
        subst e0
        refine wpIn_seq ?_
        refine reg ?_
        refine qq hS (g_buildv (pl := [(0, 4), (4, 4), (8, 1)]) (cs := [.bool _, .int .i64 _, .int .i64 _, .slice _ _ _, .bool _, .int .i64 _, .int .i64 _, .slice _ _ _, .int .i64 _]) Try.zeroValue47 Try.underlying47 (fun w => by simp [Try.sizeOf31, Try.sizeOf37]) (mp (v := .int .i64 _) rfl mp0) rfl) ?_
        refine qe (d_store 2 hS Try.sizeOf47 rfl rfl rfl (vs := [.bool _, .int .i64 _, .int .i64 _, .slice _ _ _, .bool _, .int .i64 _, .int .i64 _, .slice _ _ _, .int .i64 _]) rfl rfl rfl (Nat.le_of_ble_eq_true rfl) (cs' := [_, _, _, _, _, _, _, _, _]) rfl) ?_
        clear hS
        rintro _ w_15 ⟨rfl, hS⟩
        refine ol_nil (thenN ?_)
        refine wpIn_ret ?_
        refine thenR ?_
        refine ret1 Try.results23 (rv_cel 2 hS Try.sizeOf47 Try.isAgg47 rfl rfl rfl) ?_
        exact ⟨_, none, 0, 0, none, 0, 0, rfl, hS.nil, RSl.nilR, RSl.nilR⟩
      ·
        intro hc38
        clear hu36 hn36 hu37 hn37
        try simp only [Bool.and_eq_true, Bool.or_eq_true, Bool.not_eq_true', Bool.and_eq_false_imp, Bool.or_eq_false_iff, Bool.not_eq_false', decide_eq_true_eq, decide_eq_false_iff_not] at hc38
        rw [if_neg (by simpa using hc38)] at e0
        subst e0
        refine wpIn_skip ?_
        refine thenN ?_
        refine wpIn_seq ?_
        refine reg ?_
        refine qq hS (g_ldO 1 (vs := [.bool _, .int .i64 _, .int .i64 _, .slice _ _ _]) Try.sizeOf31 Try.isAgg31 rfl rfl rfl rfl) ?_
        refine qq hS (g_ldO 0 (vs := [.bool _, .int .i64 _, .int .i64 _, .slice _ _ _]) Try.sizeOf31 Try.isAgg31 rfl rfl rfl rfl) ?_
        refine qq hS (g_buildv (pl := [(0, 4), (4, 4), (8, 1)]) (cs := [.bool _, .int .i64 _, .int .i64 _, .slice _ _ _, .bool _, .int .i64 _, .int .i64 _, .slice _ _ _, .int .i64 _]) Try.zeroValue47 Try.underlying47 (fun w => by simp [Try.sizeOf31, Try.sizeOf37]) (mp (v := .agg #[.bool _, .int .i64 _, .int .i64 _, .slice _ _ _]) rfl (mp (v := .agg #[.bool _, .int .i64 _, .int .i64 _, .slice _ _ _]) rfl mp0)) (fill_two _ _ _ _ _ _ _ _ _ _ _ _ _ _ _ _ _)) ?_
        refine qe (d_store 2 hS Try.sizeOf47 rfl rfl rfl (vs := [.bool _, .int .i64 _, .int .i64 _, .slice _ _ _, .bool _, .int .i64 _, .int .i64 _, .slice _ _ _, .int .i64 _]) rfl rfl rfl (Nat.le_of_ble_eq_true rfl) (cs' := [_, _, _, _, _, _, _, _, _]) rfl) ?_
        clear hS
        rintro _ w_16 ⟨rfl, hS⟩
        refine ol_nil (thenN ?_)
        refine wpIn_ret ?_
        refine ret1 Try.results23 (rv_cel 2 hS Try.sizeOf47 Try.isAgg47 rfl rfl rfl) ?_
        exact ⟨_, a46, m46, c46, a51, m51, c51, rfl, hS.nil, h46, h51⟩

set_option maxHeartbeats 1000000 in
theorem in11_c (l : List (Int × Int)) (i : Int) (ad : Option Addr) (cap : Nat) (w0 : World) (I0 : Imm) (hI : Sat I0 w0) (hl : RRgs I0 (.slice ad l.length cap) l) (hm : ∀ r ∈ l, Mid r.1 ∧ Mid r.2) :
    Ctr Try.prog 27 [.slice ad l.length cap, .int .i64 i] w0 (fun v w' => v = .bool (inR l i) ∧ Ext w0 I0 w' I0) := by
  have hle := RSl.le hl
  simp only [maxLen] at hle
  refine fn (n := 25) Try.func27 rfl rfl rfl ?_
  have hS := St.start hI
  refine wpIn_seq ?_
  refine reg ?_
  refine qq hS (g_assignv (v := .bool _) rfl) ?_
  refine ol_nil (thenN ?_)
  refine wpIn_seq ?_
  refine wpIn_seq ?_
  refine reg ?_
  refine qq hS (g_assignv (v := .int .i64 _) rfl) ?_
  refine ol_nil (thenN ?_)
  refine wpIn_block ?_
  refine loop (fun (k : Nat) σ w => okS σ [(0, .slice ad l.length cap), (1, .int .i64 i), (5, .int .i64 k)] ∧ St [] w0 I0 I0 w [] ∧ k ≤ l.length ∧ ∀ r ∈ l.take k, inS i r.1 (r.2 - 1) = false) (fun k => l.length - k) (0) ?_ ?_
  ·
    exact ⟨⟨rfl, rfl, rfl, trivial⟩, hS.sel [], by simp, by simp⟩
  ·
    rintro k σ w_l ⟨hs, hS, hk0, hall⟩
    rw [← upds_self hs]; clear hs
    refine wpIn_seq ?_
    refine wpIn_seq ?_
    refine reg ?_
    refine qq hS (g_movev (v := .int .i64 _) rfl) ?_
    refine qq hS (g_move _) ?_
    refine qq hS (g_lenI rfl Try.underlying36 hl rfl) ?_
    refine qq hS (g_lss rfl rfl) ?_
    refine ol_nil (thenN ?_)
    refine cond_s rfl ?_ ?_
    ·
      intro hc9
      try simp only [Bool.and_eq_true, Bool.or_eq_true, Bool.not_eq_true', Bool.and_eq_false_imp, Bool.or_eq_false_iff, Bool.not_eq_false', decide_eq_true_eq, decide_eq_false_iff_not] at hc9
      obtain ⟨r, hri⟩ : ∃ r, l[k]? = some r := ⟨_, List.getElem?_eq_getElem (by omega)⟩
      have hrA := hl.at hri
      obtain ⟨hr1, hr2⟩ := rgMid hm hri
      refine wpIn_skip ?_
      refine thenN ?_
      refine wpIn_seq ?_
      refine wpIn_block ?_
      refine wpIn_seq ?_
      refine draw (.cons 0 .pure (.cons 1 .pure (.cons 2 .pure (.cons 3 .pure (.cons 4 .pure (.cons 5 .held (.cons 6 .pure (.cons 7 .pure (.cons 8 .pure (.cons 9 .pure (.cons 10 .held (.cons 11 .pure (.cons 12 .eff .nil))))))))))))) mixed (by kernel_rfl) hS ?_
      intro w_1 hS
      refine sp rfl (g_movev (v := .int .i64 _) rfl) ?_
      refine sp rfl (g_move _) ?_
      refine sp rfl (g_movev (v := .int .i64 _) rfl) ?_
      refine sp rfl (g_ixI Try.underlying36 Try.sizeOf73 hl rfl rfl (by omega) (by omega)) ?_
      refine sp rfl (g_fieldE (c' := 0) Try.underlying73 rfl Try.sizeOf3 rfl rfl rfl) ?_
      refine sh rfl (g_ldE1 Try.isAgg3 hrA rfl rfl) ?_
      refine sp rfl (g_move _) ?_
      refine sp rfl (g_movev (v := .int .i64 _) rfl) ?_
      refine sp rfl (g_ixI Try.underlying36 Try.sizeOf73 hl rfl rfl (by omega) (by omega)) ?_
      refine sp rfl (g_fieldE (c' := 1) Try.underlying73 rfl Try.sizeOf3 rfl rfl rfl) ?_
      refine sh rfl (g_ldE1 Try.isAgg3 hrA rfl rfl) ?_
      refine sp rfl (g_sub rfl rfl (by omega) (by omega)) ?_
      have hS0 := hS
      refine se rfl (d_call Try.call52 rfl (refIn_c _ _ _ _ _ hS.imm)) ?_
      rintro _ w_2 ⟨rfl, hE⟩
      replace hS := hS.call hE
      refine ⟨_, _, hS0.le hE.ext (List.Sublist.refl _), hS, ?_⟩
      refine sn (thenN ?_)
      refine cond_s rfl ?_ ?_
      ·
        intro hc24
        have e : inR l i = true := List.any_eq_true.2 ⟨r, List.mem_of_getElem? hri, hc24⟩
        refine wpIn_seq ?_
        refine reg ?_
        refine qq hS (g_assignv (v := .bool _) rfl) ?_
        refine ol_nil (thenN ?_)
        refine wpIn_ret ?_
        refine blkR (thenR (thenR (blkR (thenR ?_))))
        refine ret1 Try.results27 (rv_tmp (v := .bool _) rfl) ?_
        rw [e]; exact ⟨rfl, hS.nil⟩
      ·
        intro hc24
        refine wpIn_skip ?_
        refine blkN (thenN ?_)
        refine reg ?_
        refine qq hS (g_movev (v := .int .i64 _) rfl) ?_
        refine qq hS (g_add rfl rfl (by omega) (by omega)) ?_
        refine qq hS (g_assignv (v := .int .i64 _) rfl) ?_
        refine ol_nil (thenN ?_)
        exact ⟨k + 1, _, rfl, ⟨⟨rfl, rfl, rfl, trivial⟩, hS.sel [], by omega, any_take (q := fun (r : Int × Int) => inS i r.1 (r.2 - 1)) hri hall hc24⟩, by omega⟩
    ·
      intro hc9
      try simp only [Bool.and_eq_true, Bool.or_eq_true, Bool.not_eq_true', Bool.and_eq_false_imp, Bool.or_eq_false_iff, Bool.not_eq_false', decide_eq_true_eq, decide_eq_false_iff_not] at hc9
      have hk : k = l.length := by omega
      subst hk
      rw [List.take_length] at hall
      refine wpIn_exit ?_
      refine thenE (thenE (blkE ?_))
      refine thenN ?_
      refine wpIn_seq ?_
      refine reg ?_
      refine qq hS (g_assignv (v := .bool _) rfl) ?_
      refine ol_nil (thenN ?_)
      refine wpIn_ret ?_
      refine ret1 Try.results27 (rv_tmp (v := .bool _) rfl) ?_
      exact ⟨by unfold inR; rw [List.any_eq_false.2 (fun r hr => by rw [hall r hr]; decide)], hS.nil⟩

set_option maxHeartbeats 1000000 in
theorem right11_c (l : List (Int × Int)) (n : Int) (ad : Option Addr) (cap : Nat) (w0 : World) (I0 : Imm) (hI : Sat I0 w0) (hl : RRgs I0 (.slice ad l.length cap) l) :
    Ctr Try.prog 24 [.slice ad l.length cap, .int .i64 n] w0 (fun v w' => v = .bool (rightL l n) ∧ Ext w0 I0 w' I0) := by
  have hle := RSl.le hl
  simp only [maxLen] at hle
  refine fn (n := 58) Try.func24 rfl rfl rfl ?_
  have hS := St.start hI
  refine wpIn_seq ?_
  refine reg ?_
  refine qq hS (g_assignv (v := .bool _) rfl) ?_
  refine ol_nil (thenN ?_)
  refine wpIn_seq ?_
  refine wpIn_seq ?_
  refine reg ?_
  refine qq hS (g_assignv (v := .int .i64 _) rfl) ?_
  refine ol_nil (thenN ?_)
  refine wpIn_block ?_
  refine loop (fun (k : Nat) σ w => okS σ [(0, .slice ad l.length cap), (1, .int .i64 n), (5, .int .i64 k)] ∧ St [] w0 I0 I0 w [] ∧ k ≤ l.length ∧ ∀ j, j < k → rightAt l n j = true) (fun k => l.length - k) (0) ?_ ?_
  ·
    exact ⟨⟨rfl, rfl, rfl, trivial⟩, hS.sel [], by simp, fun j h => absurd h (Nat.not_lt_zero j)⟩
  ·
    rintro k σ w_l ⟨hs, hS, hk0, hall⟩
    rw [← upds_self hs]; clear hs
    refine wpIn_seq ?_
    refine wpIn_seq ?_
    refine reg ?_
    refine qq hS (g_movev (v := .int .i64 _) rfl) ?_
    refine qq hS (g_move _) ?_
    refine qq hS (g_lenI rfl Try.underlying36 hl rfl) ?_
    refine qq hS (g_lss rfl rfl) ?_
    refine ol_nil (thenN ?_)
    refine cond_s rfl ?_ ?_
    ·
      intro hc9
      try simp only [Bool.and_eq_true, Bool.or_eq_true, Bool.not_eq_true', Bool.and_eq_false_imp, Bool.or_eq_false_iff, Bool.not_eq_false', decide_eq_true_eq, decide_eq_false_iff_not] at hc9
      obtain ⟨r, hri⟩ : ∃ r, l[k]? = some r := ⟨_, List.getElem?_eq_getElem (by omega)⟩
      have hrA := hl.at hri
      have hpi : 0 < k → l[((k : Int) - 1).toNat]? = some (l.getD (k - 1) (0, 0)) := fun h => by
        rw [show ((k : Int) - 1).toNat = k - 1 by omega, List.getElem?_eq_getElem (show k - 1 < l.length by omega)]
        rw [List.getD_eq_getElem?_getD, List.getElem?_eq_getElem (show k - 1 < l.length by omega)]; rfl
      have hpA := fun h => hl.at (hpi h)
      have hkl : k < l.length := by omega
      have hra : rightAt l n k = !(((decide (r.1 < 0) || decide (r.2 ≤ r.1)) || decide (n < r.2)) || (decide ((0 : Int) < k) && decide (r.1 ≤ (l.getD (k - 1) (0, 0)).2))) := by
        unfold rightAt
        rw [getD_at hri]
        simp only [Int.natCast_pos]
      refine wpIn_skip ?_
      refine thenN ?_
      refine wpIn_seq ?_
      refine wpIn_block ?_
      refine wpIn_seq ?_
      refine draw (.cons 0 .pure (.cons 1 .pure (.cons 2 .pure (.cons 3 .pure (.cons 4 .held (.cons 5 .pure (.cons 6 .pure (.cons 7 .pure (.cons 8 .pure (.cons 9 .pure (.cons 10 .pure (.cons 11 .held (.cons 12 .pure (.cons 13 .pure (.cons 14 .pure (.cons 15 .pure (.cons 16 .held (.cons 17 .pure (.cons 18 .pure (.cons 19 .pure (.cons 20 .pure (.cons 21 .pure (.cons 22 .pure (.cons 23 .pure (.cons 24 .held (.cons 25 .pure (.cons 26 .pure (.cons 27 .pure (.cons 28 .pure (.cons 29 .pure (.cons 30 .pure (.cons 31 .pure (.cons 32 .pure (.cons 33 .pure (.cons 34 .pure (.cons 35 .pure (.cons 36 .pure (.cons 37 .held (.cons 38 .pure (.cons 39 .pure (.cons 40 .pure (.cons 41 .pure (.cons 42 .held (.cons 43 .pure (.cons 44 .pure (.cons 45 .pure .nil)))))))))))))))))))))))))))))))))))))))))))))) mixed (by kernel_rfl) hS ?_
      intro w_1 hS
      refine sp rfl (g_move _) ?_
      refine sp rfl (g_movev (v := .int .i64 _) rfl) ?_
      refine sp rfl (g_ixI Try.underlying36 Try.sizeOf73 hl rfl rfl (by omega) (by omega)) ?_
      refine sp rfl (g_fieldE (c' := 0) Try.underlying73 rfl Try.sizeOf3 rfl rfl rfl) ?_
      refine sh rfl (g_ldE1 Try.isAgg3 hrA rfl rfl) ?_
      refine sp rfl (g_lss rfl rfl) ?_
      refine sp rfl (g_movev (v := .bool _) rfl) ?_
      refine spu rfl rfl rfl (fun hg => (g_move _)) ?_
      intro u19 hu19 hn19
      refine spu rfl rfl rfl (fun hg => (g_movev (v := .int .i64 _) rfl)) ?_
      intro u20 hu20 hn20
      refine spu rfl rfl rfl (fun hg => (g_ixI Try.underlying36 Try.sizeOf73 hl (hu19 hg) (hu20 hg) (by omega) (by omega))) ?_
      intro u21 hu21 hn21
      refine spu rfl rfl rfl (fun hg => (g_fieldE (c' := 0) Try.underlying73 rfl Try.sizeOf3 rfl (hu21 hg) rfl)) ?_
      intro u22 hu22 hn22
      refine shu rfl rfl rfl (fun hg => (g_ldE1 Try.isAgg3 hrA (hu22 hg) rfl)) ?_
      intro u23 hu23 hn23
      refine spu rfl rfl rfl (fun hg => (g_move _)) ?_
      intro u24 hu24 hn24
      refine spu rfl rfl rfl (fun hg => (g_movev (v := .int .i64 _) rfl)) ?_
      intro u25 hu25 hn25
      refine spu rfl rfl rfl (fun hg => (g_ixI Try.underlying36 Try.sizeOf73 hl (hu24 hg) (hu25 hg) (by omega) (by omega))) ?_
      intro u26 hu26 hn26
      refine spu rfl rfl rfl (fun hg => (g_fieldE (c' := 1) Try.underlying73 rfl Try.sizeOf3 rfl (hu26 hg) rfl)) ?_
      intro u27 hu27 hn27
      refine shu rfl rfl rfl (fun hg => (g_ldE1 Try.isAgg3 hrA (hu27 hg) rfl)) ?_
      intro u28 hu28 hn28
      refine spu rfl rfl rfl (fun hg => (g_geq (hu23 hg) (hu28 hg))) ?_
      intro u29 hu29 hn29
      refine sp rfl (g_or rfl rfl (fun hq => hu29 hq)) ?_
      refine sp rfl (g_movev (v := .bool _) rfl) ?_
      refine spu rfl rfl rfl (fun hg => (g_move _)) ?_
      intro u32 hu32 hn32
      refine spu rfl rfl rfl (fun hg => (g_movev (v := .int .i64 _) rfl)) ?_
      intro u33 hu33 hn33
      refine spu rfl rfl rfl (fun hg => (g_ixI Try.underlying36 Try.sizeOf73 hl (hu32 hg) (hu33 hg) (by omega) (by omega))) ?_
      intro u34 hu34 hn34
      refine spu rfl rfl rfl (fun hg => (g_fieldE (c' := 1) Try.underlying73 rfl Try.sizeOf3 rfl (hu34 hg) rfl)) ?_
      intro u35 hu35 hn35
      refine shu rfl rfl rfl (fun hg => (g_ldE1 Try.isAgg3 hrA (hu35 hg) rfl)) ?_
      intro u36 hu36 hn36
      refine spu rfl rfl rfl (fun hg => (g_movev (v := .int .i64 _) rfl)) ?_
      intro u37 hu37 hn37
      refine spu rfl rfl rfl (fun hg => (g_gtr (hu36 hg) (hu37 hg))) ?_
      intro u38 hu38 hn38
      refine sp rfl (g_or rfl rfl (fun hq => hu38 hq)) ?_
      refine sp rfl (g_movev (v := .bool _) rfl) ?_
      refine spu rfl rfl rfl (fun hg => (g_movev (v := .int .i64 _) rfl)) ?_
      intro u41 hu41 hn41
      refine spu rfl rfl rfl (fun hg => (g_gtr (hu41 hg) rfl)) ?_
      intro u42 hu42 hn42
      refine spu rfl rfl rfl (fun hg => (g_movev (hu42 hg))) ?_
      intro u43 hu43 hn43
      refine spn (P := Try.prog) rfl rfl (C := _) hu43 hn43 (fun hg => (g_move _)) ?_
      intro u44 hu44 hn44
      refine spn (P := Try.prog) rfl rfl (C := _) hu43 hn43 (fun hg => (g_movev (v := .int .i64 _) rfl)) ?_
      intro u45 hu45 hn45
      refine spn (P := Try.prog) rfl rfl (C := _) hu43 hn43 (fun hg => (g_sub (hu45 hg) rfl (by omega) (by omega))) ?_
      intro u46 hu46 hn46
      refine spn (P := Try.prog) rfl rfl (C := _) hu43 hn43 (fun hg => (g_ixI Try.underlying36 Try.sizeOf73 hl (hu44 hg) (hu46 hg) (by have := of_decide_eq_true hg.2; omega) (by have := of_decide_eq_true hg.2; omega))) ?_
      intro u47 hu47 hn47
      refine spn (P := Try.prog) rfl rfl (C := _) hu43 hn43 (fun hg => (g_fieldE (c' := 1) Try.underlying73 rfl Try.sizeOf3 rfl (hu47 hg) rfl)) ?_
      intro u48 hu48 hn48
      refine shn (P := Try.prog) rfl rfl (C := _) hu43 hn43 (fun hg => (g_ldE1 Try.isAgg3 (hpA (by have := of_decide_eq_true hg.2; omega)) (hu48 hg) rfl)) ?_
      intro u49 hu49 hn49
      refine spn (P := Try.prog) rfl rfl (C := _) hu43 hn43 (fun hg => (g_move _)) ?_
      intro u50 hu50 hn50
      refine spn (P := Try.prog) rfl rfl (C := _) hu43 hn43 (fun hg => (g_movev (v := .int .i64 _) rfl)) ?_
      intro u51 hu51 hn51
      refine spn (P := Try.prog) rfl rfl (C := _) hu43 hn43 (fun hg => (g_ixI Try.underlying36 Try.sizeOf73 hl (hu50 hg) (hu51 hg) (by omega) (by omega))) ?_
      intro u52 hu52 hn52
      refine spn (P := Try.prog) rfl rfl (C := _) hu43 hn43 (fun hg => (g_fieldE (c' := 0) Try.underlying73 rfl Try.sizeOf3 rfl (hu52 hg) rfl)) ?_
      intro u53 hu53 hn53
      refine shn (P := Try.prog) rfl rfl (C := _) hu43 hn43 (fun hg => (g_ldE1 Try.isAgg3 hrA (hu53 hg) rfl)) ?_
      intro u54 hu54 hn54
      refine spn (P := Try.prog) rfl rfl (C := _) hu43 hn43 (fun hg => (g_geq (hu49 hg) (hu54 hg))) ?_
      intro u55 hu55 hn55
      refine spu rfl rfl rfl (fun hg => (g_and (hu43 hg) rfl (fun hq => hu55 ⟨hg, hq⟩))) ?_
      intro u56 hu56 hn56
      refine sp rfl (g_or rfl rfl (fun hq => hu56 hq)) ?_
      refine sn (thenN ?_)
      refine cond_s rfl ?_ ?_
      ·
        intro hc57
        clear hu19 hn19 hu20 hn20 hu21 hn21 hu22 hn22 hu23 hn23 hu24 hn24 hu25 hn25 hu26 hn26 hu27 hn27 hu28 hn28 hu29 hn29 hu32 hn32 hu33 hn33 hu34 hn34 hu35 hn35 hu36 hn36 hu37 hn37 hu38 hn38 hu41 hn41 hu42 hn42 hu43 hn43 hu44 hn44 hu45 hn45 hu46 hn46 hu47 hn47 hu48 hn48 hu49 hn49 hu50 hn50 hu51 hn51 hu52 hn52 hu53 hn53 hu54 hn54 hu55 hn55 hu56 hn56
        have e : rightL l n = false := all_not hkl (by rw [hra, hc57]; rfl)
        refine wpIn_seq ?_
        refine reg ?_
        refine qq hS (g_assignv (v := .bool _) rfl) ?_
        refine ol_nil (thenN ?_)
        refine wpIn_ret ?_
        refine blkR (thenR (thenR (blkR (thenR ?_))))
        refine ret1 Try.results24 (rv_tmp (v := .bool _) rfl) ?_
        rw [e]; exact ⟨rfl, hS.nil⟩
      ·
        intro hc57
        clear hu19 hn19 hu20 hn20 hu21 hn21 hu22 hn22 hu23 hn23 hu24 hn24 hu25 hn25 hu26 hn26 hu27 hn27 hu28 hn28 hu29 hn29 hu32 hn32 hu33 hn33 hu34 hn34 hu35 hn35 hu36 hn36 hu37 hn37 hu38 hn38 hu41 hn41 hu42 hn42 hu43 hn43 hu44 hn44 hu45 hn45 hu46 hn46 hu47 hn47 hu48 hn48 hu49 hn49 hu50 hn50 hu51 hn51 hu52 hn52 hu53 hn53 hu54 hn54 hu55 hn55 hu56 hn56
        have hok : rightAt l n k = true := by rw [hra, hc57]; rfl
        refine wpIn_skip ?_
        refine blkN (thenN ?_)
        refine reg ?_
        refine qq hS (g_movev (v := .int .i64 _) rfl) ?_
        refine qq hS (g_add rfl rfl (by omega) (by omega)) ?_
        refine qq hS (g_assignv (v := .int .i64 _) rfl) ?_
        refine ol_nil (thenN ?_)
        exact ⟨k + 1, _, rfl, ⟨⟨rfl, rfl, rfl, trivial⟩, hS.sel [], by omega, fun j h => (Nat.lt_succ_iff_lt_or_eq.1 h).elim (hall j) (fun e => by rw [e]; exact hok)⟩, by omega⟩
    ·
      intro hc9
      try simp only [Bool.and_eq_true, Bool.or_eq_true, Bool.not_eq_true', Bool.and_eq_false_imp, Bool.or_eq_false_iff, Bool.not_eq_false', decide_eq_true_eq, decide_eq_false_iff_not] at hc9
      have hk : k = l.length := by omega
      subst hk
      refine wpIn_exit ?_
      refine thenE (thenE (blkE ?_))
      refine thenN ?_
      refine wpIn_seq ?_
      refine reg ?_
      refine qq hS (g_assignv (v := .bool _) rfl) ?_
      refine ol_nil (thenN ?_)
      refine wpIn_ret ?_
      refine ret1 Try.results24 (rv_tmp (v := .bool _) rfl) ?_
      exact ⟨by unfold rightL; rw [all_yes hall], hS.nil⟩

end Go.Proofs.Ytalemnjjljnnpaa

