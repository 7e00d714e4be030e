/- inlayref11: Check, Touches, Reads, Ranges, Touched, Read, Clashes, Merge, Independent, Commute: what they compute. Conditions: numbers within bounds. -/
import Derived.Test.YtodopmclnklgdaaGreatMerge
import Derived.Test.YtodopmclnklgdaaGreatRefOf
import Derived.Test.YtodopmclnklgdaaGreatRef8
namespace Go.Proofs.YtodopmclnklgdaaGreat
open Go Go.RowKit Go.Inl
set_option linter.unusedSimpArgs false
set_option linter.unusedVariables false
def upF (f : Nat → Bool) (k j : Nat) : Bool := decide (j < k) && f j
theorem upF_all (f : Nat → Bool) (n : Nat) : marks n (upF f n) = marks n f := marks_congr fun j hj => by simp [upF, hj]
theorem upF_zero (f : Nat → Bool) (n : Nat) : marks n (upF f 0) = List.replicate n false := by
  rw [marks_rep]; exact marks_congr fun j _ => by simp [upF]
theorem upF_set (f : Nat → Bool) (n k : Nat) : (marks n (upF f k)).set k (f k) = marks n (upF f (k + 1)) := by
  rw [marks_set]
  refine marks_congr fun j _ => ?_
  unfold upF
  by_cases h : j = k
  · subst h; simp
  · rw [if_neg h]
    have : (j < k + 1) ↔ (j < k) := by omega
    simp [this]
theorem put_up {f : Nat → Bool} {N i : Nat} {b : Bool} (h : f i = b) (hi : i < N) : putL (flat boolC (marks N (upF f i))) i [.bool b] = flat boolC (marks N (upF f (i + 1))) := by
  have h1 := putL_flat0 boolC_len b (marks N (upF f i)) i (by rw [marks_len]; exact hi)
  rw [Nat.mul_one] at h1
  rw [← upF_set f N i, h]
  exact h1
theorem extR_set {R : List (Int × Int)} {k : Int} (h : 0 < R.length) (hk : (lastR R).2 = k) : extR R k = R.set (R.length - 1) ((lastR R).1, k + 1) ∧ R[R.length - 1]? = some (lastR R) := by
  obtain ⟨D, hD, hl⟩ := lastR_split h
  generalize lastR R = r at hD hk ⊢
  subst hD
  have e1 : (D ++ [r]).length - 1 = D.length := by simp
  rw [e1]
  constructor
  · rw [extR_same hk]; simp
  · simp
theorem rngs_end {f : Nat → Bool} {k : Nat} (h0 : 0 < k) (h : f (k - 1) = true) : 0 < (rngs k f).length ∧ (lastR (rngs k f)).2 = k := by
  have h1 : 0 < (rngs k f).length := by
    rcases Nat.eq_zero_or_pos (rngs k f).length with h2 | h2
    · have := rngs_none f k (List.length_eq_zero_iff.1 h2) (k - 1) (by omega)
      rw [h] at this; cases this
    · exact h2
  exact ⟨h1, (rngs_last f k _ (lastR_some h1)).2.2 ⟨h0, h⟩⟩
theorem rngs_new {f : Nat → Bool} {k : Nat} (h : ¬ (0 < k ∧ f (k - 1) = true)) : extR (rngs k f) k = rngs k f ++ [((k : Int), (k : Int) + 1)] := by
  refine extR_new fun ⟨h1, h2⟩ => h ?_
  exact (rngs_last f k _ (lastR_some h1)).2.1 h2
theorem rngs_le (f : Nat → Bool) (k : Nat) : (rngs k f).length ≤ k := by
  unfold rngs
  have := rngL_len (plc k f)
  have := plc_le k f
  omega
theorem symbolsR_oE (p : PatL) (A : List Sym) (ad : Option Addr) (m cap : Nat) (w0 : World) (I0 : Imm) (hI : Sat I0 w0) (hops : ROps I0 (.slice ad m cap) p.ops) (hp : p.wf) (hc : (checkP p).2 = 0) (he : symsP p = A) :
    Ctr Tryz.prog 113 [.agg #[.bool p.lifted, .int .i64 p.in_, .int .i64 p.out, .slice ad m cap]] w0 (fun v w' => ∃ a c, v = .tuple #[.slice a A.length c, .int .i64 0] ∧ St [] w0 I0 I0 w' [.row (.slice a A.length c) 81 3 A.length (flat symC A)]) := by
  subst he
  have h := symbolsR_o p ad m cap w0 I0 hI hops hp
  have e : symbolsR p = (symsP p, 0) := by rw [symbolsR_eq, symbolsP_ok hc]; rfl
  rw [e] at h
  exact h
theorem cheapP_zero {l : List Sym} {n : Int} (h : (cheapP l n).2 ≠ 0) : (cheapP l n).1 = PatL.zero := by
  unfold cheapP at h ⊢
  split
  · rfl
  · rename_i h1
    rw [if_neg h1] at h
    split
    · rfl
    · rename_i h2
      rw [if_neg h2] at h
      exact absurd rfl h
def indepAt (S T : List Sym) (N i : Nat) : Bool := (touched S i && (touched T i || readUp T N i)) || (readUp S N i && touched T i)
def indep (S T : List Sym) (N : Nat) : Bool := !((List.range N).any (indepAt S T N))
theorem indep_eq {S T : List Sym} {N : Nat} (hS : S.length = N) (hT : T.length = N) : indep S T N = !(disturbs S T || disturbs T S) := by
  unfold indep disturbs
  rw [hS, hT]
  congr 1
  rw [Bool.eq_iff_iff, Bool.or_eq_true, List.any_eq_true, List.any_eq_true, List.any_eq_true]
  constructor
  · rintro ⟨i, hi, h⟩
    unfold indepAt at h
    rw [Bool.or_eq_true] at h
    rcases h with h | h
    · exact .inl ⟨i, hi, h⟩
    · refine .inr ⟨i, hi, ?_⟩
      rw [Bool.and_eq_true] at h ⊢
      exact ⟨h.2, by rw [h.1, Bool.or_true]⟩
  · rintro (⟨i, hi, h⟩ | ⟨i, hi, h⟩)
    · exact ⟨i, hi, by unfold indepAt; rw [h, Bool.true_or]⟩
    · refine ⟨i, hi, ?_⟩
      unfold indepAt
      rw [Bool.and_eq_true, Bool.or_eq_true] at h
      obtain ⟨h1, h2 | h2⟩ := h
      · rw [h1, h2]; rfl
      · rw [h1, h2]; simp

theorem symbols11_o (p : PatL) (S : List Sym) (N : Nat) (ad : Option Addr) (m cap : Nat) (w0 : World) (I0 : Imm) (hI : Sat I0 w0) (hp : p.wf) (hpo : ROps I0 (.slice ad m cap) p.ops) (hc : (checkP p).2 = 0) (hSy : symsP p = S) (hSN : S.length = N) :
    Ctr Tryz.prog 71 [.agg #[.bool p.lifted, .int .i64 p.in_, .int .i64 p.out, .slice ad m cap]] w0 (fun v w' => ∃ a c, v = .slice a N c ∧ St [] w0 I0 I0 w' [.row (.slice a N c) 81 3 N (flat symC S)]) := by
  subst hSN
  refine fn (n := 11) Tryz.func71 rfl rfl rfl ?_
  have hS := St.start hI
  refine wpIn_seq ?_
  refine reg ?_
  refine qe (d_box (cs := [.bool _, .int .i64 _, .int .i64 _, .slice _ _ _]) hS rfl) ?_
  clear hS
  rintro _ w_1 ⟨b1, rfl, hS⟩
  refine qq hS (g_assign _) ?_
  refine ol_nil (thenN ?_)
  refine wpIn_seq ?_
  refine reg ?_
  refine qq hS (g_ldO 0 (vs := [.bool _, .int .i64 _, .int .i64 _, .slice _ _ _]) Tryz.sizeOf29 Tryz.isAgg29 rfl rfl rfl rfl) ?_
  refine qe (d_call Tryz.call113 rfl (symbolsR_oE p S ad m cap _ _ hS.imm hpo hp hc hSy)) ?_
  rintro _ w_2 ⟨a7, c7, rfl, hE⟩
  replace hS := hS.call hE
  refine qq hS (g_move _) ?_
  refine qq hS (g_extract rfl rfl) ?_
  refine qq hS (g_extract (v := .int .i64 _) rfl rfl) ?_
  refine qq hS (g_assign _) ?_
  refine qq hS (g_assignv (v := .int .i64 _) rfl) ?_
  refine ol_nil (thenN ?_)
  refine wpIn_seq ?_
  refine reg ?_
  refine qq hS (g_move _) ?_
  refine qq hS (g_assign _) ?_
  refine ol_nil (thenN ?_)
  refine wpIn_ret ?_
  refine ret1 Tryz.results71 (rv_tmp rfl) ?_
  exact ⟨a7, c7, rfl, hS.sel [true, false]⟩

theorem symbols11_c (p : PatL) (S : List Sym) (N : Nat) (ad : Option Addr) (m cap : Nat) (w0 : World) (I0 : Imm) (hI : Sat I0 w0) (hp : p.wf) (hpo : ROps I0 (.slice ad m cap) p.ops) (hc : (checkP p).2 = 0) (hSy : symsP p = S) (hSN : S.length = N) :
    Ctr Tryz.prog 71 [.agg #[.bool p.lifted, .int .i64 p.in_, .int .i64 p.out, .slice ad m cap]] w0 (fun v w' => ∃ I' a c, v = .slice a N c ∧ Ext w0 I0 w' I' ∧ RSyms I' (.slice a N c) S) :=
  (symbols11_o p S N ad m cap w0 I0 hI hp hpo hc hSy hSN).mono fun v w' ⟨a, c, hv, hS⟩ => by
    obtain ⟨I1, hE, _, hr⟩ := row_freeze1 symC_len hS hSN.symm
    exact ⟨I1, a, c, hv, hE, hr⟩

set_option maxHeartbeats 1000000 in
theorem touches_c (p : PatL) (S : List Sym) (N : Nat) (ad : Option Addr) (m cap : Nat) (w0 : World) (I0 : Imm) (hI : Sat I0 w0) (hp : p.wf) (hpo : ROps I0 (.slice ad m cap) p.ops) (hc : (checkP p).2 = 0) (hSy : symsP p = S) (hSN : S.length = N) (hin : p.in_ = (N : Int)) (hN : N ≤ 65536) :
    Ctr Tryz.prog 32 [.agg #[.bool p.lifted, .int .i64 p.in_, .int .i64 p.out, .slice ad m cap]] w0 (fun v w' => ∃ I' a c, v = .slice a N c ∧ Ext w0 I0 w' I' ∧ RBools I' (.slice a N c) (marks N (touched S))) := by
  refine fn (n := 28) Tryz.func32 rfl rfl rfl ?_
  have hS := St.start hI
  refine wpIn_seq ?_
  refine reg ?_
  refine qe (d_box (cs := [.bool _, .int .i64 _, .int .i64 _, .slice _ _ _]) hS rfl) ?_
  clear hS
  rintro _ w_1 ⟨b1, rfl, hS⟩
  refine qq hS (g_assign _) ?_
  refine ol_nil (thenN ?_)
  refine meet (fun σ w => ∃ I b8 a10 c10, okS σ [(3, .slice (some ⟨b8, 0, none⟩) N N), (4, .slice a10 N c10)] ∧ St [] w0 I0 I w [.cel b8 4 (flat boolC (List.replicate N false))] ∧ RSyms I (.slice a10 N c10) S) ?_ ?_
  ·
    refine draw (.cons 0 .pure (.cons 1 .held (.cons 3 .held (.fork 2 (.cons 4 .eff (.cons 5 .pure (.cons 6 .pure .nil))) 4 (.cons 2 .eff (.cons 5 .pure (.cons 6 .pure .nil))))))) mixed (by kernel_rfl) hS ?_
    intro w_2 hS
    refine sp rfl (g_fieldAddr (o' := 1) Tryz.underlying29 rfl Tryz.sizeOf3 rfl rfl rfl) ?_
    refine sh rfl (g_ldO1 0 Tryz.isAgg3 rfl rfl rfl) ?_
    refine sh rfl (g_ldO 0 (vs := [.bool _, .int .i64 _, .int .i64 _, .slice _ _ _]) Tryz.sizeOf29 Tryz.isAgg29 rfl rfl rfl rfl) ?_
    refine sk ?_ ?_
    ·
      have hS0 := hS
      refine se rfl (d_makeF boolC_len false N hS Tryz.underlying59 info4 rfl rfl rfl rfl hin (by omega) rfl) ?_
      rintro _ w_3 ⟨b8, rfl, hS⟩
      refine ⟨_, _, hS0.le (Sub.refl _) (List.sublist_cons_self _ _), hS, ?_⟩
      have hS0 := hS
      refine se rfl (d_call Tryz.call71 rfl (symbols11_c p S N ad m cap _ _ hS.imm hp hpo hc hSy hSN)) ?_
      rintro _ w_4 ⟨I_f, a10, c10, rfl, hE, h10⟩
      replace hS := hS.call hE
      replace hpo := hpo.mono hE.ext
      refine ⟨_, _, hS0.le hE.ext (List.Sublist.refl _), hS, ?_⟩
      refine sp rfl (g_assign _) ?_
      refine sp rfl (g_assign _) ?_
      refine sn (thenN ?_)
      exact ⟨_, rfl, _, b8, a10, c10, ⟨rfl, rfl, trivial⟩, (hS.sel [true, false]), h10⟩
    ·
      have hS0 := hS
      refine se rfl (d_call Tryz.call71 rfl (symbols11_c p S N ad m cap _ _ hS.imm hp hpo hc hSy hSN)) ?_
      rintro _ w_5 ⟨I_f, a10, c10, rfl, hE, h10⟩
      replace hS := hS.call hE
      replace hpo := hpo.mono hE.ext
      refine ⟨_, _, hS0.le hE.ext (List.Sublist.refl _), hS, ?_⟩
      have hS0 := hS
      refine se rfl (d_makeF boolC_len false N hS Tryz.underlying59 info4 rfl rfl rfl rfl hin (by omega) rfl) ?_
      rintro _ w_6 ⟨b8, rfl, hS⟩
      refine ⟨_, _, hS0.le (Sub.refl _) (List.sublist_cons_self _ _), hS, ?_⟩
      refine sp rfl (g_assign _) ?_
      refine sp rfl (g_assign _) ?_
      refine sn (thenN ?_)
      exact ⟨_, rfl, _, b8, a10, c10, ⟨rfl, rfl, trivial⟩, (hS.sel [true, false]), h10⟩
  ·
    rintro σ w ⟨I, b8, a10, c10, hs, hS, h10⟩
    rw [← upds_self hs]
    refine wpIn_seq ?_
    refine wpIn_seq ?_
    refine reg ?_
    refine qq hS (g_assignv (v := .int .i64 _) rfl) ?_
    refine ol_nil (thenN ?_)
    refine wpIn_block ?_
    refine loop (fun (i : Nat) σ w => okS σ [(3, .slice (some ⟨b8, 0, none⟩) N N), (4, .slice a10 N c10), (5, .int .i64 i)] ∧ St [] w0 I0 I w [.cel b8 4 (flat boolC (marks N (upF (touched S) i)))] ∧ i ≤ N) (fun i => N - i) (0) ?_ ?_
    ·
      refine ⟨⟨rfl, rfl, rfl, trivial⟩, ?_, by omega⟩
      rw [upF_zero]
      exact hS.sel [true]
    ·
      rintro i σ w_l ⟨hs, hS, hi0⟩
      rw [← upds_self hs]; clear hs
      refine wpIn_seq ?_
      refine wpIn_seq ?_
      refine reg ?_
      refine qq hS (g_movev (v := .int .i64 _) rfl) ?_
      refine qq hS (g_move _) ?_
      refine qq hS (g_lenI rfl Tryz.underlying83 h10 rfl) ?_
      refine qq hS (g_lss rfl rfl) ?_
      refine ol_nil (thenN ?_)
      refine cond_s rfl ?_ ?_
      ·
        intro hc14
        try simp only [Bool.and_eq_true, Bool.or_eq_true, Bool.not_eq_true', Bool.and_eq_false_imp, Bool.or_eq_false_iff, Bool.not_eq_false', decide_eq_true_eq, decide_eq_false_iff_not] at hc14
        obtain ⟨s, hsi⟩ : ∃ s, S[i]? = some s := ⟨_, List.getElem?_eq_getElem (by omega)⟩
        have hsA := h10.at hsi
        have htr : touched S i = !symEq s ⟨true, (i : Int), 0⟩ := by unfold touched; rw [sAt_of hsi]
        refine wpIn_skip ?_
        refine thenN ?_
        refine wpIn_seq ?_
        refine wpIn_block ?_
        refine reg ?_
        refine qq hS (g_move _) ?_
        refine qq hS (g_movev (v := .int .i64 _) rfl) ?_
        refine qq hS (g_move _) ?_
        refine qq hS (g_movev (v := .int .i64 _) rfl) ?_
        refine qq hS (g_ixI Tryz.underlying83 Tryz.sizeOf81 h10 rfl rfl (by omega) (by omega)) ?_
        refine qq hS (g_ldE (us := [.bool _, .int .i64 _, .int .u8 _]) Tryz.sizeOf81 Tryz.isAgg81 hsA rfl rfl rfl) ?_
        refine qq hS (g_movev (v := .int .i64 _) rfl) ?_
        refine qq hS (g_buildv (pl := [(0, 1), (1, 1), (2, 1)]) (cs := [.bool _, .int .i64 _, .int .u8 _]) Tryz.zeroValue81 Tryz.underlying81 (fun w => by simp [Tryz.sizeOf3, Tryz.sizeOf4, Tryz.sizeOf5]) (mp (v := .bool _) rfl (mp (v := .int .i64 _) rfl mp0)) rfl) ?_
        refine qq hS (neqSym s ⟨true, (i : Int), 0⟩ rfl rfl) ?_
        refine qq hS (g_indexAddrV (o := i) Tryz.underlying59 Tryz.sizeOf4 rfl rfl (by omega) (by omega) (by omega)) ?_
        refine qe (d_store 0 hS Tryz.sizeOf4 rfl rfl rfl (vs := [.bool _]) rfl rfl rfl (by rw [flat_length boolC_len, marks_len]; omega) (cs' := flat boolC (marks N (upF (touched S) (i + 1)))) (put_up htr (by omega))) ?_
        clear hS
        rintro _ w_7 ⟨rfl, hS⟩
        refine ol_nil (blkN (thenN ?_))
        refine reg ?_
        refine qq hS (g_movev (v := .int .i64 _) rfl) ?_
        refine qq hS (g_add rfl rfl (by omega) (by omega)) ?_
        refine qq hS (g_assignv (v := .int .i64 _) rfl) ?_
        refine ol_nil (thenN ?_)
        exact ⟨i + 1, _, rfl, ⟨⟨rfl, rfl, rfl, trivial⟩, hS.sel [true], by omega⟩, by omega⟩
      ·
        intro hc14
        try simp only [Bool.and_eq_true, Bool.or_eq_true, Bool.not_eq_true', Bool.and_eq_false_imp, Bool.or_eq_false_iff, Bool.not_eq_false', decide_eq_true_eq, decide_eq_false_iff_not] at hc14
        have hi : N = i := by omega
        subst hi
        refine wpIn_exit ?_
        refine thenE (thenE (blkE ?_))
        refine thenN ?_
        refine wpIn_seq ?_
        refine reg ?_
        refine qq hS (g_move _) ?_
        refine qq hS (g_assign _) ?_
        refine ol_nil (thenN ?_)
        refine wpIn_ret ?_
        refine ret1 Tryz.results32 (rv_tmp rfl) ?_
        obtain ⟨I2, hS2, hI2, h8⟩ := hS.freezeAt 0 rfl
        have h := RFl.ofAt boolC_len (marks N (upF (touched S) N)) h8 rfl (by rw [marks_len]; unfold maxLen; omega)
        rw [marks_len, upF_all] at h
        exact ⟨I2, _, _, rfl, hS2, h⟩

set_option maxHeartbeats 1000000 in
theorem reads_c (p : PatL) (S : List Sym) (N : Nat) (ad : Option Addr) (m cap : Nat) (w0 : World) (I0 : Imm) (hI : Sat I0 w0) (hp : p.wf) (hpo : ROps I0 (.slice ad m cap) p.ops) (hc : (checkP p).2 = 0) (hSy : symsP p = S) (hSN : S.length = N) (hin : p.in_ = (N : Int)) (hN : N ≤ 65536) :
    Ctr Tryz.prog 75 [.agg #[.bool p.lifted, .int .i64 p.in_, .int .i64 p.out, .slice ad m cap]] w0 (fun v w' => ∃ I' a c, v = .slice a N c ∧ Ext w0 I0 w' I' ∧ RBools I' (.slice a N c) (marks N (readUp S N))) := by
  have hoks := (ops_ok _ (checkP_ok hc).1).1
  have htl := marks_len N (touched S)
  refine fn (n := 39) Tryz.func75 rfl rfl rfl ?_
  have hS := St.start hI
  refine wpIn_seq ?_
  refine reg ?_
  refine qe (d_box (cs := [.bool _, .int .i64 _, .int .i64 _, .slice _ _ _]) hS rfl) ?_
  clear hS
  rintro _ w_1 ⟨b1, rfl, hS⟩
  refine qq hS (g_assign _) ?_
  refine ol_nil (thenN ?_)
  refine meet (fun σ w => ∃ I b9 a11 c11 a13 c13, okS σ [(3, .slice (some ⟨b9, 0, none⟩) N N), (4, .slice a11 N c11), (5, .slice a13 N c13)] ∧ St [] w0 I0 I w [.cel b9 4 (flat boolC (List.replicate N false))] ∧ RSyms I (.slice a11 N c11) S ∧ RBools I (.slice a13 N c13) (marks N (touched S))) ?_ ?_
  ·
    refine draw (.cons 0 .pure (.cons 1 .held (.cons 3 .held (.cons 5 .held (.fork 2 (.cons 4 .eff (.cons 6 .eff (.cons 7 .pure (.cons 8 .pure (.cons 9 .pure .nil))))) 4 (.fork 2 (.cons 6 .eff (.cons 7 .pure (.cons 8 .pure (.cons 9 .pure .nil)))) 6 (.cons 2 .eff (.cons 7 .pure (.cons 8 .pure (.cons 9 .pure .nil)))))))))) mixed (by kernel_rfl) hS ?_
    intro w_2 hS
    refine sp rfl (g_fieldAddr (o' := 1) Tryz.underlying29 rfl Tryz.sizeOf3 rfl rfl rfl) ?_
    refine sh rfl (g_ldO1 0 Tryz.isAgg3 rfl rfl rfl) ?_
    refine sh rfl (g_ldO 0 (vs := [.bool _, .int .i64 _, .int .i64 _, .slice _ _ _]) Tryz.sizeOf29 Tryz.isAgg29 rfl rfl rfl rfl) ?_
    refine sh rfl (g_ldO 0 (vs := [.bool _, .int .i64 _, .int .i64 _, .slice _ _ _]) Tryz.sizeOf29 Tryz.isAgg29 rfl rfl rfl rfl) ?_
    refine sk ?_ ?_
    ·
      have hS0 := hS
      refine se rfl (d_makeF boolC_len false N hS Tryz.underlying59 info4 rfl rfl rfl rfl hin (by omega) rfl) ?_
      rintro _ w_3 ⟨b9, rfl, hS⟩
      refine ⟨_, _, hS0.le (Sub.refl _) (List.sublist_cons_self _ _), hS, ?_⟩
      have hS0 := hS
      refine se rfl (d_call Tryz.call71 rfl (symbols11_c p S N ad m cap _ _ hS.imm hp hpo hc hSy hSN)) ?_
      rintro _ w_4 ⟨I_f, a11, c11, rfl, hE, h11⟩
      replace hS := hS.call hE
      replace hpo := hpo.mono hE.ext
      refine ⟨_, _, hS0.le hE.ext (List.Sublist.refl _), hS, ?_⟩
      have hS0 := hS
      refine se rfl (d_call Tryz.call32 rfl (touches_c p S N ad m cap _ _ hS.imm hp hpo hc hSy hSN hin hN)) ?_
      rintro _ w_5 ⟨I_f, a13, c13, rfl, hE, h13⟩
      replace hS := hS.call hE
      replace hpo := hpo.mono hE.ext
      replace h11 := h11.mono hE.ext
      refine ⟨_, _, hS0.le hE.ext (List.Sublist.refl _), hS, ?_⟩
      refine sp rfl (g_assign _) ?_
      refine sp rfl (g_assign _) ?_
      refine sp rfl (g_assign _) ?_
      refine sn (thenN ?_)
      exact ⟨_, rfl, _, b9, a11, c11, a13, c13, ⟨rfl, rfl, rfl, trivial⟩, (hS.sel [true, false]), h11, h13⟩
    ·
      have hS0 := hS
      refine se rfl (d_call Tryz.call71 rfl (symbols11_c p S N ad m cap _ _ hS.imm hp hpo hc hSy hSN)) ?_
      rintro _ w_6 ⟨I_f, a11, c11, rfl, hE, h11⟩
      replace hS := hS.call hE
      replace hpo := hpo.mono hE.ext
      refine ⟨_, _, hS0.le hE.ext (List.Sublist.refl _), hS, ?_⟩
      refine sk ?_ ?_
      ·
        have hS0 := hS
        refine se rfl (d_makeF boolC_len false N hS Tryz.underlying59 info4 rfl rfl rfl rfl hin (by omega) rfl) ?_
        rintro _ w_7 ⟨b9, rfl, hS⟩
        refine ⟨_, _, hS0.le (Sub.refl _) (List.sublist_cons_self _ _), hS, ?_⟩
        have hS0 := hS
        refine se rfl (d_call Tryz.call32 rfl (touches_c p S N ad m cap _ _ hS.imm hp hpo hc hSy hSN hin hN)) ?_
        rintro _ w_8 ⟨I_f, a13, c13, rfl, hE, h13⟩
        replace hS := hS.call hE
        replace hpo := hpo.mono hE.ext
        replace h11 := h11.mono hE.ext
        refine ⟨_, _, hS0.le hE.ext (List.Sublist.refl _), hS, ?_⟩
        refine sp rfl (g_assign _) ?_
        refine sp rfl (g_assign _) ?_
        refine sp rfl (g_assign _) ?_
        refine sn (thenN ?_)
        exact ⟨_, rfl, _, b9, a11, c11, a13, c13, ⟨rfl, rfl, rfl, trivial⟩, (hS.sel [true, false]), h11, h13⟩
      ·
        have hS0 := hS
        refine se rfl (d_call Tryz.call32 rfl (touches_c p S N ad m cap _ _ hS.imm hp hpo hc hSy hSN hin hN)) ?_
        rintro _ w_9 ⟨I_f, a13, c13, rfl, hE, h13⟩
        replace hS := hS.call hE
        replace hpo := hpo.mono hE.ext
        replace h11 := h11.mono hE.ext
        refine ⟨_, _, hS0.le hE.ext (List.Sublist.refl _), hS, ?_⟩
        have hS0 := hS
        refine se rfl (d_makeF boolC_len false N hS Tryz.underlying59 info4 rfl rfl rfl rfl hin (by omega) rfl) ?_
        rintro _ w_10 ⟨b9, rfl, hS⟩
        refine ⟨_, _, hS0.le (Sub.refl _) (List.sublist_cons_self _ _), hS, ?_⟩
        refine sp rfl (g_assign _) ?_
        refine sp rfl (g_assign _) ?_
        refine sp rfl (g_assign _) ?_
        refine sn (thenN ?_)
        exact ⟨_, rfl, _, b9, a11, c11, a13, c13, ⟨rfl, rfl, rfl, trivial⟩, (hS.sel [true, false]), h11, h13⟩
  ·
    rintro σ w ⟨I, b9, a11, c11, a13, c13, hs, hS, h11, h13⟩
    rw [← upds_self hs]
    refine wpIn_seq ?_
    refine wpIn_seq ?_
    refine reg ?_
    refine qq hS (g_assignv (v := .int .i64 _) rfl) ?_
    refine ol_nil (thenN ?_)
    refine wpIn_block ?_
    refine loop (fun (i : Nat) σ w => okS σ [(3, .slice (some ⟨b9, 0, none⟩) N N), (4, .slice a11 N c11), (5, .slice a13 N c13), (6, .int .i64 i)] ∧ St [] w0 I0 I w [.cel b9 4 (flat boolC (marks N (readUp S i)))] ∧ i ≤ N) (fun i => N - i) (0) ?_ ?_
    ·
      refine ⟨⟨rfl, rfl, rfl, rfl, trivial⟩, ?_, by omega⟩
      rw [readUp_zero]
      exact hS.sel [true]
    ·
      rintro i σ w_l ⟨hs, hS, hi0⟩
      rw [← upds_self hs]; clear hs
      refine wpIn_seq ?_
      refine wpIn_seq ?_
      refine reg ?_
      refine qq hS (g_movev (v := .int .i64 _) rfl) ?_
      refine qq hS (g_move _) ?_
      refine qq hS (g_lenI rfl Tryz.underlying83 h11 rfl) ?_
      refine qq hS (g_lss rfl rfl) ?_
      refine ol_nil (thenN ?_)
      refine cond_s rfl ?_ ?_
      ·
        intro hc17
        try simp only [Bool.and_eq_true, Bool.or_eq_true, Bool.not_eq_true', Bool.and_eq_false_imp, Bool.or_eq_false_iff, Bool.not_eq_false', decide_eq_true_eq, decide_eq_false_iff_not] at hc17
        obtain ⟨s, hsi⟩ : ∃ s, S[i]? = some s := ⟨_, List.getElem?_eq_getElem (by omega)⟩
        have hsA := h11.at hsi
        have htA := h13.at (marks_at (f := touched S) (show i < N by omega))
        have hsk := hoks s (by have := List.mem_of_getElem? hsi; rw [← hSy] at this; exact this)
        refine wpIn_skip ?_
        refine thenN ?_
        refine wpIn_seq ?_
        refine wpIn_block ?_
        refine wpIn_seq ?_
        refine reg ?_
        refine qq hS (g_move _) ?_
        refine qq hS (g_movev (v := .int .i64 _) rfl) ?_
        refine qq hS (g_ixI Tryz.underlying59 Tryz.sizeOf4 h13 rfl rfl (by omega) (by omega)) ?_
        refine qq hS (g_ldE1 Tryz.isAgg4 htA rfl rfl) ?_
        refine qq hS (g_movev (v := .bool _) rfl) ?_
        refine qu rfl rfl hS (fun hg => (g_move _)) ?_
        intro u25 hu25 hn25
        refine qu rfl rfl hS (fun hg => (g_movev (v := .int .i64 _) rfl)) ?_
        intro u26 hu26 hn26
        refine qu rfl rfl hS (fun hg => (g_ixI Tryz.underlying83 Tryz.sizeOf81 h11 (hu25 hg) (hu26 hg) (by omega) (by omega))) ?_
        intro u27 hu27 hn27
        refine qu rfl rfl hS (fun hg => (g_fieldE (c' := 0) Tryz.underlying81 rfl Tryz.sizeOf4 rfl (hu27 hg) rfl)) ?_
        intro u28 hu28 hn28
        refine qu rfl rfl hS (fun hg => (g_ldE1 Tryz.isAgg4 hsA (hu28 hg) rfl)) ?_
        intro u29 hu29 hn29
        refine qq hS (g_and rfl rfl (fun hq => hu29 hq)) ?_
        refine ol_nil (thenN ?_)
        refine cond_s rfl ?_ ?_
        ·
          intro hc30
          clear hu25 hn25 hu26 hn26 hu27 hn27 hu28 hn28 hu29 hn29
          simp only [Bool.and_eq_true] at hc30
          have hat : 0 ≤ s.at_ ∧ s.at_ < (N : Int) := by
            unfold strange at hsk
            rw [hc30.2] at hsk
            simp only [Bool.true_and, Bool.not_true, Bool.false_and, Bool.or_false, Bool.or_eq_false_iff, decide_eq_false_iff_not] at hsk
            omega
          refine reg ?_
          refine qq hS (g_move _) ?_
          refine qq hS (g_move _) ?_
          refine qq hS (g_movev (v := .int .i64 _) rfl) ?_
          refine qq hS (g_ixI Tryz.underlying83 Tryz.sizeOf81 h11 rfl rfl (by omega) (by omega)) ?_
          refine qq hS (g_fieldE (c' := 1) Tryz.underlying81 rfl Tryz.sizeOf3 rfl rfl rfl) ?_
          refine qq hS (g_ldE1 Tryz.isAgg3 hsA rfl rfl) ?_
          refine qq hS (g_indexAddrV (o := s.at_.toNat) Tryz.underlying59 Tryz.sizeOf4 rfl rfl (by omega) (by omega) (by omega)) ?_
          refine qe (d_store 0 hS Tryz.sizeOf4 rfl rfl rfl (vs := [.bool _]) rfl rfl rfl (by rw [flat_length boolC_len, marks_len]; omega) (cs' := flat boolC (marks N (readUp S (i + 1)))) (put_read hc30.1 (by rw [sAt_of hsi]; exact hc30.2) (by rw [sAt_of hsi]; omega) (by omega))) ?_
          clear hS
          rintro _ w_11 ⟨rfl, hS⟩
          refine ol_nil (blkN (thenN ?_))
          refine reg ?_
          refine qq hS (g_movev (v := .int .i64 _) rfl) ?_
          refine qq hS (g_add rfl rfl (by omega) (by omega)) ?_
          refine qq hS (g_assignv (v := .int .i64 _) rfl) ?_
          refine ol_nil (thenN ?_)
          first
            | (refine ⟨i + 1, _, rfl, ⟨⟨rfl, rfl, rfl, rfl, trivial⟩, ?_, by omega⟩, by omega⟩
               rw [← hrs]
               exact hS.sel [true])
            | exact ⟨i + 1, _, rfl, ⟨⟨rfl, rfl, rfl, rfl, trivial⟩, hS.sel [true], by omega⟩, by omega⟩
        ·
          intro hc30
          clear hu25 hn25 hu26 hn26 hu27 hn27 hu28 hn28 hu29 hn29
          have hrs := readUp_skip (l := S) (n := N) (k := i) (by rw [sAt_of hsi]; exact hc30)
          refine wpIn_skip ?_
          refine blkN (thenN ?_)
          refine reg ?_
          refine qq hS (g_movev (v := .int .i64 _) rfl) ?_
          refine qq hS (g_add rfl rfl (by omega) (by omega)) ?_
          refine qq hS (g_assignv (v := .int .i64 _) rfl) ?_
          refine ol_nil (thenN ?_)
          first
            | (refine ⟨i + 1, _, rfl, ⟨⟨rfl, rfl, rfl, rfl, trivial⟩, ?_, by omega⟩, by omega⟩
               rw [← hrs]
               exact hS.sel [true])
            | exact ⟨i + 1, _, rfl, ⟨⟨rfl, rfl, rfl, rfl, trivial⟩, hS.sel [true], by omega⟩, by omega⟩
      ·
        intro hc17
        try simp only [Bool.and_eq_true, Bool.or_eq_true, Bool.not_eq_true', Bool.and_eq_false_imp, Bool.or_eq_false_iff, Bool.not_eq_false', decide_eq_true_eq, decide_eq_false_iff_not] at hc17
        have hi : N = i := by omega
        subst hi
        refine wpIn_exit ?_
        refine thenE (thenE (blkE ?_))
        refine thenN ?_
        refine wpIn_seq ?_
        refine reg ?_
        refine qq hS (g_move _) ?_
        refine qq hS (g_assign _) ?_
        refine ol_nil (thenN ?_)
        refine wpIn_ret ?_
        refine ret1 Tryz.results75 (rv_tmp rfl) ?_
        obtain ⟨I2, hS2, hI2, h8⟩ := hS.freezeAt 0 rfl
        have h := RFl.ofAt boolC_len (marks N (readUp S N)) h8 rfl (by rw [marks_len]; unfold maxLen; omega)
        rw [marks_len] at h
        exact ⟨I2, _, _, rfl, hS2, h⟩

end Go.Proofs.YtodopmclnklgdaaGreat

