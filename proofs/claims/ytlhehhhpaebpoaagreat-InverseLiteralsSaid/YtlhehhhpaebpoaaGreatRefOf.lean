/- inlayref06.Of: what it computes. Conditions: numbers within bounds. -/
import Derived.Test.YtlhehhhpaebpoaaGreatOf
import Derived.Test.YtlhehhhpaebpoaaGreatKRef6
import Derived.Test.YtlhehhhpaebpoaaGreatCore13
namespace Go.Proofs.YtlhehhhpaebpoaaGreat
open Go Go.RowKit Go.Inl
set_option linter.unusedSimpArgs false
set_option linter.unusedVariables false
def datS (K : Int) (s : Sym) : List Int := if K = 1 then [] else [s.b]
def newO (s : Sym) : OpL := ⟨kindP s, s.at_, 0, 0, []⟩
def extO (x : OpL) (s : Sym) : OpL := ⟨x.kind, x.from_, x.len + 1, x.b, x.data ++ datS x.kind s⟩
def goesP (a b : Sym) : Bool := decide (kindP a = kindP b) && (!a.old || decide (b.at_ = a.at_ + 1))
def grp (cur : OpL) (prev : Sym) : List Sym → List OpL
  | [] => [cur]
  | t :: r => if goesP prev t then grp (extO cur t) t r else cur :: grp (extO (newO t) t) t r
def ofL : List Sym → List OpL
  | [] => []
  | s :: r => grp (extO (newO s) s) s r
def atS (l : List Sym) (i : Nat) : Sym := l.getD i ⟨false, 0, 0⟩
theorem atS_of {l : List Sym} {i : Nat} {s : Sym} (h : l[i]? = some s) : atS l i = s := by unfold atS; rw [List.getD_eq_getElem?_getD, h]; rfl
theorem atS_some {l : List Sym} {i : Nat} (h : i < l.length) : l[i]? = some (atS l i) := by
  have : l[i]? = some l[i] := List.getElem?_eq_getElem h
  rw [atS_of this]; exact this
theorem ofLen_split {K f : Int} (r : List Sym) : ∀ (pre : List Sym) (j : Nat), (∀ i t, pre[i]? = some t → sameK K f (j + i) t = true) → ofLen K f (pre ++ r) j = pre.length + ofLen K f r (j + pre.length)
  | [], j, _ => by simp
  | p :: pre, j, h => by
    rw [List.cons_append, ofLen, if_pos (by simpa using h 0 p rfl), ofLen_split r pre (j + 1) (fun i t ht => by rw [show j + 1 + i = j + (i + 1) by omega]; exact h (i + 1) t (by simpa using ht))]
    rw [List.length_cons, show j + 1 + pre.length = j + (pre.length + 1) by omega]; omega
theorem opS_one {t : Sym} (hz : t.old = false → t.at_ = 0) : opS (kindP t) [t] = extO (newO t) t := by
  unfold opS extO newO datS
  have hk := kindP_bd t
  have h4 : kindP t = 4 → t.at_ = 0 := fun h => hz (by
    unfold kindP at h
    cases ho : t.old with
    | false => rfl
    | true => rw [ho] at h; simp at h; split at h <;> omega)
  rcases hk with h | h | h <;> rw [h] <;> simp
  rw [h4 h]
theorem opS_snoc {K : Int} {pre : List Sym} {t : Sym} (hk : K = 1 ∨ K = 2 ∨ K = 4) (hp : pre ≠ []) : extO (opS K pre) t = opS K (pre ++ [t]) := by
  obtain ⟨s, r, rfl⟩ := List.exists_cons_of_ne_nil hp
  unfold opS extO datS
  rcases hk with rfl | rfl | rfl <;> simp
theorem goes_same {s p t : Sym} {n : Nat} (hp : sameK (kindP s) s.at_ n p = true) : goesP p t = sameK (kindP s) s.at_ (n + 1) t := by
  simp only [sameK, Bool.and_eq_true, Bool.or_eq_true, decide_eq_true_eq] at hp
  obtain ⟨h1, h2⟩ := hp
  unfold goesP sameK
  rw [h1]
  have h4 : p.old = false ↔ kindP s = 4 := by
    rw [← h1]
    unfold kindP
    cases ho : p.old with
    | false => simp
    | true => simp; split <;> omega
  rw [Bool.eq_iff_iff]
  simp only [Bool.and_eq_true, Bool.or_eq_true, decide_eq_true_eq, Bool.not_eq_true', h4]
  constructor
  · rintro ⟨a, b⟩
    refine ⟨a.symm, ?_⟩
    rcases b with b | b
    · exact .inl b
    · rcases h2 with c | c
      · exact .inl c
      · refine .inr ?_; omega
  · rintro ⟨a, b⟩
    refine ⟨a.symm, ?_⟩
    rcases b with b | b
    · exact .inl b
    · rcases h2 with c | c
      · exact .inl c
      · refine .inr ?_; omega
theorem grp_eq : ∀ (r pre : List Sym) (s p : Sym) (m : Nat), (∀ t ∈ r, t.old = false → t.at_ = 0) → pre ≠ [] → (∀ i t, pre[i]? = some t → sameK (kindP s) s.at_ i t = true) → pre[pre.length - 1]? = some p → r.length ≤ m →
    grp (opS (kindP s) pre) p r = opS (kindP s) ((pre ++ r).take (ofLen (kindP s) s.at_ (pre ++ r) 0)) :: ofGo m ((pre ++ r).drop (ofLen (kindP s) s.at_ (pre ++ r) 0))
  | [], pre, s, p, m, _, hne, hs, hp, _ => by
    have h := ofLen_split (K := kindP s) (f := s.at_) [] pre 0 (by simpa using hs)
    rw [h]
    simp [grp, ofLen, ofGo_nil]
  | t :: r, pre, s, p, m, hz, hne, hs, hp, hm => by
    have hlp := List.length_pos_iff.2 hne
    have hg := goes_same (t := t) (hs _ p hp)
    rw [show pre.length - 1 + 1 = pre.length by omega] at hg
    cases hgo : goesP p t with
    | true =>
      rw [grp, hgo, if_pos rfl, opS_snoc (kindP_bd s) hne]
      have e : pre ++ t :: r = (pre ++ [t]) ++ r := by simp
      rw [e]
      refine grp_eq r (pre ++ [t]) s t m (fun u hu => hz u (by simp [hu])) (by simp) ?_ (by simp) (by simp at hm; omega)
      intro i u hi
      by_cases hil : i < pre.length
      · rw [List.getElem?_append_left hil] at hi; exact hs i u hi
      · rw [List.getElem?_append_right (by omega)] at hi
        have h0 : i - pre.length = 0 := by
          have := (List.getElem?_eq_some_iff.1 hi).1
          simp at this; omega
        rw [h0] at hi
        obtain rfl : t = u := by simpa using hi
        rw [show i = pre.length by omega, ← hg, hgo]
    | false =>
      rw [grp, hgo, if_neg (by simp)]
      have h := ofLen_split (K := kindP s) (f := s.at_) (t :: r) pre 0 (by simpa using hs)
      have h0 : ofLen (kindP s) s.at_ (t :: r) (0 + pre.length) = 0 := by rw [Nat.zero_add, ofLen, if_neg (by rw [← hg, hgo]; simp)]
      rw [h, h0, Nat.add_zero, List.take_left', List.drop_left']
      · congr 1
        obtain ⟨m', rfl⟩ : ∃ m', m = m' + 1 := ⟨m - 1, by simp at hm; omega⟩
        rw [ofGo]
        rw [← opS_one (hz t (by simp))]
        exact grp_eq r [t] t t m' (fun u hu => hz u (by simp [hu])) (by simp) (by
          intro i u hi
          cases i with
          | zero => simp at hi; subst hi; simp [sameK]
          | succ i => simp at hi) rfl (by simp at hm; omega)
      · rfl
      · rfl
theorem ofL_eq {l : List Sym} (hz : ∀ t ∈ l, t.old = false → t.at_ = 0) : ofL l = ofP l := by
  cases l with
  | nil => rfl
  | cons s r =>
    show grp (extO (newO s) s) s r = ofGo (r.length + 1) (s :: r)
    rw [ofGo, ← opS_one (hz s (by simp))]
    exact grp_eq r [s] s s r.length (fun u hu => hz u (by simp [hu])) (by simp) (by
      intro i u hi
      cases i with
      | zero => simp at hi; subst hi; simp [sameK]
      | succ i => simp at hi) rfl (Nat.le_refl _)
def OgInv (I : Imm) (l : List Sym) (i : Nat) (cells : List Value) (n : Nat) (dv : Value) (dat : List Int) : Prop :=
  (i = 0 ∧ cells = [] ∧ n = 0) ∨ ∃ css done cur prev, 0 < i ∧ l[i - 1]? = some prev ∧ cells = css.flatten ++ [.int .i64 cur.kind, .int .i64 cur.from_, .int .i64 cur.len, .int .u8 0, dv] ∧ All2 (ROp I) css done ∧ (∀ c ∈ css, c.length = 5) ∧
    n = done.length + 1 ∧ n ≤ i ∧ cur.data = dat ∧ cur.b = 0 ∧ cur.kind = kindP prev ∧ (0 ≤ cur.len ∧ cur.len ≤ (i : Int)) ∧ done ++ grp cur prev (l.drop i) = ofL l
theorem OgInv.fresh {I I' : Imm} {l : List Sym} {i n m : Nat} {cells : List Value} {d : Option Addr} {e : Nat} {dat : List Int} {s : Sym} (h : OgInv I l i cells n (.slice d m e) dat) (hf : RBytes I' (.slice d m e) dat) (hs : Inl.Sub I I') (hsi : l[i]? = some s) (hng : i = 0 ∨ goesP (atS l (i - 1)) s = false) :
    ∃ css done, cells = css.flatten ∧ All2 (ROp I') css done ∧ (∀ c ∈ css, c.length = 5) ∧ n = done.length ∧ n ≤ i ∧ done ++ grp (extO (newO s) s) s (l.drop (i + 1)) = ofL l := by
  rcases h with ⟨rfl, rfl, rfl⟩ | ⟨css, done, cur, prev, h0, h1, rfl, h2, h3, h4, h4', h5, h6, h7, h8, h9⟩
  · refine ⟨[], [], rfl, .nil _, by simp, rfl, Nat.le_refl _, ?_⟩
    cases l with
    | nil => simp at hsi
    | cons t r => simp at hsi; subst hsi; rfl
  · have hg : goesP prev s = false := by
      rw [atS_of h1] at hng
      exact hng.resolve_left (by omega)
    refine ⟨css ++ [[.int .i64 cur.kind, .int .i64 cur.from_, .int .i64 cur.len, .int .u8 0, .slice d m e]], done ++ [cur], by simp, All2.snoc (h2.mono fun _ _ h => h.mono hs) ⟨d, m, e, by rw [h6], by rw [h5]; exact hf⟩, ?_, by simp [h4], h4', ?_⟩
    · intro c hc
      rcases List.mem_append.1 hc with hc | hc
      · exact h3 c hc
      · simp only [List.mem_singleton] at hc; subst hc; rfl
    · rw [← h9, drop_cons hsi, grp, hg, if_neg (by simp)]
      simp
theorem OgInv.ext {I : Imm} {l : List Sym} {i n : Nat} {cells : List Value} {dv : Value} {dat : List Int} {s : Sym} (h : OgInv I l i cells n dv dat) (hi : i ≠ 0) (hsi : l[i]? = some s) (hg : goesP (atS l (i - 1)) s = true) :
    ∃ css done kd fr ln, cells = css.flatten ++ [.int .i64 kd, .int .i64 fr, .int .i64 ln, .int .u8 0, dv] ∧ All2 (ROp I) css done ∧ (∀ c ∈ css, c.length = 5) ∧ n = done.length + 1 ∧ n ≤ i ∧ kd = kindP s ∧ (0 ≤ ln ∧ ln ≤ (i : Int)) ∧ done ++ grp (extO ⟨kd, fr, ln, 0, dat⟩ s) s (l.drop (i + 1)) = ofL l := by
  rcases h with ⟨h, _⟩ | ⟨css, done, cur, prev, h0, h1, rfl, h2, h3, h4, h4', h5, h6, h7, h8, h9⟩
  · exact absurd h hi
  · rw [atS_of h1] at hg
    have hk : kindP prev = kindP s := by unfold goesP at hg; simp only [Bool.and_eq_true, decide_eq_true_eq] at hg; exact hg.1
    refine ⟨css, done, cur.kind, cur.from_, cur.len, rfl, h2, h3, h4, h4', by rw [h7, hk], h8, ?_⟩
    rw [← h9, drop_cons hsi, grp, hg, if_pos rfl]
    cases cur
    simp only at h5 h6
    subst h5 h6
    rfl
theorem OgInv.finish {I I' : Imm} {l : List Sym} {n m : Nat} {cells : List Value} {d : Option Addr} {e : Nat} {dat : List Int} (h : OgInv I l l.length cells n (.slice d m e) dat) (hf : RBytes I' (.slice d m e) dat) (hs : Inl.Sub I I') :
    ∃ css, cells = css.flatten ∧ All2 (ROp I') css (ofL l) ∧ (∀ c ∈ css, c.length = 5) ∧ n = (ofL l).length := by
  rcases h with ⟨h0, rfl, rfl⟩ | ⟨css, done, cur, prev, h0, h1, rfl, h2, h3, h4, h4', h5, h6, h7, h8, h9⟩
  · have := List.length_eq_zero_iff.1 h0
    subst this
    exact ⟨[], rfl, .nil _, by simp, rfl⟩
  · rw [List.drop_length] at h9
    refine ⟨css ++ [[.int .i64 cur.kind, .int .i64 cur.from_, .int .i64 cur.len, .int .u8 0, .slice d m e]], by simp, ?_, ?_, ?_⟩
    · rw [← h9]
      exact All2.snoc (h2.mono fun _ _ h => h.mono hs) ⟨d, m, e, by rw [h6], by rw [h5]; exact hf⟩
    · intro c hc
      rcases List.mem_append.1 hc with hc | hc
      · exact h3 c hc
      · simp only [List.mem_singleton] at hc; subst hc; rfl
    · rw [← h9]; simp [grp, h4]
theorem OgInv.count {I : Imm} {l : List Sym} {n : Nat} {cells : List Value} {dv : Value} {dat : List Int} (h : OgInv I l l.length cells n dv dat) : n = (ofL l).length := by
  rcases h with ⟨h0, rfl, rfl⟩ | ⟨css, done, cur, prev, h0, h1, rfl, h2, h3, h4, h4', h5, h6, h7, h8, h9⟩
  · have := List.length_eq_zero_iff.1 h0
    subst this
    rfl
  · rw [List.drop_length] at h9
    rw [← h9]; simp [grp, h4]
theorem right_strange (s : Sym) (n : Int) : rightSymR s n = !strange n s := by
  unfold rightSymR strange inS
  cases s.old with
  | false => simp
  | true =>
    simp only [if_true, Bool.true_and, Bool.not_true, Bool.false_and, Bool.or_false, Bool.not_or]
    rw [Bool.eq_iff_iff]; simp; omega
structure OgS where
  i : Nat
  n : Nat
  cells : List Value
  a : Option Addr
  c : Nat
  d : Option Addr
  m : Nat
  e : Nat
  dat : List Int
theorem row_lenI {X : List Nat} {w0 w : World} {I0 I : Imm} {L : List Res} {k : Nat} {v : Value} {E : TypeId} {sz n : Nat} {xs : List Value} (h : St X w0 I0 I w L) (hk : L[k]? = some (.row v E sz n xs)) : xs.length = n * sz := (h.hold _ (List.mem_of_getElem? hk)).1

end Go.Proofs.YtlhehhhpaebpoaaGreat

