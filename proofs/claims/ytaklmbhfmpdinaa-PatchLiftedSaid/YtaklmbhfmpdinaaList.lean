/- inlayref08.List: what it computes. Conditions: symbols are right. -/
import Derived.Test.YtaklmbhfmpdinaaFits
namespace Go.Proofs.Ytaklmbhfmpdinaa
open Go Go.RowKit Go.Inl
set_option linter.unusedSimpArgs false
set_option linter.unusedVariables false
structure Bs where
  kind : Int
  len : Int
  cost : Int
  ops : Int
def Bs.zero : Bs := ⟨0, 0, 0, 0⟩
def bsC (b : Bs) : List Value := [.int .i64 b.kind, .int .i64 b.len, .int .i64 b.cost, .int .i64 b.ops]
theorem bsC_len (b : Bs) : (bsC b).length = 4 := rfl
def bsOf (p : Pl) : Bs := ⟨p.kind, p.length, p.best.cost, p.best.ops⟩
def bsAt (k : Int) (n : Nat) (p : Pr) : Bs := ⟨k, n, p.cost, p.ops⟩
def bsTab (l : List Sym) : List Bs := (tab l).map bsOf
theorem bsTab_len (l : List Sym) : (bsTab l).length = l.length + 1 := by unfold bsTab; rw [List.length_map, tab_length]
theorem bsTab_at {l : List Sym} {k : Nat} (h : k ≤ l.length) : (bsTab l)[k]? = some (bsOf (topP (l.drop k))) := by
  have h1 := tab_getD l k h
  have h2 : k < (tab l).length := by rw [tab_length]; omega
  unfold bsTab
  rw [List.getElem?_map, List.getElem?_eq_getElem h2]
  rw [List.getD_eq_getElem?_getD, List.getElem?_eq_getElem h2, Option.getD_some] at h1
  rw [h1]; rfl
theorem flat_slice {α : Type} {enc : α → List Value} {sz : Nat} (he : ∀ x, (enc x).length = sz) (xs : List α) (i : Nat) (x : α) (hx : xs[i]? = some x) : ((flat enc xs).drop (i * sz)).take sz = enc x := by
  have hi := (List.getElem?_eq_some_iff.1 hx).1
  have e : flat enc xs = flat enc (xs.take i) ++ (enc x ++ flat enc (xs.drop (i + 1))) := by
    conv => lhs; rw [← List.take_append_drop i xs]
    rw [flat_append, drop_cons hx]; rfl
  have hl : (flat enc (xs.take i)).length = i * sz := by rw [flat_length he, List.length_take, Nat.min_eq_left (by omega)]
  rw [e, List.drop_append_of_le_length (by omega), List.drop_of_length_le (by omega), List.nil_append, List.take_append_of_le_length (by rw [he]; exact Nat.le_refl _), List.take_of_length_le (by rw [he]; exact Nat.le_refl _)]
theorem putL_flat {α : Type} {enc : α → List Value} {sz : Nat} (he : ∀ x, (enc x).length = sz) (xs : List α) (i : Nat) (x : α) (hi : i < xs.length) : putL (flat enc xs) (i * sz) (enc x) = flat enc (xs.set i x) := by
  have hl : (flat enc xs).length = xs.length * sz := flat_length he xs
  have hm : i * sz + sz ≤ xs.length * sz := by rw [← Nat.succ_mul]; exact Nat.mul_le_mul_right _ hi
  rw [putL_eq _ _ _ (by rw [he, hl]; exact hm), he, List.set_eq_take_append_cons_drop, if_pos hi]
  have e : flat enc xs = flat enc (xs.take i) ++ (enc xs[i] ++ flat enc (xs.drop (i + 1))) := by
    conv => lhs; rw [← List.take_append_drop i xs]
    rw [flat_append, List.drop_eq_getElem_cons hi]; rfl
  have h1 : (flat enc (xs.take i)).length = i * sz := by rw [flat_length he, List.length_take, Nat.min_eq_left (by omega)]
  rw [e, List.take_append_of_le_length (by omega), List.take_of_length_le (by omega), flat_append]
  rw [List.drop_append, List.drop_of_length_le (l := flat enc (xs.take i)) (by omega), h1, List.nil_append, show i * sz + sz - i * sz = sz by omega]
  rw [List.drop_append_of_le_length (by rw [he]; exact Nat.le_refl _), List.drop_of_length_le (by rw [he]; exact Nat.le_refl _), List.nil_append]
  rw [List.append_assoc]; rfl
/-- The table while place i is at work: the places behind are done. -/
def bsRow (i : Nat) (cur : Bs) (l : List Sym) : List Bs := List.replicate i Bs.zero ++ (cur :: bsTab (l.drop (i + 1)))
theorem bsRow_cur (i : Nat) (cur : Bs) (l : List Sym) : (bsRow i cur l)[i]? = some cur := by
  unfold bsRow; rw [List.getElem?_append_right (by simp)]; simp
theorem bsRow_rest {i n : Nat} (cur : Bs) {l : List Sym} (h0 : 1 ≤ n) (h : i + n ≤ l.length) : (bsRow i cur l)[i + n]? = some (bsOf (topP (l.drop (i + n)))) := by
  unfold bsRow
  rw [List.getElem?_append_right (by simp), List.length_replicate]
  obtain ⟨m, rfl⟩ : ∃ m, n = m + 1 := ⟨n - 1, by omega⟩
  rw [show i + (m + 1) - i = m + 1 by omega, List.getElem?_cons_succ, bsTab_at (by rw [List.length_drop]; omega), List.drop_drop, show i + 1 + m = i + (m + 1) by omega]
theorem bsRow_set (i : Nat) (cur x : Bs) (l : List Sym) : (bsRow i cur l).set i x = bsRow i x l := by
  unfold bsRow
  rw [List.set_append_right _ _ (by simp)]; simp
theorem bsRow_len (i : Nat) (cur : Bs) {l : List Sym} (h : i < l.length) : (bsRow i cur l).length = l.length + 1 := by
  unfold bsRow; rw [List.length_append, List.length_replicate, List.length_cons, bsTab_len, List.length_drop]; omega
theorem bsRow_done {i : Nat} {l : List Sym} (h : i < l.length) : bsRow i (bsOf (topP (l.drop i))) l = List.replicate i Bs.zero ++ bsTab (l.drop i) := by
  unfold bsRow
  congr 1
  conv => rhs; rw [List.drop_eq_getElem_cons h]
  rw [List.drop_eq_getElem_cons h]; rfl
theorem bsRow_start {i : Nat} {l : List Sym} (h : i < l.length) : List.replicate (i + 1) Bs.zero ++ bsTab (l.drop (i + 1)) = bsRow i Bs.zero l := by
  unfold bsRow; rw [List.replicate_succ', List.append_assoc]; rfl

/-- Of the candidates that were looked at, the first least one is held. -/
structure Vis (li : List Sym) (f : Bool) (cur : Bs) (k : Int) (n : Nat) : Prop where
  no : f = false → ∀ k' (m : Nat), 1 ≤ k' → k' ≤ 4 → 1 ≤ m → m ≤ fitsN k' li → ¬ (k' < k ∨ (k' = k ∧ n < m))
  yes : f = true → ∃ (kk : Int) (mm : Nat), 1 ≤ kk ∧ kk ≤ 4 ∧ 1 ≤ mm ∧ mm ≤ fitsN kk li ∧ (kk < k ∨ (kk = k ∧ n < mm)) ∧ cur = bsAt kk mm (cand kk li mm) ∧
    ∀ k' (m : Nat), 1 ≤ k' → k' ≤ 4 → 1 ≤ m → m ≤ fitsN k' li → (k' < k ∨ (k' = k ∧ n < m)) → (cand kk li mm).le (cand k' li m) ∧ ((k' < kk ∨ (k' = kk ∧ mm < m)) → (cand kk li mm).lt (cand k' li m))
theorem Vis.start (li : List Sym) (cur : Bs) : Vis li false cur 1 (fitsN 1 li) := by
  refine ⟨fun _ k' m h1 _ _ h4 h => ?_, fun h => by cases h⟩
  rcases h with h | ⟨h, h'⟩
  · omega
  · subst h; omega
theorem Vis.next {li : List Sym} {f : Bool} {cur : Bs} {k : Int} (h : Vis li f cur k 0) : Vis li f cur (k + 1) (fitsN (k + 1) li) := by
  have key : ∀ k' (m : Nat), 1 ≤ m → m ≤ fitsN k' li → (k' < k + 1 ∨ (k' = k + 1 ∧ fitsN (k + 1) li < m)) → (k' < k ∨ (k' = k ∧ 0 < m)) := by
    intro k' m h1 h2 h3
    rcases h3 with h3 | ⟨h3, h4⟩
    · by_cases e : k' = k
      · exact .inr ⟨e, by omega⟩
      · exact .inl (by omega)
    · subst h3; omega
  refine ⟨fun hf k' m a b c d e => h.no hf k' m a b c d (key k' m c d e), fun hf => ?_⟩
  obtain ⟨kk, mm, a, b, c, d, e, g, all⟩ := h.yes hf
  refine ⟨kk, mm, a, b, c, d, .inl (by omega), g, fun k' m a' b' c' d' e' => all k' m a' b' c' d' (key k' m c' d' e')⟩
theorem Vis.step {li : List Sym} {f : Bool} {cur : Bs} {k : Int} {n : Nat} (h : Vis li f cur k (n + 1)) (h0 : 1 ≤ k) (h1 : k ≤ 4) (hn : n + 1 ≤ fitsN k li) :
    ((!f || (cand k li (n + 1)).less ⟨cur.cost, cur.ops⟩) = true → Vis li true (bsAt k (n + 1) (cand k li (n + 1))) k n) ∧ ((!f || (cand k li (n + 1)).less ⟨cur.cost, cur.ops⟩) = false → Vis li f cur k n) := by
  have key : ∀ k' (m : Nat), (k' < k ∨ (k' = k ∧ n < m)) → (k' = k ∧ m = n + 1) ∨ (k' < k ∨ (k' = k ∧ n + 1 < m)) := by
    intro k' m h
    rcases h with h | ⟨h, h'⟩
    · exact .inr (.inl h)
    · by_cases e : m = n + 1
      · exact .inl ⟨h, e⟩
      · exact .inr (.inr ⟨h, by omega⟩)
  constructor
  · intro hc
    refine ⟨(fun h => by cases h), fun _ => ⟨k, n + 1, h0, h1, by omega, hn, .inr ⟨rfl, by omega⟩, rfl, fun k' m a b c d e => ?_⟩⟩
    rcases key k' m e with ⟨rfl, rfl⟩ | e
    · exact ⟨Pr.le_refl _, fun h => by omega⟩
    · cases hf : f with
      | false => exact absurd e (h.no hf k' m a b c d)
      | true =>
        obtain ⟨kk, mm, a', b', c', d', e', g, all⟩ := h.yes hf
        have hl : (cand k li (n + 1)).lt (cand kk li mm) := by
          rw [hf, g] at hc
          exact (Pr.less_iff _ _).1 hc
        have := Pr.lt_of_lt_of_le hl (all k' m a b c d e).1
        exact ⟨Pr.lt_le this, fun _ => this⟩
  · intro hc
    refine ⟨fun hf => ?_, fun hf => ?_⟩
    · rw [hf] at hc; cases hc
    · obtain ⟨kk, mm, a', b', c', d', e', g, all⟩ := h.yes hf
      have hl : (cand kk li mm).le (cand k li (n + 1)) := by
        rw [hf, g] at hc
        exact Pr.less_false hc
      refine ⟨kk, mm, a', b', c', d', ?_, g, fun k' m a b c d e => ?_⟩
      · rcases e' with e' | ⟨e', e''⟩
        · exact .inl e'
        · exact .inr ⟨e', by omega⟩
      · rcases key k' m e with ⟨rfl, rfl⟩ | e
        · refine ⟨hl, fun h => ?_⟩
          exfalso
          rcases h with h | ⟨h, h'⟩
          · rcases e' with e' | ⟨e', _⟩ <;> omega
          · rcases e' with e' | ⟨_, e''⟩ <;> omega
        · exact all k' m a b c d e
theorem Vis.done {li : List Sym} {f : Bool} {cur : Bs} {n : Nat} (h : Vis li f cur 5 n) (hg : Gd li) (hl : li ≠ []) : cur = bsOf (topP li) := by
  have hc := hg.core hl
  have k0 := hc.k0; have k1 := hc.k1; have n0 := hc.n0; have n1 := hc.n1
  generalize topP li = p at *
  have hq : ((p.length.toNat : Nat) : Int) = p.length := by omega
  cases hf : f with
  | false => exact absurd (.inl (by omega)) (h.no hf p.kind p.length.toNat k0 k1 (by omega) (by omega))
  | true =>
    obtain ⟨kk, mm, a, b, c, d, _, g, all⟩ := h.yes hf
    obtain ⟨h1, h2⟩ := all p.kind p.length.toNat k0 k1 (by omega) (by omega) (.inl (by omega))
    rw [← hc.att] at h1 h2
    have hkk : kk = p.kind := by
      rcases Int.lt_trichotomy kk p.kind with e | e | e
      · exact (Pr.not_lt h1 (hc.first kk mm a e c d)).elim
      · exact e
      · exact (Pr.not_lt (hc.low kk mm a b c d) (h2 (.inl e))).elim
    subst hkk
    have hmm : (mm : Int) = p.length := by
      rcases Nat.lt_trichotomy mm p.length.toNat with e | e | e
      · exact (Pr.not_lt (hc.low p.kind mm a b c d) (h2 (.inr ⟨rfl, e⟩))).elim
      · omega
      · exact (Pr.not_lt h1 (hc.long mm (by omega) d)).elim
    rw [g, bsOf, bsAt, hc.att, hmm]
    have : mm = p.length.toNat := by omega
    rw [this]
theorem best_bd' (l : List Sym) : 0 ≤ (bestP l).ops ∧ (bestP l).ops ≤ 6 * (l.length : Int) := by
  have h := tab_getD l 0 (Nat.zero_le _)
  have h1 := tab_length l
  have h2 : (tab l)[0]? = some (topP l) := by
    rw [List.getElem?_eq_getElem (by omega)]
    rw [List.getD_eq_getElem?_getD, List.getElem?_eq_getElem (by omega), Option.getD_some, List.drop_zero] at h
    rw [h]
  have h3 := (tab_good l 0 _ h2).best
  simp only [Pr.ok] at h3
  exact ⟨h3.2.2.1, by have := h3.2.2.2; show (topP l).best.ops ≤ _; omega⟩

end Go.Proofs.Ytaklmbhfmpdinaa

