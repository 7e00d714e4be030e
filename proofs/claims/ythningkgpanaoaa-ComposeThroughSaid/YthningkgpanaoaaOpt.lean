/- The table of package normal finds the least price, and the first and longest operation that has it. Conditions: symbols are right. -/
import Derived.Test.YthningkgpanaoaaSpec
import Derived.Test.YthningkgpanaoaaTabB
namespace Go.Inl

/-! ### Prices in order -/
def Pr.le (a b : Pr) : Prop := a.cost < b.cost ∨ (a.cost = b.cost ∧ a.ops ≤ b.ops)
def Pr.lt (a b : Pr) : Prop := a.cost < b.cost ∨ (a.cost = b.cost ∧ a.ops < b.ops)
theorem Pr.less_iff (a b : Pr) : a.less b = true ↔ a.lt b := by simp [Pr.less, Pr.lt]
theorem Pr.less_false {a b : Pr} (h : a.less b = false) : b.le a := by
  simp [Pr.less] at h; simp only [Pr.le]; omega
theorem Pr.le_refl (a : Pr) : a.le a := by simp [Pr.le]
theorem Pr.le_trans {a b c : Pr} (h : a.le b) (k : b.le c) : a.le c := by simp only [Pr.le] at *; omega
theorem Pr.lt_of_lt_of_le {a b c : Pr} (h : a.lt b) (k : b.le c) : a.lt c := by simp only [Pr.le, Pr.lt] at *; omega
theorem Pr.lt_of_le_of_lt {a b c : Pr} (h : a.le b) (k : b.lt c) : a.lt c := by simp only [Pr.le, Pr.lt] at *; omega
theorem Pr.lt_le {a b : Pr} (h : a.lt b) : a.le b := by simp only [Pr.le, Pr.lt] at *; omega
theorem Pr.not_lt {a b : Pr} (h : a.le b) (k : b.lt a) : False := by simp only [Pr.le, Pr.lt] at *; omega
theorem Pr.ext' {a b : Pr} (h : a.cost = b.cost) (k : a.ops = b.ops) : a = b := by cases a; cases b; simp_all
theorem Pr.anti {a b : Pr} (h : a.le b) (k : b.le a) : a = b := by simp only [Pr.le] at *; exact Pr.ext' (by omega) (by omega)
theorem Pr.plus_le {a b : Pr} {c d o : Int} (h : a.le b) (hc : c ≤ d) : (a.plus c o).le (b.plus d o) := by simp only [Pr.le, Pr.plus] at *; omega
theorem Pr.plus_lt {a b : Pr} {c o : Int} (h : a.lt b) : (a.plus c o).lt (b.plus c o) := by simp only [Pr.lt, Pr.plus] at *; omega
theorem Pr.plus_plus (a : Pr) (c o d q : Int) : (a.plus c o).plus d q = a.plus (c + d) (o + q) := by simp [Pr.plus, Int.add_assoc]

/-! ### What an operation may have -/
def startK (k : Int) (s : Sym) : Bool := if k = 1 then s.old && decide (s.b = 0) else if k = 2 then s.old else !s.old
def linkK (k : Int) (s t : Sym) : Bool := if k = 1 ∨ k = 2 then goesOn s t else if k = 3 then !t.old && decide (t.b = s.b) else !t.old
def fitsN (k : Int) : List Sym → Nat
  | [] => 0
  | s :: l => if startK k s then (if !l.isEmpty && linkK k s (l.headD s) then 1 + fitsN k l else 1) else 0
def opc (k : Int) (n : Int) : Int := if k = 1 then 4 else if k = 2 then 4 + n else if k = 3 then 4 else 2 + n
def topP (l : List Sym) : Pl := (tab l).headD Pl.zero
def bestP (l : List Sym) : Pr := (topP l).best
def cand (k : Int) (l : List Sym) (n : Nat) : Pr := (bestP (l.drop n)).plus (opc k n) 1

theorem fitsN_le (k : Int) : ∀ l : List Sym, fitsN k l ≤ l.length
  | [] => Nat.le_refl _
  | s :: l => by
    have := fitsN_le k l
    unfold fitsN
    split
    · split
      · simp; omega
      · simp
    · simp
theorem fitsN_tail {k : Int} {s : Sym} {l : List Sym} {n : Nat} (h : n + 1 ≤ fitsN k (s :: l)) : n ≤ fitsN k l := by
  unfold fitsN at h
  split at h
  · split at h <;> omega
  · omega
theorem fitsN_start {k : Int} {s : Sym} {l : List Sym} (h : startK k s = false) : fitsN k (s :: l) = 0 := by
  unfold fitsN; simp [h]
theorem fitsN_pos {k : Int} {s : Sym} {l : List Sym} (h : startK k s = true) : 1 ≤ fitsN k (s :: l) := by
  unfold fitsN; rw [if_pos h]; split <;> omega
theorem opc_mono {k : Int} {n m : Int} (h : n ≤ m) : opc k n ≤ opc k m := by
  unfold opc; repeat' split
  all_goals omega
theorem opc_pos {k : Int} {n : Int} (h : 0 ≤ n) : 2 ≤ opc k n := by
  unfold opc; repeat' split
  all_goals omega

theorem tab_getD : ∀ (l : List Sym) (k : Nat), k ≤ l.length → (tab l).getD k Pl.zero = topP (l.drop k)
  | [], k, h => by simp at h; subst h; rfl
  | s :: l, 0, _ => rfl
  | s :: l, k + 1, h => by
    have := tab_getD l k (by simpa using h)
    simpa [tab] using this
theorem nthBest_tab {s : Sym} {l : List Sym} {r : Nat} (h0 : 1 ≤ r) (h : r ≤ l.length + 1) : nthBest (tab l) (r : Int) = bestP ((s :: l).drop r) := by
  obtain ⟨q, rfl⟩ : ∃ q, r = q + 1 := ⟨r - 1, by omega⟩
  unfold nthBest
  rw [show ((q + 1 : Nat) - 1 : Int).toNat = q by omega, tab_getD l q (by omega)]
  rfl

/-! ### Champions -/
/-- Among the operations of a kind: the least, and the longest of these. -/
structure Chp (k : Int) (l : List Sym) (n : Nat) : Prop where
  one : 1 ≤ n
  fit : n ≤ fitsN k l
  low : ∀ m, 1 ≤ m → m ≤ fitsN k l → (cand k l n).le (cand k l m)
  long : ∀ m, n < m → m ≤ fitsN k l → (cand k l n).lt (cand k l m)
structure Core (l : List Sym) (p : Pl) : Prop where
  k0 : 1 ≤ p.kind
  k1 : p.kind ≤ 4
  n0 : 1 ≤ p.length
  n1 : p.length ≤ fitsN p.kind l
  att : p.best = cand p.kind l p.length.toNat
  low : ∀ k n, 1 ≤ k → k ≤ 4 → 1 ≤ n → n ≤ fitsN k l → p.best.le (cand k l n)
  first : ∀ k n, 1 ≤ k → k < p.kind → 1 ≤ n → n ≤ fitsN k l → p.best.lt (cand k l n)
  long : ∀ n : Nat, p.length < n → n ≤ fitsN p.kind l → p.best.lt (cand p.kind l n)

theorem core_one {l : List Sym} {p : Pl} {k : Int} {n : Nat} (hk : p.kind = k) (hn : p.length = n) (hb : p.best = cand k l n) (h0 : 1 ≤ k) (h1 : k ≤ 4) (hc : Chp k l n) (ho : ∀ k', 1 ≤ k' → k' ≤ 4 → k' ≠ k → fitsN k' l = 0) : Core l p := by
  subst hk
  have hn' : p.length.toNat = n := by omega
  refine ⟨h0, h1, by have := hc.one; omega, by have := hc.fit; omega, by rw [hn', hb], ?_, ?_, ?_⟩
  · intro k m h2 h3 h4 h5
    by_cases e : k = p.kind
    · subst e; rw [hb]; exact hc.low m h4 h5
    · rw [ho k h2 h3 e] at h5; omega
  · intro k m h2 h3 h4 h5
    rw [ho k h2 (by omega) (by omega)] at h5; omega
  · intro m h2 h3
    rw [hb]; exact hc.long m (by omega) h3
theorem core_two {l : List Sym} {p : Pl} {a b : Int} {n m : Nat} (hab : a < b) (h0 : 1 ≤ a) (h1 : b ≤ 4) (ha : Chp a l n) (hb : Chp b l m) (ho : ∀ k', 1 ≤ k' → k' ≤ 4 → k' ≠ a → k' ≠ b → fitsN k' l = 0)
    (hp : if (cand b l m).less (cand a l n) then p.kind = b ∧ p.length = m ∧ p.best = cand b l m else p.kind = a ∧ p.length = n ∧ p.best = cand a l n) : Core l p := by
  split at hp
  · rename_i hl
    obtain ⟨e1, e2, e3⟩ := hp
    have hlt := (Pr.less_iff _ _).1 hl
    subst e1
    refine ⟨by omega, h1, by have := hb.one; omega, by have := hb.fit; omega, by rw [e3]; congr 1; omega, ?_, ?_, ?_⟩
    · intro k q h2 h3 h4 h5
      rw [e3]
      by_cases e : k = p.kind
      · subst e; exact hb.low q h4 h5
      · by_cases e' : k = a
        · subst e'; exact Pr.le_trans (Pr.lt_le hlt) (ha.low q h4 h5)
        · rw [ho k h2 h3 e' e] at h5; omega
    · intro k q h2 h3 h4 h5
      rw [e3]
      by_cases e' : k = a
      · subst e'; exact Pr.lt_of_lt_of_le hlt (ha.low q h4 h5)
      · rw [ho k h2 (by omega) e' (by omega)] at h5; omega
    · intro q h2 h3
      rw [e3]; exact hb.long q (by omega) h3
  · rename_i hl
    obtain ⟨e1, e2, e3⟩ := hp
    have hle := Pr.less_false (by simpa using hl)
    subst e1
    refine ⟨h0, by omega, by have := ha.one; omega, by have := ha.fit; omega, by rw [e3]; congr 1; omega, ?_, ?_, ?_⟩
    · intro k q h2 h3 h4 h5
      rw [e3]
      by_cases e : k = p.kind
      · subst e; exact ha.low q h4 h5
      · by_cases e' : k = b
        · subst e'; exact Pr.le_trans hle (hb.low q h4 h5)
        · rw [ho k h2 h3 e e'] at h5; omega
    · intro k q h2 h3 h4 h5
      rw [ho k h2 (by omega) (by omega) (by omega)] at h5; omega
    · intro q h2 h3
      rw [e3]; exact ha.long q (by omega) h3

/-- What a Diff or a Lit that goes on costs from here. -/
structure Opn (k : Int) (l : List Sym) (q : Pr) (n : Int) : Prop where
  one : 1 ≤ n
  fit : n ≤ fitsN k l
  eq : q = (bestP (l.drop n.toNat)).plus n 0
  low : ∀ m : Nat, 1 ≤ m → m ≤ fitsN k l → q.le ((bestP (l.drop m)).plus m 0)
  long : ∀ m : Nat, n < m → m ≤ fitsN k l → q.lt ((bestP (l.drop m)).plus m 0)
theorem Opn.chp {k : Int} {l : List Sym} {q : Pr} {n : Int} {c : Int} (h : Opn k l q n) (hc : ∀ m : Int, opc k m = m + c) : Chp k l n.toNat ∧ cand k l n.toNat = q.plus c 1 := by
  have hn := h.one
  have e : ∀ m : Nat, cand k l m = ((bestP (l.drop m)).plus m 0).plus c 1 := fun m => by
    unfold cand; rw [Pr.plus_plus, hc]; simp
  have e0 : cand k l n.toNat = q.plus c 1 := by rw [e, h.eq, show (n.toNat : Int) = n by omega]
  refine ⟨⟨by omega, by have := h.fit; omega, fun m h1 h2 => ?_, fun m h1 h2 => ?_⟩, e0⟩
  · rw [e0, e]; exact Pr.plus_le (h.low m h1 h2) (Int.le_refl _)
  · rw [e0, e]; exact Pr.plus_lt (h.long m (by omega) h2)
theorem opn_step {k : Int} {s : Sym} {l : List Sym} {more : Pr} {n : Int} (hs : startK k s = true) (hm : (!l.isEmpty && linkK k s (l.headD s)) = true → Opn k l more n) :
    Opn k (s :: l) (openS (topP l) more n (!l.isEmpty && linkK k s (l.headD s))).1 (openS (topP l) more n (!l.isEmpty && linkK k s (l.headD s))).2 := by
  have hf : fitsN k (s :: l) = if (!l.isEmpty && linkK k s (l.headD s)) then 1 + fitsN k l else 1 := by
    conv => lhs; unfold fitsN
    rw [if_pos hs]
  generalize hon : (!l.isEmpty && linkK k s (l.headD s)) = on at *
  have hb : (topP l).best = bestP l := rfl
  cases on with
  | false =>
    simp only [Bool.false_eq_true, if_false] at hf
    unfold openS
    simp only [Bool.false_and, Bool.false_eq_true, if_false, hb]
    refine ⟨by omega, by omega, rfl, fun m h1 h2 => ?_, fun m h1 h2 => by omega⟩
    obtain rfl : m = 1 := by omega
    exact Pr.le_refl _
  | true =>
    have hm := hm rfl
    simp only [if_true] at hf
    unfold openS
    have h1 := hm.one
    have h2 := hm.fit
    have key : ∀ m : Nat, 1 ≤ m → m ≤ fitsN k l → (more.plus 1 0).le ((bestP ((s :: l).drop (m + 1))).plus (m + 1 : Nat) 0) := fun m a b => by
      have := hm.low m a b
      simp only [List.drop_succ_cons, Pr.le, Pr.plus] at this ⊢; omega
    cases hl : ((topP l).best.plus 1 0).less (more.plus 1 0) with
    | true =>
      simp only [Bool.true_and, Bool.not_true, Bool.false_eq_true, if_false, hb]
      have hlt := (Pr.less_iff _ _).1 hl
      rw [hb] at hlt
      refine ⟨by omega, by omega, rfl, fun m a b => ?_, fun m a b => ?_⟩
      · by_cases e : m = 1
        · subst e; exact Pr.le_refl _
        · obtain ⟨q, rfl⟩ : ∃ q, m = q + 1 := ⟨m - 1, by omega⟩
          exact Pr.le_trans (Pr.lt_le hlt) (key q (by omega) (by omega))
      · obtain ⟨q, rfl⟩ : ∃ q, m = q + 1 := ⟨m - 1, by omega⟩
        exact Pr.lt_of_lt_of_le hlt (key q (by omega) (by omega))
    | false =>
      simp only [Bool.true_and, Bool.not_false, if_true]
      have hle := Pr.less_false hl
      rw [hb] at hle
      refine ⟨by omega, by omega, ?_, fun m a b => ?_, fun m a b => ?_⟩
      · rw [hm.eq, Pr.plus_plus, show (n + 1).toNat = n.toNat + 1 by omega, List.drop_succ_cons]; rfl
      · by_cases e : m = 1
        · subst e; exact hle
        · obtain ⟨q, rfl⟩ : ∃ q, m = q + 1 := ⟨m - 1, by omega⟩
          exact key q (by omega) (by omega)
      · obtain ⟨q, rfl⟩ : ∃ q, m = q + 1 := ⟨m - 1, by omega⟩
        have := hm.long q (by omega) (by omega)
        simp only [List.drop_succ_cons, Pr.lt, Pr.plus] at this ⊢; omega

/-! ### The table -/
structure Ent (s : Sym) (l : List Sym) (p : Pl) : Prop where
  core : Core (s :: l) p
  run1 : p.copyRun = fitsN 1 (s :: l)
  run3 : p.equalRun = fitsN 3 (s :: l)
  dif : s.old = true → Opn 2 (s :: l) p.diff p.diffLen
  lit : s.old = false → Opn 4 (s :: l) p.lit p.litLen
def Gd : List Sym → Prop
  | [] => True
  | s :: l => Ent s l (topP (s :: l)) ∧ Gd l
theorem Gd.drop : ∀ {l : List Sym} (n : Nat), Gd l → Gd (l.drop n)
  | [], n, h => by simpa using h
  | s :: l, 0, h => h
  | s :: l, n + 1, h => Gd.drop n h.2
theorem Gd.core {l : List Sym} (h : Gd l) (hl : l ≠ []) : Core l (topP l) := by
  cases l with
  | nil => exact absurd rfl hl
  | cons s l => exact h.1.core
theorem Gd.tail_le {s : Sym} {l : List Sym} (h : Gd (s :: l)) : (bestP l).le (bestP (s :: l)) := by
  have hc := h.1.core
  have e : bestP (s :: l) = cand (topP (s :: l)).kind (s :: l) (topP (s :: l)).length.toNat := hc.att
  obtain ⟨n, hn⟩ : ∃ n, (topP (s :: l)).length.toNat = n + 1 := ⟨(topP (s :: l)).length.toNat - 1, by have := hc.n0; omega⟩
  rw [e, hn]
  unfold cand
  rw [List.drop_succ_cons]
  have h0 : ∀ m : Int, 0 ≤ m → 0 ≤ opc (topP (s :: l)).kind m := fun m hm => by have := opc_pos (k := (topP (s :: l)).kind) hm; omega
  by_cases hz : n = 0
  · subst hz
    have := h0 ((0 + 1 : Nat) : Int) (by omega)
    simp only [List.drop_zero, Pr.le, Pr.plus]; omega
  · have hf : n ≤ fitsN (topP (s :: l)).kind l := fitsN_tail (s := s) (by have := hc.n1; omega)
    have hl : l ≠ [] := by
      intro e; subst e
      have := fitsN_le (topP [s]).kind []
      simp at this; omega
    have := (h.2.core hl).low _ n hc.k0 hc.k1 (by omega) hf
    refine Pr.le_trans this ?_
    unfold cand
    exact Pr.plus_le (Pr.le_refl _) (opc_mono (by omega))
theorem Gd.mono {l : List Sym} (h : Gd l) (n : Nat) : ∀ m : Nat, (bestP (l.drop (n + m))).le (bestP (l.drop n))
  | 0 => Pr.le_refl _
  | m + 1 => by
    refine Pr.le_trans ?_ (h.mono n m)
    by_cases hm : n + m < l.length
    · have h1 := h.drop (n + m)
      rw [List.drop_eq_getElem_cons hm] at h1 ⊢
      have := h1.tail_le
      rwa [show n + (m + 1) = n + m + 1 by omega]
    · rw [List.drop_of_length_le (by omega), List.drop_of_length_le (by omega)]; exact Pr.le_refl _
theorem chp_flat {k : Int} {s : Sym} {l : List Sym} (h : Gd l) (hc : ∀ n m : Int, opc k n = opc k m) (hs : startK k s = true) : Chp k (s :: l) (fitsN k (s :: l)) := by
  refine ⟨fitsN_pos hs, Nat.le_refl _, fun m h1 h2 => ?_, fun m h1 h2 => by omega⟩
  obtain ⟨q, rfl⟩ : ∃ q, m = q + 1 := ⟨m - 1, by omega⟩
  obtain ⟨r, hr⟩ : ∃ r, fitsN k (s :: l) = (q + r) + 1 := ⟨fitsN k (s :: l) - q - 1, by omega⟩
  rw [hr]
  unfold cand
  rw [hc ((q + r + 1 : Nat) : Int) ((q + 1 : Nat) : Int), List.drop_succ_cons, List.drop_succ_cons]
  exact Pr.plus_le (h.mono q r) (Int.le_refl _)
theorem isEmpty_head {l : List Sym} (h : l.isEmpty = false) (s : Sym) : ∃ t r, l = t :: r ∧ l.headD s = t := by
  cases l with
  | nil => cases h
  | cons t r => exact ⟨t, r, rfl, rfl⟩
theorem fit_other {s : Sym} {l : List Sym} {k : Int} (h0 : 1 ≤ k) (h1 : k ≤ 4) : (s.old = true → (k = 3 ∨ k = 4) → fitsN k (s :: l) = 0) ∧ (s.old = false → (k = 1 ∨ k = 2) → fitsN k (s :: l) = 0) := by
  refine ⟨fun ho hk => fitsN_start ?_, fun ho hk => fitsN_start ?_⟩ <;> unfold startK <;> rcases hk with rfl | rfl <;> simp [ho]
theorem tab_ent (s : Sym) (l : List Sym) (h : Gd l) (hr : ∀ t ∈ s :: l, t.old = false → t.at_ = 0) : Ent s l (topP (s :: l)) := by
  have htop : topP (s :: l) = mkPl s (l.headD s) l.isEmpty (tab l) := rfl
  have hrun1 : (runsS s (l.headD s) (topP l) l.isEmpty).1 = fitsN 1 (s :: l) := by
    unfold runsS fitsN startK linkK
    simp only [if_true, true_or]
    by_cases h1 : (s.old && decide (s.b = 0)) = true
    · rw [if_pos h1, if_pos h1]
      cases he : l.isEmpty with
      | true => simp
      | false =>
        obtain ⟨t, r, rfl, hh⟩ := isEmpty_head he s
        rw [hh]
        by_cases h2 : goesOn s t = true
        · simp only [h2]; simp; exact h.1.run1
        · simp [h2]
    · rw [if_neg h1, if_neg h1]; rfl
  have hrun3 : (runsS s (l.headD s) (topP l) l.isEmpty).2 = fitsN 3 (s :: l) := by
    unfold runsS fitsN startK linkK
    simp only [show ¬ ((3 : Int) = 1) by decide, show ¬ ((3 : Int) = 2) by decide, if_false, if_true]
    by_cases h1 : (!s.old) = true
    · rw [if_pos h1, if_pos h1]
      cases he : l.isEmpty with
      | true => simp
      | false =>
        obtain ⟨t, r, rfl, hh⟩ := isEmpty_head he s
        rw [hh]
        have hso : s.old = false := by simpa using h1
        have heq : symEq s t = (!t.old && decide (t.b = s.b)) := by
          unfold symEq
          rw [hso]
          cases hto : t.old with
          | true => simp
          | false =>
            have a1 := hr s (by simp) hso
            have a2 := hr t (by simp) hto
            simp [a1, a2, eq_comm]
        rw [heq]
        by_cases h2 : (!t.old && decide (t.b = s.b)) = true
        · simp only [h2]; simp; exact h.1.run3
        · simp only [Bool.not_eq_true] at h2; simp only [h2]; simp
    · rw [if_neg h1, if_neg h1]; rfl
  have hrest : (tab l).headD Pl.zero = topP l := rfl
  have hlen1 := fitsN_le 1 (s :: l)
  have hlen3 := fitsN_le 3 (s :: l)
  simp only [List.length_cons] at hlen1 hlen3
  cases ho : s.old with
  | true =>
    have hon : (!l.isEmpty && goesOn s (l.headD s)) = (!l.isEmpty && linkK 2 s (l.headD s)) := by simp [linkK]
    have hopn : Opn 2 (s :: l) (openS (topP l) (topP l).diff (topP l).diffLen (!l.isEmpty && linkK 2 s (l.headD s))).1 (openS (topP l) (topP l).diff (topP l).diffLen (!l.isEmpty && linkK 2 s (l.headD s))).2 := by
      refine opn_step (by simp [startK, ho]) fun hh => ?_
      simp only [Bool.and_eq_true, Bool.not_eq_true'] at hh
      obtain ⟨t, r, rfl, ht⟩ := isEmpty_head hh.1 s
      have : goesOn s t = true := by simpa [linkK, ht] using hh.2
      exact h.1.dif (by simp [goesOn] at this; exact this.1.2)
    obtain ⟨hch, hcd⟩ := hopn.chp (c := 4) (fun m => by simp [opc]; omega)
    rw [htop, mkPl_t ho hrest rfl, hon]
    generalize openS (topP l) (topP l).diff (topP l).diffLen (!l.isEmpty && linkK 2 s (l.headD s)) = o at *
    have hoth : ∀ k', 1 ≤ k' → k' ≤ 4 → k' ≠ 1 → k' ≠ 2 → fitsN k' (s :: l) = 0 := fun k' a b c d => (fit_other a b).1 ho (by omega)
    by_cases hf : startK 1 s = true
    · have hf1 := fitsN_pos (l := l) hf
      have hp1 : pl1 s (l.headD s) (topP l) l.isEmpty (tab l) = { Pl.zero with copyRun := fitsN 1 (s :: l), equalRun := fitsN 3 (s :: l), kind := 1, length := fitsN 1 (s :: l), best := cand 1 (s :: l) (fitsN 1 (s :: l)) } := by
        unfold pl1
        rw [hrun1, hrun3, if_pos (by omega), nthBest_tab (s := s) hf1 (by omega)]
        unfold tryS
        rw [if_pos (by simp [Pl.zero])]
        rfl
      rw [hp1]
      have hkz : ((1 : Int) = 0) = False := by simp
      have hcore : ∀ p : Pl, (if (cand 2 (s :: l) o.2.toNat).less (cand 1 (s :: l) (fitsN 1 (s :: l))) then p.kind = 2 ∧ p.length = o.2.toNat ∧ p.best = cand 2 (s :: l) o.2.toNat else p.kind = 1 ∧ p.length = fitsN 1 (s :: l) ∧ p.best = cand 1 (s :: l) (fitsN 1 (s :: l))) → Core (s :: l) p :=
        fun p hp => core_two (by decide) (by decide) (by decide) (chp_flat h (fun _ _ => by simp [opc]) hf) hch hoth hp
      have h1 := hopn.one
      rw [← hcd]
      unfold tryS
      simp only [hkz, decide_false, Bool.false_or]
      cases hl : (cand 2 (s :: l) o.2.toNat).less (cand 1 (s :: l) (fitsN 1 (s :: l))) with
      | true =>
        rw [if_pos (by simp)]
        refine ⟨hcore _ (by rw [if_pos hl]; exact ⟨rfl, by dsimp only; omega, rfl⟩), rfl, rfl, fun _ => hopn, fun e => by rw [ho] at e; cases e⟩
      | false =>
        rw [if_neg (by simp)]
        refine ⟨hcore _ (by rw [if_neg (by simp [hl])]; exact ⟨rfl, rfl, rfl⟩), rfl, rfl, fun _ => hopn, fun e => by rw [ho] at e; cases e⟩
    · have hf' : startK 1 s = false := by simpa using hf
      have hf0 : fitsN 1 (s :: l) = 0 := fitsN_start hf'
      have hp1 : pl1 s (l.headD s) (topP l) l.isEmpty (tab l) = { Pl.zero with copyRun := fitsN 1 (s :: l), equalRun := fitsN 3 (s :: l) } := by
        unfold pl1
        rw [hrun1, hrun3, if_neg (by omega)]
      rw [hp1, ← hcd]
      unfold tryS
      rw [if_pos (by simp [Pl.zero])]
      have h1 := hopn.one
      refine ⟨core_one (k := 2) rfl (n := o.2.toNat) (by dsimp only; omega) rfl (by decide) (by decide) hch ?_, rfl, rfl, fun _ => hopn, fun e => by rw [ho] at e; cases e⟩
      intro k' a b c
      by_cases e : k' = 1
      · subst e; exact hf0
      · exact hoth k' a b e c
  | false =>
    have hon : (!l.isEmpty && !(l.headD s).old) = (!l.isEmpty && linkK 4 s (l.headD s)) := by simp [linkK]
    have hopn : Opn 4 (s :: l) (openS (topP l) (topP l).lit (topP l).litLen (!l.isEmpty && linkK 4 s (l.headD s))).1 (openS (topP l) (topP l).lit (topP l).litLen (!l.isEmpty && linkK 4 s (l.headD s))).2 := by
      refine opn_step (by simp [startK, ho]) fun hh => ?_
      simp only [Bool.and_eq_true, Bool.not_eq_true'] at hh
      obtain ⟨t, r, rfl, ht⟩ := isEmpty_head hh.1 s
      have : t.old = false := by simpa [linkK, ht] using hh.2
      exact h.1.lit this
    obtain ⟨hch, hcd⟩ := hopn.chp (c := 2) (fun m => by simp [opc]; omega)
    have hf0 : fitsN 1 (s :: l) = 0 := fitsN_start (by simp [startK, ho])
    have hf3 : startK 3 s = true := by simp [startK, ho]
    have hf3' := fitsN_pos (l := l) hf3
    have hp1 : pl1 s (l.headD s) (topP l) l.isEmpty (tab l) = { Pl.zero with copyRun := fitsN 1 (s :: l), equalRun := fitsN 3 (s :: l) } := by
      unfold pl1
      rw [hrun1, hrun3, if_neg (by omega)]
    rw [htop, mkPl_f ho hrest rfl rfl, hon, hp1]
    generalize openS (topP l) (topP l).lit (topP l).litLen (!l.isEmpty && linkK 4 s (l.headD s)) = o at *
    have hoth : ∀ k', 1 ≤ k' → k' ≤ 4 → k' ≠ 3 → k' ≠ 4 → fitsN k' (s :: l) = 0 := fun k' a b c d => (fit_other a b).2 ho (by omega)
    have hkz : ((3 : Int) = 0) = False := by simp
    have hcore : ∀ p : Pl, (if (cand 4 (s :: l) o.2.toNat).less (cand 3 (s :: l) (fitsN 3 (s :: l))) then p.kind = 4 ∧ p.length = o.2.toNat ∧ p.best = cand 4 (s :: l) o.2.toNat else p.kind = 3 ∧ p.length = fitsN 3 (s :: l) ∧ p.best = cand 3 (s :: l) (fitsN 3 (s :: l))) → Core (s :: l) p :=
      fun p hp => core_two (by decide) (by decide) (by decide) (chp_flat h (fun _ _ => by simp [opc]) hf3) hch hoth hp
    have h1 := hopn.one
    have htry : tryS { Pl.zero with copyRun := fitsN 1 (s :: l), equalRun := fitsN 3 (s :: l) } 3 (fitsN 3 (s :: l)) ((nthBest (tab l) (fitsN 3 (s :: l))).plus 4 1) =
        { Pl.zero with copyRun := fitsN 1 (s :: l), equalRun := fitsN 3 (s :: l), kind := 3, length := fitsN 3 (s :: l), best := cand 3 (s :: l) (fitsN 3 (s :: l)) } := by
      rw [nthBest_tab (s := s) hf3' (by omega)]
      unfold tryS
      rw [if_pos (by simp [Pl.zero])]
      rfl
    rw [htry, ← hcd]
    unfold tryS
    simp only [hkz, decide_false, Bool.false_or]
    cases hl : (cand 4 (s :: l) o.2.toNat).less (cand 3 (s :: l) (fitsN 3 (s :: l))) with
    | true =>
      rw [if_pos (by simp)]
      refine ⟨hcore _ (by rw [if_pos hl]; exact ⟨rfl, by dsimp only; omega, rfl⟩), rfl, rfl, (fun e => by rw [ho] at e; cases e), fun _ => hopn⟩
    | false =>
      rw [if_neg (by simp)]
      refine ⟨hcore _ (by rw [if_neg (by simp [hl])]; exact ⟨rfl, rfl, rfl⟩), rfl, rfl, (fun e => by rw [ho] at e; cases e), fun _ => hopn⟩
theorem tab_gd : ∀ (l : List Sym), (∀ t ∈ l, t.old = false → t.at_ = 0) → Gd l
  | [], _ => trivial
  | s :: l, hr => by
    have h := tab_gd l fun t ht => hr t (by simp [ht])
    exact ⟨tab_ent s l h hr, h⟩
end Go.Inl
