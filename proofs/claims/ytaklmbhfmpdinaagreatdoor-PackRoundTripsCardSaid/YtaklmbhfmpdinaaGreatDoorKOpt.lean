/- The table of package normal finds the least price, and the first and longest operation that has it. Conditions: symbols are right. What the cheapest list of operations is: its symbols, its rightness, its cost against every other list. Conditions: symbols are right. Equal literals are one Run or one Lit, bytes in order one Copy, with a number added one Diff. Conditions: none. -/
import Derived.Test.YtaklmbhfmpdinaaGreatDoorKCore2
namespace Go.Inl

/-! ### Prices in order -/
def Pr.le (a b : Pr) : Prop := a.cost < b.cost ∨ (a.cost = b.cost ∧ a.ops ≤ b.ops)
def Pr.lt (a b : Pr) : Prop := a.cost < b.cost ∨ (a.cost = b.cost ∧ a.ops < b.ops)
theorem Pr.le_refl (a : Pr) : a.le a := by simp [Pr.le]
theorem Pr.le_trans {a b c : Pr} (h : a.le b) (k : b.le c) : a.le c := by simp only [Pr.le] at *; omega
theorem Pr.lt_of_lt_of_le {a b c : Pr} (h : a.lt b) (k : b.le c) : a.lt c := by simp only [Pr.le, Pr.lt] at *; omega
theorem Pr.not_lt {a b : Pr} (h : a.le b) (k : b.lt a) : False := by simp only [Pr.le, Pr.lt] at *; omega
/-! ### What an operation may have -/
def startK (k : Int) (s : Sym) : Bool := if k = 1 then s.old && decide (s.b = 0) else if k = 2 then s.old else !s.old
def linkK (k : Int) (s t : Sym) : Bool := if k = 1 ∨ k = 2 then goesOn s t else if k = 3 then !t.old && decide (t.b = s.b) else !t.old
def fitsN (k : Int) : List Sym → Nat
  | [] => 0
  | s :: l => if startK k s then (if !l.isEmpty && linkK k s (l.headD s) then 1 + fitsN k l else 1) else 0
def opc (k : Int) (n : Int) : Int := if k = 1 then 4 else if k = 2 then 4 + n else if k = 3 then 4 else 2 + n
theorem fitsN_start {k : Int} {s : Sym} {l : List Sym} (h : startK k s = false) : fitsN k (s :: l) = 0 := by
  unfold fitsN; simp [h]
theorem fitsN_pos {k : Int} {s : Sym} {l : List Sym} (h : startK k s = true) : 1 ≤ fitsN k (s :: l) := by
  unfold fitsN; rw [if_pos h]; split <;> omega
end Go.Inl

namespace Go.Inl

/-! ### Which symbols an operation may have, one by one -/
def relK (k : Int) (s : Sym) (j : Nat) (t : Sym) : Prop :=
  if k = 1 then s.old = true ∧ t.old = true ∧ t.at_ = s.at_ + j ∧ t.b = 0
  else if k = 2 then s.old = true ∧ t.old = true ∧ t.at_ = s.at_ + j
  else if k = 3 then s.old = false ∧ t.old = false ∧ t.b = s.b
  else t.old = false
theorem rel_start {k : Int} {s : Sym} : startK k s = true ↔ relK k s 0 s := by
  unfold startK relK
  by_cases h1 : k = 1
  · subst h1; simp
  · by_cases h2 : k = 2
    · subst h2; simp
    · by_cases h3 : k = 3
      · subst h3; simp
      · simp [h1, h2, h3]
theorem rel_link {k : Int} {s t : Sym} (h : relK k s 1 t) : linkK k s t = true := by
  unfold relK at h; unfold linkK goesOn
  by_cases h1 : k = 1
  · subst h1; simp at h ⊢; exact ⟨⟨h.1, h.2.1⟩, h.2.2.1⟩
  · by_cases h2 : k = 2
    · subst h2; simp at h ⊢; exact ⟨⟨h.1, h.2.1⟩, h.2.2⟩
    · by_cases h3 : k = 3
      · subst h3; simp at h ⊢; exact ⟨h.2.1, h.2.2⟩
      · simp [h1, h2, h3] at h ⊢; exact h
theorem rel_step {k : Int} {s t u : Sym} {j : Nat} (hs : startK k s = true) (hl : linkK k s t = true) (h : relK k t j u) : relK k s (j + 1) u := by
  unfold relK at h ⊢; unfold linkK goesOn at hl; unfold startK at hs
  by_cases h1 : k = 1
  · subst h1; simp at h hl hs ⊢; exact ⟨hs.1, h.2.1, by omega, h.2.2.2⟩
  · by_cases h2 : k = 2
    · subst h2; simp at h hl hs ⊢; exact ⟨hs, h.2.1, by omega⟩
    · by_cases h3 : k = 3
      · subst h3; simp at h hl hs ⊢; exact ⟨hs, h.2.1, by omega⟩
      · simp [h1, h2, h3] at h ⊢; exact h
theorem rel_back {k : Int} {s t u : Sym} {j : Nat} (ht : relK k s 1 t) (h : relK k s (j + 1) u) : relK k t j u := by
  unfold relK at h ht ⊢
  by_cases h1 : k = 1
  · subst h1; simp at h ht ⊢; exact ⟨ht.2.1, h.2.1, by omega, h.2.2.2⟩
  · by_cases h2 : k = 2
    · subst h2; simp at h ht ⊢; exact ⟨ht.2.1, h.2.1, by omega⟩
    · by_cases h3 : k = 3
      · subst h3; simp at h ht ⊢; exact ⟨ht.2.1, h.2.1, by omega⟩
      · simp [h1, h2, h3] at h ⊢; exact h
theorem fits_iff {k : Int} : ∀ (l : List Sym) (s : Sym) (n : Nat), n ≤ fitsN k (s :: l) ↔ ∀ j < n, ∃ t, (s :: l)[j]? = some t ∧ relK k s j t
  | l, s, 0 => by simp
  | l, s, n + 1 => by
    constructor
    · intro h
      have hs : startK k s = true := by
        cases hs : startK k s with
        | true => rfl
        | false => rw [fitsN_start hs] at h; omega
      intro j hj
      cases j with
      | zero => exact ⟨s, rfl, rel_start.1 hs⟩
      | succ j =>
        unfold fitsN at h
        rw [if_pos hs] at h
        split at h
        · rename_i hl
          simp only [Bool.and_eq_true, Bool.not_eq_true'] at hl
          cases l with
          | nil => cases hl.1
          | cons t r =>
            obtain ⟨u, h1, h2⟩ := (fits_iff (k := k) r t n).1 (by omega) j (by omega)
            exact ⟨u, by simpa using h1, rel_step hs hl.2 h2⟩
        · omega
    · intro h
      have hs : startK k s = true := by
        obtain ⟨t, h1, h2⟩ := h 0 (by omega)
        simp at h1; subst h1
        exact rel_start.2 h2
      by_cases hn : n = 0
      · subst hn; exact fitsN_pos hs
      · obtain ⟨t, h1, h2⟩ := h 1 (by omega)
        cases l with
        | nil => simp at h1
        | cons t' r =>
          simp at h1; subst h1
          have ih := (fits_iff r t' n).2 fun j hj => by
            obtain ⟨u, k1, k2⟩ := h (j + 1) (by omega)
            exact ⟨u, by simpa using k1, rel_back h2 k2⟩
          unfold fitsN
          rw [if_pos hs, if_pos (by simp [rel_link h2])]
          omega
/-! ### Lists of operations by their cost -/
inductive Seg : List Sym → Int → Prop where
  | nil : Seg [] 0
  | cons {k : Int} {l : List Sym} {n : Nat} {c : Int} : 1 ≤ k → k ≤ 4 → 1 ≤ n → n ≤ fitsN k l → Seg (l.drop n) c → Seg l (opc k n + c)
/-! ### The list that is made -/
def okL (n : Int) (l : List Sym) : Prop := ∀ s ∈ l, strange n s = false
theorem okL.in {n : Int} {l : List Sym} (h : okL n l) : ∀ t ∈ l, t.old = true → 0 ≤ t.at_ ∧ t.at_ < n := fun t ht ho => by
  have := h t ht
  simpa [strange, ho] using this
theorem okL.drop {n : Int} {l : List Sym} (h : okL n l) (k : Nat) : okL n (l.drop k) := fun s hs => h s (List.mem_of_mem_drop hs)
theorem okL.take {n : Int} {l : List Sym} (h : okL n l) (k : Nat) : okL n (l.take k) := fun s hs => h s (List.mem_of_mem_take hs)
def sumC : List OpL → Int
  | [] => 0
  | x :: l => opc x.kind x.len + sumC l
def OpsOk (n : Int) (ops : List OpL) : Prop := ∀ x ∈ ops, 1 ≤ x.len ∧ rightP x n = true
theorem right_kind {x : OpL} {n : Int} (h : rightP x n = true) : 1 ≤ x.kind ∧ x.kind ≤ 4 := by
  unfold rightP at h
  split at h
  · omega
  · split at h
    · omega
    · split at h
      · omega
      · split at h
        · omega
        · cases h
/-! ### Any right list of operations -/
theorem op_ok {n : Int} {x : OpL} (h1 : 1 ≤ x.len) (h2 : rightP x n = true) : okL n (symsOp x) ∧ (x.len.toNat : Int) = x.len ∧ ∀ r, x.len.toNat ≤ fitsN x.kind (symsOp x ++ r) := by
  have hlen := symsOp_length x
  have hget : ∀ j, j < x.len.toNat → (symsOp x)[j]? = some (symS x (j : Int)) := fun j hj => by
    unfold symsOp; rw [List.getElem?_map, List.getElem?_range hj]; rfl
  refine ⟨?_, by omega, fun r => ?_⟩
  · intro s hs
    obtain ⟨j, hj, rfl⟩ := List.getElem_of_mem hs
    rw [hlen] at hj
    have e := hget j hj
    have e' : (symsOp x)[j]'(by omega) = symS x (j : Int) := by
      have := List.getElem?_eq_getElem (l := symsOp x) (i := j) (by omega)
      rw [e] at this; exact (Option.some.inj this).symm
    rw [e']
    unfold rightP insideP at h2
    unfold symS
    split at h2
    · rename_i hk; rw [if_pos hk]; simp only [Bool.and_eq_true, decide_eq_true_eq] at h2; simp [strange]; omega
    · rename_i hk; rw [if_neg hk]
      split at h2
      · rename_i hk; rw [if_pos hk]; simp only [Bool.and_eq_true, decide_eq_true_eq] at h2; simp [strange]; omega
      · rename_i hk; rw [if_neg hk]
        split at h2
        · rename_i hk; rw [if_pos hk]; simp [strange]
        · rename_i hk; rw [if_neg hk]
          split <;> simp [strange]
  · cases hc : symsOp x ++ r with
    | nil => have := congrArg List.length hc; rw [List.length_append, hlen] at this; simp at this; omega
    | cons s q =>
      have hs : s = symS x 0 := by
        have h0 := hget 0 (by omega)
        have := congrArg (·[0]?) hc
        simp only [List.getElem?_cons_zero] at this
        rw [List.getElem?_append_left (by omega), h0] at this
        exact (Option.some.inj this).symm
      rw [fits_iff, ← hc]
      intro j hj
      refine ⟨symS x (j : Int), by rw [List.getElem?_append_left (by omega)]; exact hget j hj, ?_⟩
      rw [hs]
      unfold rightP at h2
      unfold relK symS
      split at h2
      · rename_i hk; simp [hk]
      · rename_i hk
        split at h2
        · rename_i hk; simp [hk]
        · rename_i hk
          split at h2
          · rename_i hk; simp [hk]
          · rename_i hk
            split at h2
            · rename_i hk; simp [hk]
            · cases h2
theorem ops_ok {n : Int} : ∀ (ops : List OpL), OpsOk n ops → okL n (symsOf ops) ∧ Seg (symsOf ops) (sumC ops)
  | [], _ => ⟨fun s hs => by simp [symsOf] at hs, Seg.nil⟩
  | x :: l, h => by
    obtain ⟨h1, h2⟩ := ops_ok l fun y hy => h y (by simp [hy])
    have hx := h x (by simp)
    obtain ⟨h3, h4, h5⟩ := op_ok hx.1 hx.2
    have hk := right_kind hx.2
    rw [symsOf_cons]
    refine ⟨fun s hs => (List.mem_append.1 hs).elim (h3 s) (h1 s), ?_⟩
    unfold sumC
    rw [← h4]
    refine Seg.cons hk.1 hk.2 (by omega) (h5 _) ?_
    rw [List.drop_append_of_le_length (by rw [symsOp_length]; exact Nat.le_refl _), List.drop_of_length_le (by rw [symsOp_length]; exact Nat.le_refl _)]
    exact h2
/-! ### Patches -/
theorem checkGo_right {n : Int} : ∀ (l : List OpL) (left i : Int), OpsOk n l → ((symsOf l).length : Int) = left → (checkGo n l left i).2 = 0
  | [], left, i, _, h => by
    simp [symsOf] at h
    unfold checkGo; rw [if_neg (by omega)]
  | x :: l, left, i, hr, h => by
    obtain ⟨h1, h2⟩ := hr x (by simp)
    rw [symsOf_cons, List.length_append, symsOp_length] at h
    rw [checkGo_good (by simp [h2]; omega)]
    exact checkGo_right l _ _ (fun y hy => hr y (by simp [hy])) (by omega)
theorem checkP_right {p : PatL} (h0 : 0 ≤ p.in_ ∧ p.in_ ≤ 65536) (h1 : OpsOk p.in_ p.ops) (h2 : ((symsOf p.ops).length : Int) = p.out) (h3 : p.out ≤ 65536) (h4 : p.ops.length ≤ 4096) : (checkP p).2 = 0 := by
  unfold checkP
  have hb : badP p = false := by
    unfold badP
    simp only [Bool.or_eq_false_iff, decide_eq_false_iff_not]
    refine ⟨⟨?_, ?_⟩, ?_⟩
    · split <;> omega
    · split <;> omega
    · omega
  rw [hb]
  simp only [Bool.false_eq_true, if_false]
  exact checkGo_right _ _ _ h1 h2
theorem symbolsP_ok {p : PatL} (h : (checkP p).2 = 0) : symbolsP p = (symsOf p.ops, 0) := by
  unfold symbolsP; rw [if_pos h]
theorem sameOpS_iff {a b : OpL} : sameOpS a b = true ↔ a = b := by
  obtain ⟨a1, a2, a3, a4, a5⟩ := a; obtain ⟨b1, b2, b3, b4, b5⟩ := b
  simp [sameOpS, and_assoc]
end Go.Inl

set_option linter.unusedVariables false
namespace Go.Inl
end Go.Inl
