/- What the cheapest list of operations is: its symbols, its rightness, its cost against every other list. Conditions: symbols are right. -/
import Derived.Test.YthningkgpanaoaaOpt
namespace Go.Inl

/-! ### Which symbols an operation may have, one by one -/
def relK (k : Int) (s : Sym) (j : Nat) (t : Sym) : Prop :=
  if k = 1 then s.old = true ∧ t.old = true ∧ t.at_ = s.at_ + j ∧ t.b = 0
  else if k = 2 then s.old = true ∧ t.old = true ∧ t.at_ = s.at_ + j
  else if k = 3 then s.old = false ∧ t.old = false ∧ t.b = s.b
  else t.old = false
theorem rel_start {k : Int} {s : Sym} : startK k s = true ↔ relK k s 0 s := by
  unfold startK relK
  by_cases h1 : k = 1
  · subst h1; simp
  · by_cases h2 : k = 2
    · subst h2; simp
    · by_cases h3 : k = 3
      · subst h3; simp
      · simp [h1, h2, h3]
theorem rel_link {k : Int} {s t : Sym} (h : relK k s 1 t) : linkK k s t = true := by
  unfold relK at h; unfold linkK goesOn
  by_cases h1 : k = 1
  · subst h1; simp at h ⊢; exact ⟨⟨h.1, h.2.1⟩, h.2.2.1⟩
  · by_cases h2 : k = 2
    · subst h2; simp at h ⊢; exact ⟨⟨h.1, h.2.1⟩, h.2.2⟩
    · by_cases h3 : k = 3
      · subst h3; simp at h ⊢; exact ⟨h.2.1, h.2.2⟩
      · simp [h1, h2, h3] at h ⊢; exact h
theorem rel_step {k : Int} {s t u : Sym} {j : Nat} (hs : startK k s = true) (hl : linkK k s t = true) (h : relK k t j u) : relK k s (j + 1) u := by
  unfold relK at h ⊢; unfold linkK goesOn at hl; unfold startK at hs
  by_cases h1 : k = 1
  · subst h1; simp at h hl hs ⊢; exact ⟨hs.1, h.2.1, by omega, h.2.2.2⟩
  · by_cases h2 : k = 2
    · subst h2; simp at h hl hs ⊢; exact ⟨hs, h.2.1, by omega⟩
    · by_cases h3 : k = 3
      · subst h3; simp at h hl hs ⊢; exact ⟨hs, h.2.1, by omega⟩
      · simp [h1, h2, h3] at h ⊢; exact h
theorem rel_back {k : Int} {s t u : Sym} {j : Nat} (ht : relK k s 1 t) (h : relK k s (j + 1) u) : relK k t j u := by
  unfold relK at h ht ⊢
  by_cases h1 : k = 1
  · subst h1; simp at h ht ⊢; exact ⟨ht.2.1, h.2.1, by omega, h.2.2.2⟩
  · by_cases h2 : k = 2
    · subst h2; simp at h ht ⊢; exact ⟨ht.2.1, h.2.1, by omega⟩
    · by_cases h3 : k = 3
      · subst h3; simp at h ht ⊢; exact ⟨ht.2.1, h.2.1, by omega⟩
      · simp [h1, h2, h3] at h ⊢; exact h
theorem fits_iff {k : Int} : ∀ (l : List Sym) (s : Sym) (n : Nat), n ≤ fitsN k (s :: l) ↔ ∀ j < n, ∃ t, (s :: l)[j]? = some t ∧ relK k s j t
  | l, s, 0 => by simp
  | l, s, n + 1 => by
    constructor
    · intro h
      have hs : startK k s = true := by
        cases hs : startK k s with
        | true => rfl
        | false => rw [fitsN_start hs] at h; omega
      intro j hj
      cases j with
      | zero => exact ⟨s, rfl, rel_start.1 hs⟩
      | succ j =>
        unfold fitsN at h
        rw [if_pos hs] at h
        split at h
        · rename_i hl
          simp only [Bool.and_eq_true, Bool.not_eq_true'] at hl
          cases l with
          | nil => cases hl.1
          | cons t r =>
            obtain ⟨u, h1, h2⟩ := (fits_iff (k := k) r t n).1 (by omega) j (by omega)
            exact ⟨u, by simpa using h1, rel_step hs hl.2 h2⟩
        · omega
    · intro h
      have hs : startK k s = true := by
        obtain ⟨t, h1, h2⟩ := h 0 (by omega)
        simp at h1; subst h1
        exact rel_start.2 h2
      by_cases hn : n = 0
      · subst hn; exact fitsN_pos hs
      · obtain ⟨t, h1, h2⟩ := h 1 (by omega)
        cases l with
        | nil => simp at h1
        | cons t' r =>
          simp at h1; subst h1
          have ih := (fits_iff r t' n).2 fun j hj => by
            obtain ⟨u, k1, k2⟩ := h (j + 1) (by omega)
            exact ⟨u, by simpa using k1, rel_back h2 k2⟩
          unfold fitsN
          rw [if_pos hs, if_pos (by simp [rel_link h2])]
          omega
theorem fits_take {k : Int} {l : List Sym} {n m : Nat} (h : n ≤ fitsN k l) : min n m ≤ fitsN k (l.take m) := by
  cases l with
  | nil => simp [fitsN] at h; omega
  | cons s r =>
    cases m with
    | zero => omega
    | succ m =>
      rw [List.take_succ_cons, fits_iff]
      intro j hj
      obtain ⟨t, h1, h2⟩ := (fits_iff r s n).1 h j (by omega)
      refine ⟨t, ?_, h2⟩
      rw [← List.take_succ_cons, List.getElem?_take, if_pos (by omega)]; exact h1
theorem fits_append {k : Int} {l r : List Sym} {n : Nat} (h : n ≤ fitsN k l) : n ≤ fitsN k (l ++ r) := by
  cases l with
  | nil => simp [fitsN] at h; omega
  | cons s l =>
    rw [List.cons_append, fits_iff]
    intro j hj
    obtain ⟨t, h1, h2⟩ := (fits_iff l s n).1 h j hj
    refine ⟨t, ?_, h2⟩
    rw [← List.cons_append, List.getElem?_append_left (List.getElem?_eq_some_iff.1 h1).1]; exact h1

/-! ### Lists of operations by their cost -/
inductive Seg : List Sym → Int → Prop where
  | nil : Seg [] 0
  | cons {k : Int} {l : List Sym} {n : Nat} {c : Int} : 1 ≤ k → k ≤ 4 → 1 ≤ n → n ≤ fitsN k l → Seg (l.drop n) c → Seg l (opc k n + c)
theorem seg_low {l : List Sym} {c : Int} (h : Seg l c) : Gd l → (bestP l).cost ≤ c := by
  induction h with
  | nil => intro _; simp [bestP, topP, tab, Pl.zero]
  | @cons k l n c h0 h1 h2 h3 _ ih =>
    intro hg
    have hl : l ≠ [] := by intro e; subst e; simp [fitsN] at h3; omega
    have h4 := (hg.core hl).low k n h0 h1 h2 h3
    have h5 := ih (hg.drop n)
    have e : (topP l).best = bestP l := rfl
    rw [e] at h4
    simp only [Pr.le, cand, Pr.plus] at h4; omega
theorem seg_best (l : List Sym) (hg : Gd l) : Seg l (bestP l).cost := by
  by_cases hl : l = []
  · subst hl; exact Seg.nil
  · have hc := hg.core hl
    have h0 := hc.n0
    have h1 := hc.n1
    have hle := fitsN_le (topP l).kind l
    have e : (bestP l).cost = opc (topP l).kind ((topP l).length.toNat : Nat) + (bestP (l.drop (topP l).length.toNat)).cost := by
      have h2 : bestP l = cand (topP l).kind l (topP l).length.toNat := hc.att
      conv => lhs; rw [h2]
      simp only [cand, Pr.plus]; omega
    rw [e]
    exact Seg.cons hc.k0 hc.k1 (by omega) (by omega) (seg_best _ (hg.drop _))
termination_by l.length
decreasing_by
  have : 0 < l.length := List.length_pos_iff.2 hl
  simp only [List.length_drop]; omega
theorem seg_append {a b : List Sym} {c d : Int} (h : Seg a c) (k : Seg b d) : Seg (a ++ b) (c + d) := by
  induction h with
  | nil => simpa using k
  | @cons k' l n c h0 h1 h2 h3 _ ih =>
    rw [Int.add_assoc]
    refine Seg.cons h0 h1 h2 (fits_append h3) ?_
    have := fitsN_le k' l
    rw [List.drop_append_of_le_length (by omega)]; exact ih
theorem seg_nonneg {l : List Sym} {c : Int} (h : Seg l c) : 0 ≤ c := by
  induction h with
  | nil => simp
  | @cons k l n c _ _ _ _ _ ih => have := opc_pos (k := k) (n := (n : Int)) (by omega); omega
theorem seg_take {l : List Sym} {c : Int} (h : Seg l c) : ∀ m : Nat, ∃ c', c' ≤ c ∧ Seg (l.take m) c' := by
  induction h with
  | nil => intro m; exact ⟨0, Int.le_refl _, by simpa using Seg.nil⟩
  | @cons k l n c h0 h1 h2 h3 h4 ih =>
    intro m
    have hle := fitsN_le k l
    have hp := opc_pos (k := k) (n := (n : Int)) (by omega)
    by_cases hm : m = 0
    · subst hm
      obtain ⟨c', h5, _⟩ := ih 0
      refine ⟨0, ?_, by simpa using Seg.nil⟩
      have := seg_nonneg h4
      omega
    · obtain ⟨c', h5, h6⟩ := ih (m - n)
      have h7 := fits_take (m := m) h3
      have h8 := opc_mono (k := k) (n := ((min n m : Nat) : Int)) (m := (n : Int)) (by omega)
      refine ⟨opc k ((min n m : Nat) : Int) + c', by omega, Seg.cons h0 h1 (by omega) h7 ?_⟩
      rw [List.drop_take]
      by_cases hnm : n ≤ m
      · rw [Nat.min_eq_left hnm]; exact h6
      · rw [show m - min n m = 0 by omega]
        rw [show m - n = 0 by omega] at h6
        simpa using h6

/-! ### The list that is made -/
def okL (n : Int) (l : List Sym) : Prop := ∀ s ∈ l, strange n s = false
theorem okL.at0 {n : Int} {l : List Sym} (h : okL n l) : ∀ t ∈ l, t.old = false → t.at_ = 0 := fun t ht ho => by
  have := h t ht
  simpa [strange, ho] using this
theorem okL.in {n : Int} {l : List Sym} (h : okL n l) : ∀ t ∈ l, t.old = true → 0 ≤ t.at_ ∧ t.at_ < n := fun t ht ho => by
  have := h t ht
  simpa [strange, ho] using this
theorem okL.drop {n : Int} {l : List Sym} (h : okL n l) (k : Nat) : okL n (l.drop k) := fun s hs => h s (List.mem_of_mem_drop hs)
theorem okL.take {n : Int} {l : List Sym} (h : okL n l) (k : Nat) : okL n (l.take k) := fun s hs => h s (List.mem_of_mem_take hs)
theorem okL.gd {n : Int} {l : List Sym} (h : okL n l) : Gd l := tab_gd l h.at0

theorem opS_right {k n : Int} {l : List Sym} {m : Nat} (hk0 : 1 ≤ k) (hk1 : k ≤ 4) (h0 : 1 ≤ m) (h : m ≤ fitsN k l) (ok : okL n l) :
    (opS k (l.take m)).len = m ∧ rightP (opS k (l.take m)) n = true ∧ symsOp (opS k (l.take m)) = l.take m := by
  have hle := fitsN_le k l
  have hlen : (l.take m).length = m := by rw [List.length_take]; omega
  cases l with
  | nil => simp at hle; omega
  | cons s r =>
    have hf := (fits_iff r s m).1 h
    have hhd : ((s :: r).take m).headD ⟨false, 0, 0⟩ = s := by
      cases m with
      | zero => omega
      | succ m => rfl
    have hkk : (opS k ((s :: r).take m)).kind = k := rfl
    have hfr : (opS k ((s :: r).take m)).from_ = if k = 1 ∨ k = 2 then s.at_ else 0 := by
      show (if k = 1 ∨ k = 2 then (((s :: r).take m).headD ⟨false, 0, 0⟩).at_ else 0) = _
      rw [hhd]
    have hbb : (opS k ((s :: r).take m)).b = if k = 3 then s.b else 0 := by
      show (if k = 3 then (((s :: r).take m).headD ⟨false, 0, 0⟩).b else 0) = _
      rw [hhd]
    have hda : (opS k ((s :: r).take m)).data = if k = 2 ∨ k = 4 then ((s :: r).take m).map (·.b) else [] := rfl
    have hdl : (((s :: r).take m).map (·.b)).length = m := by rw [List.length_map, hlen]
    have hl : (opS k ((s :: r).take m)).len = m := by show (((s :: r).take m).length : Int) = m; rw [hlen]
    refine ⟨hl, ?_, ?_⟩
    · unfold rightP
      rw [hkk, hl]
      by_cases h1 : k = 1
      · subst h1
        obtain ⟨t, a1, a2⟩ := hf (m - 1) (by omega)
        have hin := ok.in t (List.mem_of_getElem? a1)
        have hs0 := ok.in s (by simp)
        simp [relK] at a2
        have e1 := hin a2.2.1
        have e2 := hs0 a2.1
        unfold insideP
        rw [hl, hfr, hbb, hda]
        simp; omega
      · by_cases h2 : k = 2
        · subst h2
          obtain ⟨t, a1, a2⟩ := hf (m - 1) (by omega)
          have hin := ok.in t (List.mem_of_getElem? a1)
          have hs0 := ok.in s (by simp)
          simp [relK] at a2
          have e1 := hin a2.2.1
          have e2 := hs0 a2.1
          unfold insideP
          rw [hl, hfr, hbb, hda]
          simp only [or_true, true_or, if_true, hdl]
          simp; omega
        · by_cases h3 : k = 3
          · subst h3; rw [hfr, hda]; simp
          · obtain rfl : k = 4 := by omega
            rw [hfr, hbb, hda]
            simp only [or_true, if_true, hdl]
            simp
    · apply List.ext_getElem?
      intro j
      unfold symsOp
      rw [hl]
      by_cases hj : j < m
      · obtain ⟨t, a1, a2⟩ := hf j hj
        have hin := ok.at0 t (List.mem_of_getElem? a1)
        have hg : ((s :: r).take m)[j]? = some t := by rw [List.getElem?_take, if_pos hj]; exact a1
        have hd : (((s :: r).take m).map (·.b)).getD j 0 = t.b := by rw [List.getD_eq_getElem?_getD, List.getElem?_map, hg]; rfl
        rw [hg, List.getElem?_map, List.getElem?_range (by omega)]
        simp only [Option.map_some, Option.some.injEq]
        unfold symS
        rw [hkk]
        obtain ⟨to, ta, tb⟩ := t
        by_cases h1 : k = 1
        · subst h1; simp [relK] at a2; rw [hfr]; simp [a2]
        · by_cases h2 : k = 2
          · subst h2; simp [relK] at a2
            simp only [show ¬ ((2 : Int) = 1) by decide, if_false, if_true]
            rw [hfr, hda]
            simp only [Int.toNat_natCast, or_true, if_true, true_or]
            rw [hd]; simp [a2]
          · by_cases h3 : k = 3
            · subst h3; simp [relK] at a2; have := hin a2.2.1; rw [hbb]; simp [a2]; exact this.symm
            · obtain rfl : k = 4 := by omega
              simp [relK] at a2
              simp only [show ¬ ((4 : Int) = 1) by decide, show ¬ ((4 : Int) = 2) by decide, show ¬ ((4 : Int) = 3) by decide, if_false, if_true]
              rw [hda]
              simp only [Int.toNat_natCast, or_true, if_true]
              rw [hd]; have := hin a2; simp [a2]; exact this.symm
      · rw [List.getElem?_eq_none (by simp; omega), List.getElem?_eq_none (by omega)]

def sumC : List OpL → Int
  | [] => 0
  | x :: l => opc x.kind x.len + sumC l
def OpsOk (n : Int) (ops : List OpL) : Prop := ∀ x ∈ ops, 1 ≤ x.len ∧ rightP x n = true
theorem right_kind {x : OpL} {n : Int} (h : rightP x n = true) : 1 ≤ x.kind ∧ x.kind ≤ 4 := by
  unfold rightP at h
  split at h
  · omega
  · split at h
    · omega
    · split at h
      · omega
      · split at h
        · omega
        · cases h
theorem opsT_spec {n : Int} {l : List Sym} (ok : okL n l) : ∀ (f i : Nat), i ≤ l.length → l.length - i < f →
    symsOf (opsT (tab l) l f i) = l.drop i ∧ OpsOk n (opsT (tab l) l f i) ∧ sumC (opsT (tab l) l f i) = (bestP (l.drop i)).cost ∧ ((opsT (tab l) l f i).length : Int) = (bestP (l.drop i)).ops
  | 0, i, h0, h1 => by omega
  | f + 1, i, h0, h1 => by
    by_cases hi : i < l.length
    · have ht : (tab l)[i]? = some (topP (l.drop i)) := by
        have h2 := tab_getD l i h0
        have h3 : i < (tab l).length := by rw [tab_length]; omega
        rw [List.getD_eq_getElem?_getD, List.getElem?_eq_getElem h3] at h2
        rw [List.getElem?_eq_getElem h3, ← h2]; rfl
      have hne : l.drop i ≠ [] := by rw [Ne, List.drop_eq_nil_iff]; omega
      have hc := (ok.gd.drop i).core hne
      have n0 := hc.n0
      have n1 := hc.n1
      have hle := fitsN_le (topP (l.drop i)).kind (l.drop i)
      rw [List.length_drop] at hle
      rw [opsT_step hi ht]
      generalize hp : topP (l.drop i) = p at *
      obtain ⟨q, hq⟩ : ∃ q : Nat, p.length = q := ⟨p.length.toNat, by omega⟩
      rw [hq] at n0 n1 ⊢
      simp only [Int.toNat_natCast]
      have hseg : (l.take (i + q)).drop i = (l.drop i).take q := by rw [List.drop_take]; congr 1; omega
      rw [hseg]
      obtain ⟨r1, r2, r3⟩ := opS_right (n := n) hc.k0 hc.k1 (m := q) (by omega) (by omega) (ok.drop i)
      obtain ⟨s1, s2, s3, s4⟩ := opsT_spec ok f (i + q) (by omega) (by omega)
      have hat : bestP (l.drop i) = (bestP (l.drop (i + q))).plus (opc p.kind q) 1 := by
        have := hc.att
        rw [hq] at this
        unfold bestP
        rw [hp, this]
        unfold cand
        rw [List.drop_drop]
        rfl
      refine ⟨?_, ?_, ?_, ?_⟩
      · rw [symsOf_cons, r3, s1, ← List.drop_drop, List.take_append_drop]
      · intro x hx
        rcases List.mem_cons.1 hx with rfl | hx
        · exact ⟨by omega, r2⟩
        · exact s2 x hx
      · rw [hat]
        simp only [sumC, s3, r1, Pr.plus]
        show opc p.kind _ + _ = _
        omega
      · rw [hat]
        simp only [List.length_cons, Pr.plus]; omega
    · rw [opsT_end hi, List.drop_of_length_le (by omega)]
      exact ⟨rfl, fun x hx => by simp at hx, rfl, rfl⟩
def optL (l : List Sym) : List OpL := opsT (tab l) l (l.length + 1) 0
theorem optL_spec {n : Int} {l : List Sym} (ok : okL n l) : symsOf (optL l) = l ∧ OpsOk n (optL l) ∧ sumC (optL l) = (bestP l).cost ∧ ((optL l).length : Int) = (bestP l).ops := by
  have := opsT_spec ok (l.length + 1) 0 (by omega) (by omega)
  simpa [optL] using this
theorem ops_len_le {n : Int} : ∀ (ops : List OpL), OpsOk n ops → ops.length ≤ (symsOf ops).length
  | [], _ => by simp
  | x :: l, h => by
    have h1 := ops_len_le l fun y hy => h y (by simp [hy])
    have h2 := (h x (by simp)).1
    rw [symsOf_cons, List.length_append, symsOp_length, List.length_cons]; omega
theorem best_ops_le {n : Int} {l : List Sym} (ok : okL n l) : (bestP l).ops ≤ l.length := by
  obtain ⟨h1, h2, _, h4⟩ := optL_spec ok
  have := ops_len_le _ h2
  rw [h1] at this; omega

/-! ### Any right list of operations -/
theorem op_ok {n : Int} {x : OpL} (h1 : 1 ≤ x.len) (h2 : rightP x n = true) : okL n (symsOp x) ∧ (x.len.toNat : Int) = x.len ∧ ∀ r, x.len.toNat ≤ fitsN x.kind (symsOp x ++ r) := by
  have hlen := symsOp_length x
  have hget : ∀ j, j < x.len.toNat → (symsOp x)[j]? = some (symS x (j : Int)) := fun j hj => by
    unfold symsOp; rw [List.getElem?_map, List.getElem?_range hj]; rfl
  refine ⟨?_, by omega, fun r => ?_⟩
  · intro s hs
    obtain ⟨j, hj, rfl⟩ := List.getElem_of_mem hs
    rw [hlen] at hj
    have e := hget j hj
    have e' : (symsOp x)[j]'(by omega) = symS x (j : Int) := by
      have := List.getElem?_eq_getElem (l := symsOp x) (i := j) (by omega)
      rw [e] at this; exact (Option.some.inj this).symm
    rw [e']
    unfold rightP insideP at h2
    unfold symS
    split at h2
    · rename_i hk; rw [if_pos hk]; simp only [Bool.and_eq_true, decide_eq_true_eq] at h2; simp [strange]; omega
    · rename_i hk; rw [if_neg hk]
      split at h2
      · rename_i hk; rw [if_pos hk]; simp only [Bool.and_eq_true, decide_eq_true_eq] at h2; simp [strange]; omega
      · rename_i hk; rw [if_neg hk]
        split at h2
        · rename_i hk; rw [if_pos hk]; simp [strange]
        · rename_i hk; rw [if_neg hk]
          split <;> simp [strange]
  · cases hc : symsOp x ++ r with
    | nil => have := congrArg List.length hc; rw [List.length_append, hlen] at this; simp at this; omega
    | cons s q =>
      have hs : s = symS x 0 := by
        have h0 := hget 0 (by omega)
        have := congrArg (·[0]?) hc
        simp only [List.getElem?_cons_zero] at this
        rw [List.getElem?_append_left (by omega), h0] at this
        exact (Option.some.inj this).symm
      rw [fits_iff, ← hc]
      intro j hj
      refine ⟨symS x (j : Int), by rw [List.getElem?_append_left (by omega)]; exact hget j hj, ?_⟩
      rw [hs]
      unfold rightP at h2
      unfold relK symS
      split at h2
      · rename_i hk; simp [hk]
      · rename_i hk
        split at h2
        · rename_i hk; simp [hk]
        · rename_i hk
          split at h2
          · rename_i hk; simp [hk]
          · rename_i hk
            split at h2
            · rename_i hk; simp [hk]
            · cases h2
theorem ops_ok {n : Int} : ∀ (ops : List OpL), OpsOk n ops → okL n (symsOf ops) ∧ Seg (symsOf ops) (sumC ops)
  | [], _ => ⟨fun s hs => by simp [symsOf] at hs, Seg.nil⟩
  | x :: l, h => by
    obtain ⟨h1, h2⟩ := ops_ok l fun y hy => h y (by simp [hy])
    have hx := h x (by simp)
    obtain ⟨h3, h4, h5⟩ := op_ok hx.1 hx.2
    have hk := right_kind hx.2
    rw [symsOf_cons]
    refine ⟨fun s hs => (List.mem_append.1 hs).elim (h3 s) (h1 s), ?_⟩
    unfold sumC
    rw [← h4]
    refine Seg.cons hk.1 hk.2 (by omega) (h5 _) ?_
    rw [List.drop_append_of_le_length (by rw [symsOp_length]; exact Nat.le_refl _), List.drop_of_length_le (by rw [symsOp_length]; exact Nat.le_refl _)]
    exact h2
/-- The cheapest list costs at most as much as any right list with the same symbols. -/
theorem best_le {n : Int} {ops : List OpL} (h : OpsOk n ops) : (bestP (symsOf ops)).cost ≤ sumC ops := by
  obtain ⟨h1, h2⟩ := ops_ok ops h
  exact seg_low h2 h1.gd
theorem best_join {n : Int} {a b : List Sym} (h : okL n (a ++ b)) : (bestP (a ++ b)).cost ≤ (bestP a).cost + (bestP b).cost ∧ (bestP a).cost ≤ (bestP (a ++ b)).cost ∧ (bestP b).cost ≤ (bestP (a ++ b)).cost := by
  have ha : okL n a := fun s hs => h s (by simp [hs])
  have hb : okL n b := fun s hs => h s (by simp [hs])
  refine ⟨seg_low (seg_append (seg_best a ha.gd) (seg_best b hb.gd)) h.gd, ?_, ?_⟩
  · obtain ⟨c, h1, h2⟩ := seg_take (seg_best _ h.gd) a.length
    rw [List.take_left] at h2
    have := seg_low h2 ha.gd
    omega
  · have := h.gd.mono 0 a.length
    simp only [Nat.zero_add, List.drop_zero, List.drop_left] at this
    simp only [Pr.le] at this; omega

/-! ### Patches -/
theorem checkGo_right {n : Int} : ∀ (l : List OpL) (left i : Int), OpsOk n l → ((symsOf l).length : Int) = left → (checkGo n l left i).2 = 0
  | [], left, i, _, h => by
    simp [symsOf] at h
    unfold checkGo; rw [if_neg (by omega)]
  | x :: l, left, i, hr, h => by
    obtain ⟨h1, h2⟩ := hr x (by simp)
    rw [symsOf_cons, List.length_append, symsOp_length] at h
    rw [checkGo_good (by simp [h2]; omega)]
    exact checkGo_right l _ _ (fun y hy => hr y (by simp [hy])) (by omega)
theorem checkP_right {p : PatL} (h0 : 0 ≤ p.in_ ∧ p.in_ ≤ 65536) (h1 : OpsOk p.in_ p.ops) (h2 : ((symsOf p.ops).length : Int) = p.out) (h3 : p.out ≤ 65536) (h4 : p.ops.length ≤ 4096) : (checkP p).2 = 0 := by
  unfold checkP
  have hb : badP p = false := by
    unfold badP
    simp only [Bool.or_eq_false_iff, decide_eq_false_iff_not]
    refine ⟨⟨?_, ?_⟩, ?_⟩
    · split <;> omega
    · split <;> omega
    · omega
  rw [hb]
  simp only [Bool.false_eq_true, if_false]
  exact checkGo_right _ _ _ h1 h2
theorem checkP_opsOk {p : PatL} (h : (checkP p).2 = 0) : OpsOk p.in_ p.ops := (checkP_ok h).1
theorem symbolsP_ok {p : PatL} (h : (checkP p).2 = 0) : symbolsP p = (symsOf p.ops, 0) := by
  unfold symbolsP; rw [if_pos h]
def formOf (b : Bool) (n : Int) (l : List Sym) : PatL := ⟨b, n, l.length, optL l⟩
theorem cheapP_ok {l : List Sym} {n : Int} (h0 : 0 ≤ n ∧ n ≤ 65536) (hl : l.length ≤ 4096) (ok : okL n l) : cheapP l n = (formOf false n l, 0) := by
  unfold cheapP
  have h1 := best_ops_le ok
  have h2 : l.any (strange n) = false := by
    rw [List.any_eq_false]; intro s hs; rw [ok s hs]; simp
  rw [if_neg (by simp [h2]; omega), if_neg (by show ¬ 4096 < (bestP l).ops; omega)]
  rfl
theorem formOf_check {b : Bool} {l : List Sym} {n : Int} (h0 : 0 ≤ n ∧ n ≤ 65536) (hl : l.length ≤ 4096) (ok : okL n l) : (checkP (formOf b n l)).2 = 0 := by
  obtain ⟨h1, h2, h3, h4⟩ := optL_spec ok
  have h5 := best_ops_le ok
  exact checkP_right (p := formOf b n l) h0 h2 (by show ((symsOf (optL l)).length : Int) = _; rw [h1]; rfl) (by show (l.length : Int) ≤ _; omega) (by show (optL l).length ≤ _; omega)
theorem formOf_symbols {b : Bool} {l : List Sym} {n : Int} (h0 : 0 ≤ n ∧ n ≤ 65536) (hl : l.length ≤ 4096) (ok : okL n l) : symbolsP (formOf b n l) = (l, 0) := by
  rw [symbolsP_ok (formOf_check h0 hl ok)]
  show (symsOf (optL l), (0 : Int)) = _
  rw [(optL_spec ok).1]
theorem formP_ok {p : PatL} (h : (checkP p).2 = 0) (hl : p.out ≤ 4096) : formP p = (formOf p.lifted p.in_ (symsOf p.ops), 0) := by
  obtain ⟨h1, h2, h3, h4, h5, h6, h7⟩ := checkP_ok h
  unfold formP
  rw [symbolsP_ok h]
  simp only [if_true]
  rw [cheapP_ok ⟨h3, h4⟩ (by omega) (ops_ok _ h1).1]
  rfl
theorem formP_form {b : Bool} {l : List Sym} {n : Int} (h0 : 0 ≤ n ∧ n ≤ 65536) (hl : l.length ≤ 4096) (ok : okL n l) : formP (formOf b n l) = (formOf b n l, 0) := by
  unfold formP
  rw [formOf_symbols h0 hl ok]
  simp only [if_true]
  have e : cheapP l (formOf b n l).in_ = (formOf false n l, 0) := cheapP_ok h0 hl ok
  simp only [e]
  rfl

/-! ### Equal -/
theorem symEq_iff {a b : Sym} : symEq a b = true ↔ a = b := by
  obtain ⟨a1, a2, a3⟩ := a; obtain ⟨b1, b2, b3⟩ := b
  simp [symEq]
theorem symsEq_iff {a b : List Sym} : symsEq a b = true ↔ a = b := by
  constructor
  · intro h
    unfold symsEq at h
    simp only [Bool.and_eq_true, decide_eq_true_eq, List.all_eq_true] at h
    apply List.ext_getElem h.1
    intro i h1 h2
    exact symEq_iff.1 (h.2 (a[i], b[i]) (List.mem_iff_getElem?.2 ⟨i, by rw [List.getElem?_zip_eq_some]; exact ⟨List.getElem?_eq_getElem h1, List.getElem?_eq_getElem h2⟩⟩))
  · rintro rfl
    unfold symsEq
    simp only [decide_true, Bool.true_and, List.all_eq_true]
    intro p hp
    obtain ⟨i, hi⟩ := List.mem_iff_getElem?.1 hp
    rw [List.getElem?_zip_eq_some] at hi
    have := hi.1.symm.trans hi.2
    exact symEq_iff.2 (Option.some.inj this)
theorem sameOpS_iff {a b : OpL} : sameOpS a b = true ↔ a = b := by
  obtain ⟨a1, a2, a3, a4, a5⟩ := a; obtain ⟨b1, b2, b3, b4, b5⟩ := b
  simp [sameOpS, and_assoc]
theorem sameP_iff {p q : PatL} (hp : (checkP p).2 = 0) (hq : (checkP q).2 = 0) : sameP p q = (p.lifted == q.lifted && decide (p.in_ = q.in_) && symsEq (symsOf p.ops) (symsOf q.ops)) := by
  unfold sameP
  rw [symbolsP_ok hp, symbolsP_ok hq]
  simp
theorem opc_costP {x : OpL} {n : Int} (h : rightP x n = true) : costP x = opc x.kind x.len := by
  have hk := right_kind h
  unfold costP opc
  by_cases h1 : x.kind = 1
  · simp [h1]
  · by_cases h2 : x.kind = 2
    · simp [h2]
    · by_cases h3 : x.kind = 3
      · simp [h3]
      · have h4 : x.kind = 4 := by omega
        simp [h4]
end Go.Inl
