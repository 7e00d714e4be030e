/- inlayref02.In, inlayref08.fits, price: what they compute. Conditions: numbers within bounds. -/
import Derived.Test.YtaklmbhfmpdinaaKCut
import Derived.Test.YtaklmbhfmpdinaaKOpt
namespace Go.Proofs.Ytaklmbhfmpdinaa
open Go Go.RowKit Go.Inl
set_option linter.unusedSimpArgs false
set_option linter.unusedVariables false
theorem fits_stop {k : Int} {l : List Sym} {s t : Sym} {n : Nat} (h0 : l[0]? = some s) (ht : l[n]? = some t) (hn : n ≤ fitsN k l) (h : ¬ relK k s n t) : fitsN k l = n := by
  cases l with
  | nil => simp at h0
  | cons s' l =>
    simp at h0; subst h0
    rcases Nat.lt_or_ge n (fitsN k (s' :: l)) with h1 | h1
    · obtain ⟨u, h2, h3⟩ := (fits_iff l s' (n + 1)).1 h1 n (by omega)
      rw [ht] at h2; cases h2; exact absurd h3 h
    · omega
theorem fits_go {k : Int} {l : List Sym} {s t : Sym} {n : Nat} (h0 : l[0]? = some s) (ht : l[n]? = some t) (hn : n ≤ fitsN k l) (h : relK k s n t) : n + 1 ≤ fitsN k l := by
  cases l with
  | nil => simp at h0
  | cons s' l =>
    simp at h0; subst h0
    rw [fits_iff] at hn ⊢
    intro j hj
    by_cases e : j = n
    · subst e; exact ⟨t, ht, h⟩
    · exact hn j (by omega)
def oldB (s t : Sym) (n : Nat) : Bool := s.old && t.old && decide (t.at_ = s.at_ + n)
theorem rel1 {k : Int} {s t : Sym} {n : Nat} (hk : k = 1) : relK k s n t ↔ oldB s t n = true ∧ t.b = 0 := by
  subst hk; simp [relK, oldB, and_assoc]
theorem rel2 {k : Int} {s t : Sym} {n : Nat} (hk : k = 2) : relK k s n t ↔ oldB s t n = true := by
  subst hk; simp [relK, oldB, and_assoc]
theorem rel3 {k : Int} {s t : Sym} {n : Nat} (hk : k = 3) : relK k s n t ↔ s.old = false ∧ t.old = false ∧ t.b = s.b := by
  subst hk; simp [relK]
theorem rel4 {k : Int} {s t : Sym} {n : Nat} (hk : k = 4) : relK k s n t ↔ t.old = false := by
  subst hk; simp [relK]
theorem bt1 {a o b : Bool} (h : (a && (!o || !b)) = true) : a = true ∧ ¬ (o = true ∧ b = true) := by cases a <;> cases o <;> cases b <;> simp_all
theorem bf1 {a o b : Bool} (h : (a && (!o || !b)) = false) : a = true → o = true ∧ b = true := by cases a <;> cases o <;> cases b <;> simp_all
theorem bt2 {a o : Bool} (h : (a && !o) = true) : a = true ∧ ¬ o = true := by cases a <;> cases o <;> simp_all
theorem bf2 {a o : Bool} (h : (a && !o) = false) : a = true → o = true := by cases a <;> cases o <;> simp_all
theorem bt3 {a o p b : Bool} (h : (a && (o || p || !b)) = true) : a = true ∧ ¬ (o = false ∧ p = false ∧ b = true) := by cases a <;> cases o <;> cases p <;> cases b <;> simp_all
theorem bf3 {a o p b : Bool} (h : (a && (o || p || !b)) = false) : a = true → o = false ∧ p = false ∧ b = true := by cases a <;> cases o <;> cases p <;> cases b <;> simp_all
theorem bt4 {a o : Bool} (h : (a && o) = true) : a = true ∧ ¬ o = false := by cases a <;> cases o <;> simp_all
theorem bf4 {a o : Bool} (h : (a && o) = false) : a = true → o = false := by cases a <;> cases o <;> simp_all

end Go.Proofs.Ytaklmbhfmpdinaa

