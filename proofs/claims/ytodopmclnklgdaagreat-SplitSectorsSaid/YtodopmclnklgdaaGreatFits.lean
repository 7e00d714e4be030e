/- inlayref02.In, inlayref08.fits, price: what they compute. Conditions: numbers within bounds. -/
import Derived.Test.YtodopmclnklgdaaGreatKCut
import Derived.Test.YtodopmclnklgdaaGreatKOpt
namespace Go.Proofs.YtodopmclnklgdaaGreat
open Go Go.RowKit Go.Inl
set_option linter.unusedSimpArgs false
set_option linter.unusedVariables false
theorem fits_stop {k : Int} {l : List Sym} {s t : Sym} {n : Nat} (h0 : l[0]? = some s) (ht : l[n]? = some t) (hn : n ≤ fitsN k l) (h : ¬ relK k s n t) : fitsN k l = n := by
  cases l with
  | nil => simp at h0
  | cons s' l =>
    simp at h0; subst h0
    rcases Nat.lt_or_ge n (fitsN k (s' :: l)) with h1 | h1
    · obtain ⟨u, h2, h3⟩ := (fits_iff l s' (n + 1)).1 h1 n (by omega)
      rw [ht] at h2; cases h2; exact absurd h3 h
    · omega
theorem fits_go {k : Int} {l : List Sym} {s t : Sym} {n : Nat} (h0 : l[0]? = some s) (ht : l[n]? = some t) (hn : n ≤ fitsN k l) (h : relK k s n t) : n + 1 ≤ fitsN k l := by
  cases l with
  | nil => simp at h0
  | cons s' l =>
    simp at h0; subst h0
    rw [fits_iff] at hn ⊢
    intro j hj
    by_cases e : j = n
    · subst e; exact ⟨t, ht, h⟩
    · exact hn j (by omega)
def oldB (s t : Sym) (n : Nat) : Bool := s.old && t.old && decide (t.at_ = s.at_ + n)
theorem rel1 {k : Int} {s t : Sym} {n : Nat} (hk : k = 1) : relK k s n t ↔ oldB s t n = true ∧ t.b = 0 := by
  subst hk; simp [relK, oldB, and_assoc]
theorem rel2 {k : Int} {s t : Sym} {n : Nat} (hk : k = 2) : relK k s n t ↔ oldB s t n = true := by
  subst hk; simp [relK, oldB, and_assoc]
theorem rel3 {k : Int} {s t : Sym} {n : Nat} (hk : k = 3) : relK k s n t ↔ s.old = false ∧ t.old = false ∧ t.b = s.b := by
  subst hk; simp [relK]
theorem rel4 {k : Int} {s t : Sym} {n : Nat} (hk : k = 4) : relK k s n t ↔ t.old = false := by
  subst hk; simp [relK]
theorem bt1 {a o b : Bool} (h : (a && (!o || !b)) = true) : a = true ∧ ¬ (o = true ∧ b = true) := by cases a <;> cases o <;> cases b <;> simp_all
theorem bf1 {a o b : Bool} (h : (a && (!o || !b)) = false) : a = true → o = true ∧ b = true := by cases a <;> cases o <;> cases b <;> simp_all
theorem bt2 {a o : Bool} (h : (a && !o) = true) : a = true ∧ ¬ o = true := by cases a <;> cases o <;> simp_all
theorem bf2 {a o : Bool} (h : (a && !o) = false) : a = true → o = true := by cases a <;> cases o <;> simp_all
theorem bt3 {a o p b : Bool} (h : (a && (o || p || !b)) = true) : a = true ∧ ¬ (o = false ∧ p = false ∧ b = true) := by cases a <;> cases o <;> cases p <;> cases b <;> simp_all
theorem bf3 {a o p b : Bool} (h : (a && (o || p || !b)) = false) : a = true → o = false ∧ p = false ∧ b = true := by cases a <;> cases o <;> cases p <;> cases b <;> simp_all
theorem bt4 {a o : Bool} (h : (a && o) = true) : a = true ∧ ¬ o = false := by cases a <;> cases o <;> simp_all
theorem bf4 {a o : Bool} (h : (a && o) = false) : a = true → o = false := by cases a <;> cases o <;> simp_all

theorem refIn_c (n lo hi : Int) (w0 : World) (I0 : Imm) (hI : Sat I0 w0) : Ctr Tryz.prog 70 [.int .i64 n, .int .i64 lo, .int .i64 hi] w0 (fun v w' => v = .bool (inS n lo hi) ∧ Ext w0 I0 w' I0) := by
  refine fn (n := 15) Tryz.func70 rfl rfl rfl ?_
  have hS := St.start hI
  refine wpIn_seq ?_
  refine reg ?_
  refine qq hS (g_assignv (v := .bool _) rfl) ?_
  refine ol_nil (thenN ?_)
  refine wpIn_seq ?_
  refine reg ?_
  refine qq hS (g_movev (v := .int .i64 _) rfl) ?_
  refine qq hS (g_movev (v := .int .i64 _) rfl) ?_
  refine qq hS (g_geq rfl rfl) ?_
  refine qq hS (g_movev (v := .bool _) rfl) ?_
  refine qu rfl rfl hS (fun hg => (g_movev (v := .int .i64 _) rfl)) ?_
  intro u11 hu11 hn11
  refine qu rfl rfl hS (fun hg => (g_movev (v := .int .i64 _) rfl)) ?_
  intro u12 hu12 hn12
  refine qu rfl rfl hS (fun hg => (g_leq (hu11 hg) (hu12 hg))) ?_
  intro u13 hu13 hn13
  refine qq hS (g_and rfl rfl (fun hq => hu13 hq)) ?_
  refine qq hS (g_assignv (v := .bool _) rfl) ?_
  refine ol_nil (thenN ?_)
  refine wpIn_ret ?_
  refine ret1 Tryz.results70 (rv_tmp (v := .bool _) rfl) ?_
  exact ⟨rfl, hS.nil⟩

end Go.Proofs.YtodopmclnklgdaaGreat

