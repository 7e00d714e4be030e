/- inlayref11.Sized and Made: they give even patches. inlayref05.SameRanges. Conditions: numbers within bounds. -/
import Derived.Test.YtlhehhhpaebpoaaGreatRef11b
import Derived.Test.YtlhehhhpaebpoaaGreatLeastL
import Derived.Test.YtlhehhhpaebpoaaGreatKComp
namespace Go.Proofs.YtlhehhhpaebpoaaGreat
open Go Go.RowKit Go.Inl
set_option linter.unusedSimpArgs false
set_option linter.unusedVariables false
theorem g_quou {P : Program} {n : Nat} {σ : Nat → Value} {S : World → Prop} {t t' ty : TypeId} {x y : Operand} {k : IntKind} {a b : Int} (hx : ev n σ x = .int k a) (hy : ev n σ y = .int k b) (ha : 0 ≤ a) (hb : 0 < b) (hk : k.wrap (a / b) = a / b) : Gives P (ev n σ) S (.binOp .quo t x y t') ty (.int k (a / b)) :=
  fun _ _ => int_run hx hy (by simp [binOp, Op.intDiv, show b ≠ 0 by omega, Int.tdiv_eq_ediv_of_nonneg ha, hk])
/-- An even patch for n bytes. -/
structure Good11 (p : PatL) (n : Int) : Prop where
  wf : p.wf
  ck : (checkP p).2 = 0
  lif : p.lifted = false
  in_ : p.in_ = n
  out : p.out = n
structure SzOk (n : Int) (N : Nat) (S : List Sym) : Prop where
  len : S.length = N
  ok : okL n S
  wf : ∀ s ∈ S, s.wf
theorem SzOk.set {n : Int} {N : Nat} {S : List Sym} (h : SzOk n N S) (j : Nat) {s : Sym} (h1 : strange n s = false) (h2 : s.wf) : SzOk n N (S.set j s) := by
  refine ⟨by rw [List.length_set, h.len], fun t ht => ?_, fun t ht => ?_⟩
  · rcases List.mem_or_eq_of_mem_set ht with ht | rfl
    · exact h.ok t ht
    · exact h1
  · rcases List.mem_or_eq_of_mem_set ht with ht | rfl
    · exact h.wf t ht
    · exact h2
theorem okNew {n b : Int} (hb : 0 ≤ b ∧ b ≤ 255) : strange n ⟨false, 0, b⟩ = false ∧ Sym.wf ⟨false, 0, b⟩ := by
  refine ⟨by simp [strange], ?_⟩
  simp only [Sym.wf]; omega
theorem okOld {n a b : Int} (ha : 0 ≤ a) (hn : a < n) (hn2 : n ≤ 65536) (hb : 0 ≤ b ∧ b ≤ 255) : strange n ⟨true, a, b⟩ = false ∧ Sym.wf ⟨true, a, b⟩ := by
  refine ⟨by simp [strange]; omega, ?_⟩
  simp only [Sym.wf]; omega
theorem whole_sz {n : Int} (h : 0 ≤ n ∧ n ≤ 4096) : SzOk n n.toNat (symsP (wholeP n)) := by
  have h6 : 0 ≤ n ∧ n ≤ 65536 := by omega
  have hc := wholeP_check h6
  have hl := symsP_len hc
  have ho : (wholeP n).out = n := rfl
  have hi : (wholeP n).in_ = n := rfl
  have hk := (ops_ok _ (checkP_ok hc).1).1
  rw [hi] at hk
  exact ⟨by omega, hk, symsP_wf (wholeP_wf h6) hc⟩
theorem good_of {n : Int} {N : Nat} {S : List Sym} (h : SzOk n N S) (hn : 0 ≤ n ∧ n ≤ 4096) (hN : (N : Int) = n) : ofPP S n = (ofOf n S, 0) ∧ Good11 (ofOf n S) n := by
  have h1 : 0 ≤ n ∧ n ≤ 65536 := by omega
  have h2 : S.length ≤ 4096 := by rw [h.len]; omega
  refine ⟨ofPP_ok h1 h2 h.ok, ofOf_wf h1 h2 h.wf, ofOf_check h1 h2 h.ok, rfl, rfl, ?_⟩
  show (S.length : Int) = n
  rw [h.len]; exact hN
structure SzS where
  i : Nat
  S : List Sym
def rgEq (a b : Int × Int) : Bool := decide (a.1 = b.1) && decide (a.2 = b.2)
theorem rgEq_iff {a b : Int × Int} : rgEq a b = true ↔ a = b := by
  cases a; cases b; simp [rgEq]
theorem neqRg {n : Nat} {σ : Nat → Value} {S : World → Prop} {ty t' : TypeId} {x y : Operand} (a b : Int × Int) (hx : ev n σ x = .agg #[.int .i64 a.1, .int .i64 a.2]) (hy : ev n σ y = .agg #[.int .i64 b.1, .int .i64 b.2]) : Gives Tryz.prog (ev n σ) S (.binOp .neq 58 x y t') ty (.bool (!rgEq a b)) := fun w hw => by
  have hg : (eqGuard .neq 58 x y (.agg #[.int .i64 a.1, .int .i64 a.2]) (.agg #[.int .i64 b.1, .int .i64 b.2])).run Tryz.prog w = .ok () w := by simp [eqGuard, go_sem, Tryz.eqGuardType58]
  have hb : (binOp .neq 58 (.agg #[.int .i64 a.1, .int .i64 a.2]) (.agg #[.int .i64 b.1, .int .i64 b.2])).run Tryz.prog w = .ok (.bool (!rgEq a b)) w := by
    simp [go_sem, rgEq]
    by_cases h1 : a.1 = b.1 <;> by_cases h2 : a.2 = b.2 <;> simp [h1, h2]
  simp only [execOp, hx, hy, Sem.run_bind, hg, Result.andThen_ok, hb]; rfl

end Go.Proofs.YtlhehhhpaebpoaaGreat

