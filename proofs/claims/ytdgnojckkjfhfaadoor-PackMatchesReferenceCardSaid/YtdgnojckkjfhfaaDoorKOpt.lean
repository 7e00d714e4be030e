/- The table of package normal finds the least price, and the first and longest operation that has it. Conditions: symbols are right. What the cheapest list of operations is: its symbols, its rightness, its cost against every other list. Conditions: symbols are right. Equal literals are one Run or one Lit, bytes in order one Copy, with a number added one Diff. Conditions: none. -/
import Derived.Test.YtdgnojckkjfhfaaDoorKCore2
namespace Go.Inl

/-! ### Prices in order -/
def Pr.le (a b : Pr) : Prop := a.cost < b.cost ∨ (a.cost = b.cost ∧ a.ops ≤ b.ops)
def Pr.lt (a b : Pr) : Prop := a.cost < b.cost ∨ (a.cost = b.cost ∧ a.ops < b.ops)
theorem Pr.le_refl (a : Pr) : a.le a := by simp [Pr.le]
theorem Pr.le_trans {a b c : Pr} (h : a.le b) (k : b.le c) : a.le c := by simp only [Pr.le] at *; omega
theorem Pr.lt_of_lt_of_le {a b c : Pr} (h : a.lt b) (k : b.le c) : a.lt c := by simp only [Pr.le, Pr.lt] at *; omega
theorem Pr.not_lt {a b : Pr} (h : a.le b) (k : b.lt a) : False := by simp only [Pr.le, Pr.lt] at *; omega
end Go.Inl

namespace Go.Inl

def OpsOk (n : Int) (ops : List OpL) : Prop := ∀ x ∈ ops, 1 ≤ x.len ∧ rightP x n = true
/-! ### Patches -/
theorem checkGo_right {n : Int} : ∀ (l : List OpL) (left i : Int), OpsOk n l → ((symsOf l).length : Int) = left → (checkGo n l left i).2 = 0
  | [], left, i, _, h => by
    simp [symsOf] at h
    unfold checkGo; rw [if_neg (by omega)]
  | x :: l, left, i, hr, h => by
    obtain ⟨h1, h2⟩ := hr x (by simp)
    rw [symsOf_cons, List.length_append, symsOp_length] at h
    rw [checkGo_good (by simp [h2]; omega)]
    exact checkGo_right l _ _ (fun y hy => hr y (by simp [hy])) (by omega)
theorem checkP_right {p : PatL} (h0 : 0 ≤ p.in_ ∧ p.in_ ≤ 65536) (h1 : OpsOk p.in_ p.ops) (h2 : ((symsOf p.ops).length : Int) = p.out) (h3 : p.out ≤ 65536) (h4 : p.ops.length ≤ 4096) : (checkP p).2 = 0 := by
  unfold checkP
  have hb : badP p = false := by
    unfold badP
    simp only [Bool.or_eq_false_iff, decide_eq_false_iff_not]
    refine ⟨⟨?_, ?_⟩, ?_⟩
    · split <;> omega
    · split <;> omega
    · omega
  rw [hb]
  simp only [Bool.false_eq_true, if_false]
  exact checkGo_right _ _ _ h1 h2
theorem sameOpS_iff {a b : OpL} : sameOpS a b = true ↔ a = b := by
  obtain ⟨a1, a2, a3, a4, a5⟩ := a; obtain ⟨b1, b2, b3, b4, b5⟩ := b
  simp [sameOpS, and_assoc]
end Go.Inl

set_option linter.unusedVariables false
namespace Go.Inl
end Go.Inl
