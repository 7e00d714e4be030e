/- The small functions of package normal: what they compute. Conditions: symbols and prices within bounds. -/
import Derived.Test.YthfgchcdilodlaaGreatFacts
import Derived.Test.YthfgchcdilodlaaGreatKCore2
import Derived.KernelRfl
namespace Go.Proofs.YthfgchcdilodlaaGreat
open Go Go.RowKit Go.Inl


theorem eqlSym {n : Nat} {σ : Nat → Value} {S : World → Prop} {ty t' : TypeId} {x y : Operand} (a b : Sym) (hx : ev n σ x = symV a) (hy : ev n σ y = symV b) : Gives Tryz.prog (ev n σ) S (.binOp .eql 54 x y t') ty (.bool (symEq a b)) := fun w _ => by
  have hg : (eqGuard .eql 54 x y (symV a) (symV b)).run Tryz.prog w = .ok () w := by simp [eqGuard, symV, go_sem, Tryz.eqGuardType54]
  have hb : (binOp .eql 54 (symV a) (symV b)).run Tryz.prog w = .ok (.bool (symEq a b)) w := by
    simp [symV, go_sem, symEq]
    by_cases h1 : a.old = b.old <;> by_cases h2 : a.at_ = b.at_ <;> by_cases h3 : a.b = b.b <;> simp [h1, h2, h3]
  simp only [execOp, hx, hy, Sem.run_bind, hg, Result.andThen_ok, hb]; rfl

end Go.Proofs.YthfgchcdilodlaaGreat

