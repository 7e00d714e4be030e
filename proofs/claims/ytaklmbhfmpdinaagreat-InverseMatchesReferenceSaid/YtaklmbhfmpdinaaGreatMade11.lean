/- inlayref11.Sized and Made: they give even patches. inlayref05.SameRanges. Conditions: numbers within bounds. -/
import Derived.Test.YtaklmbhfmpdinaaGreatRef11
import Derived.Test.YtaklmbhfmpdinaaGreatFits
import Derived.Test.YtaklmbhfmpdinaaGreatKCut
import Derived.Test.YtaklmbhfmpdinaaGreatKComp
set_option linter.unusedSimpArgs false
set_option linter.unusedVariables false
namespace Go.Proofs.YtaklmbhfmpdinaaGreat
open Tryz
open Go Go.RowKit Go.Inl
def rgEq (a b : Int × Int) : Bool := decide (a.1 = b.1) && decide (a.2 = b.2)
theorem rgEq_iff {a b : Int × Int} : rgEq a b = true ↔ a = b := by
 cases a; cases b; simp [rgEq]
theorem neqRg {n : Nat} {σ : Nat → Value} {S : World → Prop} {ty t' : TypeId} {x y : Operand} (a b : Int × Int) (hx : ev n σ x = .agg #[.int .i64 a.1, .int .i64 a.2]) (hy : ev n σ y = .agg #[.int .i64 b.1, .int .i64 b.2]) : Gives prog (ev n σ) S (.binOp .neq 55 x y t') ty (.bool (!rgEq a b)) := fun w hw => by
 have hg : (eqGuard .neq 55 x y (.agg #[.int .i64 a.1, .int .i64 a.2]) (.agg #[.int .i64 b.1, .int .i64 b.2])).run prog w = .ok () w := by simp [eqGuard, go_sem, eqGuardType55]
 have hb : (binOp .neq 55 (.agg #[.int .i64 a.1, .int .i64 a.2]) (.agg #[.int .i64 b.1, .int .i64 b.2])).run prog w = .ok (.bool (!rgEq a b)) w := by
  simp [go_sem, rgEq]
  by_cases h1 : a.1 = b.1 <;> by_cases h2 : a.2 = b.2 <;> simp [h1, h2]
 simp only [execOp, hx, hy, Sem.run_bind, hg, Result.andThen_ok, hb]; rfl
end Go.Proofs.YtaklmbhfmpdinaaGreat
