/- Contracts and facts that the laws which reach patch.Apply share. Conditions: none. -/
import Derived.Test.YtaklmbhfmpdinaaGreatPParts
import Derived.Test.YtaklmbhfmpdinaaGreatKLaw
set_option linter.unusedSimpArgs false
set_option linter.unusedVariables false
namespace Go.Proofs.YtaklmbhfmpdinaaGreat
open Go Go.RowKit Go.Inl
section
variable {P : Program} {n : Nat} {σ : Nat → Value} {S : World → Prop} {t t' ty : TypeId} {x y : Operand} {k : IntKind} {a b : Int}
theorem g_neqTK (hx : ev n σ x = .int k a) (hy : ev n σ y = .int k b) (h : ¬ a = b) : Gives P (ev n σ) S (.binOp .neq t x y t') ty (.bool true) := by
 have := g_neq (P := P) (S := S) (t := t) (t' := t') (ty := ty) hx hy
 rw [decide_eq_false h] at this; exact this
theorem g_gtF (hx : ev n σ x = .int k a) (hy : ev n σ y = .int k b) (h : a ≤ b) : Gives P (ev n σ) S (.binOp .gtr t x y t') ty (.bool false) := by
 have := g_gtr (P := P) (S := S) (t := t) (t' := t') (ty := ty) hx hy
 rw [decide_eq_false (by omega)] at this; exact this
end
end Go.Proofs.YtaklmbhfmpdinaaGreat
