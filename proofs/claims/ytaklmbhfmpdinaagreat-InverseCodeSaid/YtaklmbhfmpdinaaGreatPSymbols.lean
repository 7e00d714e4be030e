/- inlaylaw06.PatchSymbols: its function answers true. Conditions: arguments are of their kinds. -/
import Derived.Test.YtaklmbhfmpdinaaGreatSanity6
namespace Go.Proofs.YtaklmbhfmpdinaaGreat
open Go Go.RowKit Go.Inl
set_option linter.unusedSimpArgs false
set_option linter.unusedVariables false
theorem runP_right {p : PatL} {lo : List Int} (hk : (checkP p).2 = 0) (h : p.in_ = lo.length) : runP lo (symsOf p.ops) = ((symsOf p.ops).map (runB lo), 0) := by
  unfold runP
  rw [badT_ok (ops_ok _ (checkP_ok hk).1).1 h]; rfl
theorem g_neqF {P : Program} {n : Nat} {σ : Nat → Value} {S : World → Prop} {t t' ty : TypeId} {x y : Operand} {k : IntKind} {a b : Int} (hx : ev n σ x = .int k a) (hy : ev n σ y = .int k b) (h : a = b) : Gives P (ev n σ) S (.binOp .neq t x y t') ty (.bool false) := by
  have := g_neq (P := P) (S := S) (t := t) (t' := t') (ty := ty) hx hy
  rw [decide_eq_true h] at this; exact this
theorem wrap8 {y : Int} (h : 0 ≤ y ∧ y ≤ 255) : IntKind.u8.wrap y = y := by rw [IntKind.wrap_u8]; omega
end Go.Proofs.YtaklmbhfmpdinaaGreat

