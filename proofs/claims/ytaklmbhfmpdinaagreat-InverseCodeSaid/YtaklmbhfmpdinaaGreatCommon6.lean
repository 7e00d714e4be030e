/- Contracts and facts that the laws which reach patch.Apply share. Conditions: none. -/
import Derived.Test.YtaklmbhfmpdinaaGreatPParts
import Derived.Test.YtaklmbhfmpdinaaGreatKLaw
namespace Go.Proofs.YtaklmbhfmpdinaaGreat
open Go Go.RowKit Go.Inl
set_option linter.unusedSimpArgs false
set_option linter.unusedVariables false
theorem right_K (p : PatL) (ad : Option Addr) (m cap : Nat) (w0 : World) (I0 : Imm) (hI : Sat I0 w0) (hops : ROps I0 (.slice ad m cap) p.ops) (hp : p.wf) (hk : (checkP p).2 = 0) :
    Ctr Tryz.prog 16 [.agg #[.bool p.lifted, .int .i64 p.in_, .int .i64 p.out, .slice ad m cap]] w0 (fun v w' => v = .bool true ∧ Ext w0 I0 w' I0) := by
  have h := rightP_c p ad m cap w0 I0 hI hops hp
  rw [checkR_of hk] at h
  exact h
section
variable {P : Program} {n : Nat} {σ : Nat → Value} {S : World → Prop} {t t' ty : TypeId} {x y : Operand} {k : IntKind} {a b : Int}
theorem g_neqTK (hx : ev n σ x = .int k a) (hy : ev n σ y = .int k b) (h : ¬ a = b) : Gives P (ev n σ) S (.binOp .neq t x y t') ty (.bool true) := by
  have := g_neq (P := P) (S := S) (t := t) (t' := t') (ty := ty) hx hy
  rw [decide_eq_false h] at this; exact this
theorem g_gtF (hx : ev n σ x = .int k a) (hy : ev n σ y = .int k b) (h : a ≤ b) : Gives P (ev n σ) S (.binOp .gtr t x y t') ty (.bool false) := by
  have := g_gtr (P := P) (S := S) (t := t) (t' := t') (ty := ty) hx hy
  rw [decide_eq_false (by omega)] at this; exact this
theorem g_strT {s : ByteArray} (hx : ev n σ x = .string s) (hy : ev n σ y = .string s) : Gives P (ev n σ) S (.binOp .eql t x y t') ty (.bool true) := by
  have := g_eqlStr (P := P) (S := S) (t := t) (t' := t') (ty := ty) hx hy
  rwa [beq_self_eq_true] at this
end
end Go.Proofs.YtaklmbhfmpdinaaGreat

