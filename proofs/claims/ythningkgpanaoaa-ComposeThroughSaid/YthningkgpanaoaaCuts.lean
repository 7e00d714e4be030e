/- inlaylaw08.NormalCuts: its function answers true. Conditions: arguments are bytes. -/
import Derived.Test.YthningkgpanaoaaCutB
namespace Go.Proofs.Ythningkgpanaoaa
open Go Go.RowKit Go.Inl
set_option linter.unusedSimpArgs false
set_option linter.unusedVariables false
theorem g_leqE {P : Program} {n : Nat} {σ : Nat → Value} {S : World → Prop} {ty t t' : TypeId} {x y : Operand} {k : IntKind} {a b : Int} {c : Bool} (hx : ev n σ x = .int k a) (hy : ev n σ y = .int k b) (hc : decide (a ≤ b) = c) : Gives P (ev n σ) S (.binOp .leq t x y t') ty (.bool c) := by
  subst hc; exact g_leq hx hy

theorem made_t (r : Int) (ad : Option Addr) (cap : Nat) (l : List Q4) (p : PatL) (w0 : World) (I0 : Imm) (hI : Sat I0 w0) (hl : RFl I0 4 q4C (.slice ad l.length cap) l) (hq : ∀ q ∈ l, q.wf) (hr : 0 ≤ r ∧ r ≤ 255) (hp : madeP l (r % 13) = p) :
    Ctr Try.prog 24 [.agg #[.int .u8 r, .slice ad l.length cap]] w0 (fun v w' => ∃ I' a m c, v = .agg #[.bool p.lifted, .int .i64 p.in_, .int .i64 p.out, .slice a m c] ∧ Ext w0 I0 w' I' ∧ ROps I' (.slice a m c) p.ops) := by
  subst hp; exact made_c r ad cap l w0 I0 hI hl hq hr.1 hr.2
theorem sameF (b : Bool) (n : Int) (l : List Sym) (a d : Option Addr) (m c e f : Nat) (w0 : World) (I0 : Imm) (hI : Sat I0 w0) (h1 : ROps I0 (.slice a m c) (optL l)) (h2 : ROps I0 (.slice d e f) (optL l)) (hw : (formOf b n l).wf) :
    Ctr Try.prog 16 [.agg #[.bool b, .int .i64 n, .int .i64 l.length, .slice a m c], .agg #[.bool b, .int .i64 n, .int .i64 l.length, .slice d e f]] w0 (fun v w' => v = .bool true ∧ Ext w0 I0 w' I0) :=
  sameR_e (formOf b n l) (formOf b n l) a d m c e f true w0 I0 hI h1 hw h2 hw (samePR_refl _)

end Go.Proofs.Ythningkgpanaoaa

