/- inlaylaw06.PatchParts: its function answers true. Conditions: arguments are of their kinds. -/
import Derived.Test.YtaklmbhfmpdinaaGreatDoorPSymbols
import Derived.Test.YtaklmbhfmpdinaaGreatDoorKCore3
namespace Go.Proofs.YtaklmbhfmpdinaaGreatDoor
open Go Go.RowKit Go.Inl
set_option linter.unusedSimpArgs false
set_option linter.unusedVariables false
theorem symbols_L (p : PatL) (ad : Option Addr) (m cap : Nat) (A : List Sym) (e : Int) (w0 : World) (I0 : Imm) (hI : Sat I0 w0) (hops : ROps I0 (.slice ad m cap) p.ops) (hp : p.wf) (he : symbolsP p = (A, e)) :
    Ctr Tryz.prog 30 [.agg #[.bool p.lifted, .int .i64 p.in_, .int .i64 p.out, .slice ad m cap]] w0 (fun v w' => ∃ I' a c, v = .tuple #[.slice a A.length c, .int .i64 e] ∧ Ext w0 I0 w' I' ∧ RSyms I' (.slice a A.length c) A) :=
  symbols_e p ad m cap (A, e) w0 I0 hI hops hp he
end Go.Proofs.YtaklmbhfmpdinaaGreatDoor

