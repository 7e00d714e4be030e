/- inlaylaw06.PatchParts: its function answers true. Conditions: arguments are of their kinds. -/
import Derived.Test.YtcajgkfgjpfmaaaGreatPSymbols
import Derived.Test.YtcajgkfgjpfmaaaGreatKCore3
set_option linter.unusedSimpArgs false
set_option linter.unusedVariables false
namespace Go.Proofs.YtcajgkfgjpfmaaaGreat
open Go Go.RowKit Go.Inl
theorem apply_L (p : PatL) (ad bd : Option Addr) (m cap n capb : Nat) (old R : List Int) (e : Int) (w0 : World) (I0 : Imm) (hI : Sat I0 w0) (hops : ROps I0 (.slice ad m cap) p.ops) (hp : p.wf) (hl : p.lifted = false) (ho : RBytes I0 (.slice bd n capb) old) (hn : n = old.length) (hR : applyP old p = (R, e)) :
 Ctr Tryz.prog 40 [.slice bd n capb,.agg #[.bool p.lifted,.int .i64 p.in_,.int .i64 p.out,.slice ad m cap]] w0 (fun v w'=>∃I' a c,v = .tuple #[.slice a R.length c,.int .i64 e]∧Ext w0 I0 w' I'∧RBytes I' (.slice a R.length c) R) :=
 apply_E p ad bd m cap n capb old (R,e) w0 I0 hI hops hp hl ho hn hR
end Go.Proofs.YtcajgkfgjpfmaaaGreat
