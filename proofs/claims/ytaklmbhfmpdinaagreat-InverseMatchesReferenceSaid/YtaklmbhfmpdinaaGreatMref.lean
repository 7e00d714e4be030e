/- inlaylaw08.NormalMatchesReference: its function answers true. Conditions: arguments are of their kinds. -/
import Derived.Test.YtaklmbhfmpdinaaGreatRef8
import Derived.Test.YtaklmbhfmpdinaaGreatKCut
set_option linter.unusedSimpArgs false
set_option linter.unusedVariables false
namespace Go.Proofs.YtaklmbhfmpdinaaGreat
open Go Go.RowKit Go.Inl
theorem jS (ad : Option Addr) (m cap : Nat) (l : List Sym) (size : Int) (q : PatL) (e : Int) (w0 : World) (I0 : Imm) (hI : Sat I0 w0) (hl : RSyms I0 (.slice ad m cap) l) (hm : m = l.length) (hw : ∀ s ∈ l, s.wf) (hs : Mid size) (he : cheapP l size = (q, e)) :
 Ctr Tryz.prog 32 [.slice ad m cap, .int .i64 size] w0 (fun v w' => ∃ I' a m c, v = .tuple #[.agg #[.bool q.lifted, .int .i64 q.in_, .int .i64 q.out, .slice a m c], .int .i64 e] ∧ Ext w0 I0 w' I' ∧ ROps I' (.slice a m c) q.ops) := by
 subst hm
 have h := refCheapest_c ad cap l size w0 I0 hI hl hw hs
 rw [he] at h
 exact h
end Go.Proofs.YtaklmbhfmpdinaaGreat
