/- inlaylaw06.sanity: it is true. Conditions: none. -/
import Derived.Test.YtaklmbhfmpdinaaGreatApply
import Derived.Test.YtaklmbhfmpdinaaGreatFits
import Derived.Test.YtaklmbhfmpdinaaGreatKCut
set_option linter.unusedSimpArgs false
set_option linter.unusedVariables false
namespace Go.Proofs.YtaklmbhfmpdinaaGreat
open Go Go.RowKit Go.Inl
def okPat6 (p : PatL) : Bool := okM p.in_ && okM p.out && p.ops.all okOp && decide ((p.ops.length : Int) ≤ 1099511627776)
theorem jW {p : PatL} (h : okPat6 p = true) : p.wf := by
 simp only [okPat6, Bool.and_eq_true, decide_eq_true_eq] at h
 exact ⟨okM_s h.1.1.1, okM_s h.1.1.2, okOps h.1.2, h.2⟩
theorem apply_E (p : PatL) (ad bd : Option Addr) (m cap n capb : Nat) (old : List Int) (R : List Int × Int) (w0 : World) (I0 : Imm) (hI : Sat I0 w0) (hops : ROps I0 (.slice ad m cap) p.ops) (hp : p.wf) (hl : p.lifted = false) (ho : RBytes I0 (.slice bd n capb) old) (hn : n = old.length) (hR : applyP old p = R) :
 Ctr Tryz.prog 17 [.slice bd n capb, .agg #[.bool p.lifted, .int .i64 p.in_, .int .i64 p.out, .slice ad m cap]] w0 (fun v w' => ∃ I' a c, v = .tuple #[.slice a R.1.length c, .int .i64 R.2] ∧ Ext w0 I0 w' I' ∧ RBytes I' (.slice a R.1.length c) R.1) := by
 subst hn; subst hR; exact apply_c p ad bd m cap capb old w0 I0 hI hops hp hl ho
end Go.Proofs.YtaklmbhfmpdinaaGreat
