/- inlaylaw09.sanity: it is true. Conditions: none. -/
import Derived.Test.YtcajgkfgjpfmaaaGreatKComp
set_option linter.unusedSimpArgs false
set_option linter.unusedVariables false
namespace Go.Proofs.YtcajgkfgjpfmaaaGreat
open Go Go.RowKit Go.Inl
def okPat (p:PatL):Bool:=okM p.in_ && okM p.out && p.ops.all okOp && decide ((p.ops.length:Int)≤1099511627776)
theorem okPat_s {p:PatL}(h:okPat p=true):p.wf:=by
 simp only[okPat,xU,xO]at h;exact⟨okM_s h.1.1.1,okM_s h.1.1.2,okOps h.1.2,h.2⟩
end Go.Proofs.YtcajgkfgjpfmaaaGreat
