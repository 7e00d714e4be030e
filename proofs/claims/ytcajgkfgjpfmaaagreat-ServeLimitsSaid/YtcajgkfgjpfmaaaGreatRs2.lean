/- inlayref30: Fit, chain, Composed, offer, cached: what they compute. Conditions: good servers where it is said. -/
import Derived.Test.YtcajgkfgjpfmaaaGreatRs1
set_option linter.unusedSimpArgs false
set_option linter.unusedVariables false
namespace Go.Proofs.YtcajgkfgjpfmaaaGreat
open Go Go.RowKit Go.Inl
theorem RMade.one {I : Imm} (cs : List Value) (d : MadeL) (h : RMade I cs d) : cs.all (·.oneCell') = true := by
 obtain ⟨a, c, ap, m, cp, rfl, _⟩ := h; rfl
end Go.Proofs.YtcajgkfgjpfmaaaGreat
