/- inlayref08.List: what it computes. Conditions: symbols are right. -/
import Derived.Test.YtaklmbhfmpdinaaFits
namespace Go.Proofs.Ytaklmbhfmpdinaa
open Go Go.RowKit Go.Inl
set_option linter.unusedSimpArgs false
set_option linter.unusedVariables false
end Go.Proofs.Ytaklmbhfmpdinaa

