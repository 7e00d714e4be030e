/- inlayref02.In, inlayref08.fits, price: what they compute. Conditions: numbers within bounds. -/
import Derived.Test.YtaklmbhfmpdinaaKCut
import Derived.Test.YtaklmbhfmpdinaaKOpt
namespace Go.Proofs.Ytaklmbhfmpdinaa
open Go Go.RowKit Go.Inl
set_option linter.unusedSimpArgs false
set_option linter.unusedVariables false
end Go.Proofs.Ytaklmbhfmpdinaa

