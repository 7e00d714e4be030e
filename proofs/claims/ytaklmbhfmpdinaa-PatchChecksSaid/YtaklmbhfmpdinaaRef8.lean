/- inlayref08.Cheapest, Form, Same: what they compute, namely the same as package normal. Conditions: numbers within bounds. -/
import Derived.Test.YtaklmbhfmpdinaaList
import Derived.Test.YtaklmbhfmpdinaaKCut
namespace Go.Proofs.Ytaklmbhfmpdinaa
open Go Go.RowKit Go.Inl
set_option linter.unusedSimpArgs false
set_option linter.unusedVariables false
end Go.Proofs.Ytaklmbhfmpdinaa

