/- inlayref08.Least, patch.kind: what they compute. Conditions: symbols are right. -/
import Derived.Test.YtcajgkfgjpfmaaaGreatFits
import Derived.Test.YtcajgkfgjpfmaaaGreatKCut
set_option linter.unusedSimpArgs false
set_option linter.unusedVariables false
namespace Go.Proofs.YtcajgkfgjpfmaaaGreat
open Go Go.RowKit Go.Inl
def kindP (s:Sym):Int:=if s.old=false then 4 else if s.b≠0 then 2 else 1
end Go.Proofs.YtcajgkfgjpfmaaaGreat
