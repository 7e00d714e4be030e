/- inlayref29: fields, Right, Fits, Find, Valid, Cheaper, All, Path, Reach, Ints: what they compute. Conditions: a valid graph where it is said. -/
import Derived.Test.YtcajgkfgjpfmaaaGreatKSrv
import Derived.Test.YtcajgkfgjpfmaaaGreatKCut
import Derived.Test.YtcajgkfgjpfmaaaGreatKOpt
set_option linter.unusedSimpArgs false
set_option linter.unusedVariables false
namespace Go.Proofs.YtcajgkfgjpfmaaaGreat
open Go Go.RowKit Go.Inl
def bF (l : List Int) (k : Nat) : Int := if k = 0 then 0 else l.getD (k - 1) 0 + 1
end Go.Proofs.YtcajgkfgjpfmaaaGreat
