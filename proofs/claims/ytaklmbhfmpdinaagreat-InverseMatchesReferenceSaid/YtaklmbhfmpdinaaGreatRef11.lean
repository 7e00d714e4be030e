/- inlayref11: Check, Touches, Reads, Ranges, Touched, Read, Clashes, Merge, Independent, Commute: what they compute. Conditions: numbers within bounds. -/
import Derived.Test.YtaklmbhfmpdinaaGreatPlaces
import Derived.Test.YtaklmbhfmpdinaaGreatKLaw
import Derived.Test.YtaklmbhfmpdinaaGreatFits
import Derived.Test.YtaklmbhfmpdinaaGreatKCut
import Derived.Test.YtaklmbhfmpdinaaGreatKRef6
import Derived.Test.YtaklmbhfmpdinaaGreatKCore3
import Derived.Test.YtaklmbhfmpdinaaGreatRef8
set_option linter.unusedSimpArgs false
set_option linter.unusedVariables false
namespace Go.Proofs.YtaklmbhfmpdinaaGreat
open Go Go.RowKit Go.Inl
theorem extR_set {R : List (Int × Int)} {k : Int} (h : 0 < R.length) (hk : (lastR R).2 = k) : extR R k = R.set (R.length - 1) ((lastR R).1, k + 1) ∧ R[R.length - 1]? = some (lastR R) := by
 obtain ⟨D, hD, hl⟩ := lastR_split h
 generalize lastR R = r at hD hk ⊢
 subst hD
 have e1 : (D ++ [r]).length - 1 = D.length := by simp
 rw [e1]
 constructor
 · rw [extR_same hk]; simp
 · simp
end Go.Proofs.YtaklmbhfmpdinaaGreat
