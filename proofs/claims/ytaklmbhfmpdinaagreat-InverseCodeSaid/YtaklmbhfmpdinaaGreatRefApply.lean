/- inlayref06.Run, and inlayref06.Apply for right patches that are not lifted: what they compute. Conditions: numbers within bounds. -/
import Derived.Test.YtaklmbhfmpdinaaGreatPSymbols
import Derived.Test.YtaklmbhfmpdinaaGreatKLaw
import Derived.Test.YtaklmbhfmpdinaaGreatKOpt
import Derived.Test.YtaklmbhfmpdinaaGreatKRef6
import Derived.Test.YtaklmbhfmpdinaaGreatKCore3
namespace Go.Proofs.YtaklmbhfmpdinaaGreat
open Go Go.RowKit Go.Inl
set_option linter.unusedSimpArgs false
set_option linter.unusedVariables false
theorem checkGo_right {n : Int} : ∀ (l : List OpL) (left i : Int), (checkGo n l left i).2 = 0 → (checkGo n l left i).1 = i + l.length
  | [], left, i, h => by
    unfold checkGo at h ⊢
    split at h
    · cases h
    · rename_i h2; rw [if_neg h2]; simp
  | x :: r, left, i, h => by
    unfold checkGo at h ⊢
    split at h
    · cases h
    · rename_i h2
      rw [if_neg h2, checkGo_right r _ _ h, List.length_cons]; omega
end Go.Proofs.YtaklmbhfmpdinaaGreat

