/- inlayref06.Run, and inlayref06.Apply for right patches that are not lifted: what they compute. Conditions: numbers within bounds. -/
import Derived.Test.YtgkgihnpjgbmhaaGreatDoorKP6
import Derived.Test.YtgkgihnpjgbmhaaGreatDoorKCut
import Derived.Test.YtgkgihnpjgbmhaaGreatDoorKOpt
import Derived.Test.YtgkgihnpjgbmhaaGreatDoorKRef6
import Derived.Test.YtgkgihnpjgbmhaaGreatDoorKCore3
set_option linter.unusedSimpArgs false
set_option linter.unusedVariables false
namespace Go.Proofs.YtgkgihnpjgbmhaaGreatDoor
open Go Go.RowKit Go.Inl
theorem checkGo_right {n : Int} : ∀ (l : List OpL) (left i : Int), (checkGo n l left i).2 = 0 → (checkGo n l left i).1 = i + l.length
 | [],left,i,h=>by
   unfold checkGo at h ⊢;split at h
   · cases h
   · rename_i h2; rw[xP h2]; simp
 | x::r,left,i,h=>by
   unfold checkGo at h ⊢;split at h
   · cases h
   · rename_i h2
     rw[xP h2,checkGo_right r _ _ h,List.length_cons]; omega
end Go.Proofs.YtgkgihnpjgbmhaaGreatDoor
