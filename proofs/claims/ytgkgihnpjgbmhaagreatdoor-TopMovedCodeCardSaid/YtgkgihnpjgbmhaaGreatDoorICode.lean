/- inlaylaw10.InverseCode: its function answers true. Conditions: arguments are of their kinds. -/
import Derived.Test.YtgkgihnpjgbmhaaGreatDoorKI
import Derived.Test.YtgkgihnpjgbmhaaGreatDoorApplyL
import Derived.Test.YtgkgihnpjgbmhaaGreatDoorKRefL
import Derived.Test.YtgkgihnpjgbmhaaGreatDoorRefApply
import Derived.Test.YtgkgihnpjgbmhaaGreatDoorKCut
import Derived.Test.YtgkgihnpjgbmhaaGreatDoorKOpt
set_option linter.unusedSimpArgs false
set_option linter.unusedVariables false
namespace Go.Proofs.YtgkgihnpjgbmhaaGreatDoor
open Go Go.RowKit Go.Inl
theorem words_of2 (W:List Int)(hW:Wrds W):wordsN (bytesP W) ((bytesP W).length / 4)=W:=by
 rw[qD,show 4*W.length / 4=W.length by omega,kF hW]
theorem code_of2 (W:List Int)(hW:Wrds W):codeF (bytesP W)=formP (liftP W):=by unfold codeF; rw[words_of2 W hW]
theorem noCode_of2 {W:List Int}(h:W.length≤16384):noCode (bytesP W)=false:=by
 unfold noCode; rw[qD,uH (show 4*W.length % 4=0 by omega),uw (by omega)]; rfl
theorem code_len {W:List Int}(h:W.length≤64):(formP (liftP W)).length≤4096:=by
 have h1:(liftP W).words.length=W.length:=jj _ _ _;have h2:(liftP W).marks.length=W.length:=jp _ _;have h3:(liftP W).labels.length≤W.length:=jv _;have:=vV (liftP W);omega
theorem apply_code {V W:List Int}{p:PatL}(hV:Wrds V)(lV:V.length≤64)(hW:Wrds W)(lW:W.length≤64)(hk:(checkP p).2=0)(hin:p.in_=(formP (liftP V)).length)(hr:(symsOf p.ops).map (runB (formP (liftP V)))=formP (liftP W)):applyLP (bytesP V) p=(bytesP W,0):=by
 have hs:=jX hk;unfold applyLP;rw[hs,xS rfl,xP (by rw[noCode_of2 (by omega)]; decide),code_of2 V hV,xS hin.symm];dsimp only;rw[runP_right hk hin,hr,xS rfl];dsimp only;rw[readR_lift hW (by omega),xS rfl,lower_lift hW (by omega)]
end Go.Proofs.YtgkgihnpjgbmhaaGreatDoor
