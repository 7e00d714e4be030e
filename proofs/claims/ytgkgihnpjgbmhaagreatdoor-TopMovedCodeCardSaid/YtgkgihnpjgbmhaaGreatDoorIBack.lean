/- inlaylaw10.InverseBack and InverseTwice: their functions answer true. Conditions: arguments are of their kinds. -/
import Derived.Test.YtgkgihnpjgbmhaaGreatDoorKI
import Derived.Test.YtgkgihnpjgbmhaaGreatDoorRefApply
set_option linter.unusedSimpArgs false
set_option linter.unusedVariables false
namespace Go.Proofs.YtgkgihnpjgbmhaaGreatDoor
open Go Go.RowKit Go.Inl
theorem invertP_ok {p F:PatL}{O:List Int}(hk:(checkP p).2=0)(hin:p.in_=O.length)(hF:InvFor p F O):invertP O p=(F,0):=by
 unfold invertP;rw[jX hk,zZ hk hin,xP (by simp),xP (by simp)];exact hF.cheap
theorem apply_inv {p F:PatL}{O:List Int}(hk:(checkP p).2=0)(hin:p.in_=O.length)(hb:∀y∈O,0≤y∧y≤255)(hF:InvFor p F O):applyP ((symsOf p.ops).map (runB O)) F=(O,0):=by
 obtain⟨k1,k2,k3,k4,k5,k6,k7⟩:=ja hk;rw[zZ hF.chk (by rw[hF.in_,Qb]; omega),hF.syms];have ok:=(yS _ k1).1;rw[hin]at ok;rw[inv_run ok hb]
end Go.Proofs.YtgkgihnpjgbmhaaGreatDoor
