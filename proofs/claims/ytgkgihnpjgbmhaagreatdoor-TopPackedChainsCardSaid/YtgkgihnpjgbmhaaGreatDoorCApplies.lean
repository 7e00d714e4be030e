/- inlaylaw09.ComposeApplies: its function answers true. Conditions: arguments are of their kinds. -/
import Derived.Test.YtgkgihnpjgbmhaaGreatDoorKP6
import Derived.Test.YtgkgihnpjgbmhaaGreatDoorKLaw
import Derived.Test.YtgkgihnpjgbmhaaGreatDoorBase9
import Derived.Test.YtgkgihnpjgbmhaaGreatDoorKCut
import Derived.Test.YtgkgihnpjgbmhaaGreatDoorKOpt
set_option linter.unusedSimpArgs false
set_option linter.unusedVariables false
namespace Go.Proofs.YtgkgihnpjgbmhaaGreatDoor
open Go Go.RowKit Go.Inl
def nowP (b : List Int) : List PatL → List Int
 | []=>b
 | q::r=>nowP ((symsOf q.ops).map (runB b)) r
theorem nowP_snoc : ∀ (a : List PatL) (q : PatL) (b : List Int), nowP b (a ++ [q]) = (symsOf q.ops).map (runB (nowP b a))
 | [],_,_=>rfl
 | p::a,q,b=>nowP_snoc a q _
theorem chain_now : ∀ (C : List PatL) (n : Int) (b : List Int), ChainOk n C → (b.length : Int) = n → ∀ k q, C[k]? = some q → (checkP q).2 = 0 ∧ q.lifted = false ∧ q.in_ = (nowP b (C.take k)).length
 | [],_,_,_,_,k,q,h=>by simp at h
 | p::C,n,b,⟨c1,c2,c3,c4,c5⟩,hb,0,q,h=>by
   obtain rfl:p=q:=by simpa using h
   exact⟨c2,c3,by show p.in_=(b.length:Int); omega⟩
 | p::C,n,b,⟨c1,c2,c3,c4,c5⟩,hb,k+1,q,h=>by
   have:=chain_now C p.out ((symsOf p.ops).map (runB b)) c5 (by rw[xP]; exact(qI c2).2.1) k q (by simpa using h);simpa [nowP] using this
theorem now_fold : ∀ (r : List PatL) (T : List Sym) (b : List Int), ChainOk T.length r → nowP (T.map (runB b)) r = (foldT T r).map (runB b)
 | [],_,_,_=>rfl
 | q::r,T,b,⟨c1,c2,c3,c4,c5⟩=>by
   obtain⟨k1,k2,k3,k4,k5,k6,k7⟩:=qI c2;have hok:=(kV _ k1).1;have e:(symsOf q.ops).map (runB (T.map (runB b)))=((symsOf q.ops).map (thr T)).map (runB b):=by
    rw[List.map_map];refine List.map_congr_left fun s hs=>(run_thr b T s fun ho=>?_)
    have h:=hok s hs;unfold strange at h;simp[ho]at h
    omega
   show nowP ((symsOf q.ops).map (runB (T.map (runB b)))) r=(foldT ((symsOf q.ops).map (thr T)) r).map (runB b)
   rw[e];refine now_fold r _ b ?_;rw[xP,k2]; exact c5
end Go.Proofs.YtgkgihnpjgbmhaaGreatDoor
