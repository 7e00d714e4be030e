/- inlaylaw08.NormalLeast: its function answers true. Conditions: arguments are bytes. -/
import Derived.Test.YtcajgkfgjpfmaaaGreatOf
set_option linter.unusedSimpArgs false
set_option linter.unusedVariables false
namespace Go.Proofs.YtcajgkfgjpfmaaaGreat
open Go Go.RowKit Go.Inl
theorem ofGo_wf {L : Nat} : ∀ (m : Nat) (l : List Sym), (∀ s ∈ l, s.wf) → l.length ≤ 1000000 → ∀ x ∈ ofGo m l, x.wf
 | 0,l,_,_,x,hx=>by simp[ofGo]at hx
 | m+1,[],_,_,x,hx=>by simp[ofGo]at hx
 | m+1,s::r,hw,hn,x,hx=>by
   rw[ofGo]at hx;rcases uq.1 hx with rfl | hx
   · refine opS_wf ?_ (fun t ht => hw t (List.mem_of_mem_take ht)) (by rw [uT]; omega)
     have:=yD s;unfold Mid; omega
   · exact ofGo_wf (L:=L) m _ (fun t ht=>hw t (List.mem_of_mem_drop ht)) (by rw[Qj]; omega) x hx
def ofOf (n:Int)(l:List Sym):PatL:=⟨false,n,l.length,ofP l⟩
theorem ofOf_wf {n:Int}{l:List Sym}(h0:0≤n∧n≤65536)(hl:l.length≤4096)(hw:∀s∈l,s.wf):(ofOf n l).wf:=by
 refine⟨⟨by show _≤n; omega,by show n≤_; omega⟩,⟨by show _≤(l.length:Int); omega,by show(l.length:Int)≤_; omega⟩,ofGo_wf (L:=0) _ _ hw (by omega),?_⟩;have:=ofGo_len l.length l;show((ofGo l.length l).length:Int)≤_
 omega
theorem ofOf_check {n:Int}{l:List Sym}(h0:0≤n∧n≤65536)(hl:l.length≤4096)(ok:okL n l):(checkP (ofOf n l)).2=0:=by
 obtain⟨h1,h2⟩:=ofP_ok ok;have:=ofGo_len l.length l;exact jJ h0 h1 (by show((symsOf (ofP l)).length:Int)=l.length; rw[h2]) (by show(l.length:Int)≤_; omega) (by show(ofGo l.length l).length≤4096; omega)
theorem ofPP_ok {n:Int}{l:List Sym}(h0:0≤n∧n≤65536)(hl:l.length≤4096)(ok:okL n l):ofPP l n=(ofOf n l,0):=by
 unfold ofPP;have h2:l.any (strange n)=false:=by rw[List.any_eq_false]; intro s hs; rw[ok s hs]; simp
 have:=ofGo_len l.length l;rw[ud (by simp[h2]; omega),ud (by show ¬4096 < ((ofGo l.length l).length:Int); omega)];rfl
end Go.Proofs.YtcajgkfgjpfmaaaGreat
