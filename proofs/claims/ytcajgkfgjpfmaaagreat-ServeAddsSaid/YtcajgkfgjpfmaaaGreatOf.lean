/- patch.Of: what it computes. Conditions: numbers within bounds. -/
import Derived.Test.YtcajgkfgjpfmaaaGreatLeastR
set_option linter.unusedSimpArgs false
set_option linter.unusedVariables false
namespace Go.Proofs.YtcajgkfgjpfmaaaGreat
open Go Go.RowKit Go.Inl
def sameK (K f:Int)(j:Nat)(t:Sym):Bool:=decide (kindP t=K) && (decide (K=4) || decide (t.at_=f+j))
def ofLen (K f : Int) : List Sym → Nat → Nat
 | [],_=>0
 | t::r,j=>if sameK K f j t then ofLen K f r (j+1)+1 else 0
def ofGo : Nat → List Sym → List OpL
 | 0,_=>[]
 | _+1,[]=>[]
 | n+1,s::r=>opS (kindP s) ((s::r).take (ofLen (kindP s) s.at_ (s::r) 0))::ofGo n ((s::r).drop (ofLen (kindP s) s.at_ (s::r) 0))
def ofP (l:List Sym):List OpL:=ofGo l.length l
def ofPP (l:List Sym)(n:Int):PatL×Int :=
 if decide (n < 0) || decide (65536 < n) || decide (65536 < (l.length:Int)) || l.any (strange n) then (PatL.zero,60)
 else if 4096 < ((ofP l).length:Int) then (PatL.zero,2) else (⟨false,n,l.length,ofP l⟩,0)
theorem yD (s:Sym):kindP s=1∨kindP s=2∨kindP s=4:=by
 unfold kindP; repeat' split
 all_goals simp
theorem ofLen_rel {K f : Int} : ∀ (l : List Sym) (j i : Nat), i < ofLen K f l j → ∃ t, l[i]? = some t ∧ sameK K f (j + i) t = true
 | [],j,i,h=>by simp[ofLen]at h
 | t::r,j,i,h=>by
   unfold ofLen at h;split at h
   · rename_i hs
     cases i with
     | zero=>exact⟨t,rfl,hs⟩
     | succ i =>
       obtain⟨u,h1,h2⟩:=ofLen_rel (K:=K) (f:=f) r (j+1) i (by omega);exact⟨u,by simpa using h1,by rw[show j+(i+1)=j+1+i by omega]; exact h2⟩
   · omega
theorem ofLen_pos (s:Sym)(r:List Sym):1≤ofLen (kindP s) s.at_ (s::r) 0:=by
 unfold ofLen;rw[ui (by simp[sameK])]; omega
theorem kind_rel {s t:Sym}{j:Nat}(h:sameK (kindP s) s.at_ j t=true):relK (kindP s) s j t:=by
 simp only[sameK,xU,xV,xO]at h;obtain⟨h1,h2⟩:=h;unfold relK;unfold kindP at *;cases ho:s.old with
 | false =>
   simp only[ho,if_true]at h1 h2 ⊢;cases hto:t.old with
   | false=>simp
   | true=>simp[hto]at h1; split at h1 <;> omega
 | true =>
   simp only[ho,Bool.true_eq_false,if_false]at h1 h2 ⊢;cases hto:t.old with
   | false=>simp[hto]at h1; split at h1 <;> omega
   | true =>
     simp only[hto,Bool.true_eq_false,if_false]at h1;by_cases hb:s.b=0
     · simp only [hb, ne_eq, not_true_eq_false, if_false] at h1 h2 ⊢
       have:t.b=0:=by
        by_cases e:t.b=0
        · exact e
        · rw[ui e]at h1; omega
       simp[this]; omega
     · simp only [ne_eq, hb, not_false_eq_true, if_true] at h1 h2 ⊢
       simp; omega
theorem ofLen_fits (s:Sym)(r:List Sym):ofLen (kindP s) s.at_ (s::r) 0≤fitsN (kindP s) (s::r):=by
 rw[jH];intro j hj;obtain⟨t,h1,h2⟩:=ofLen_rel (s::r) 0 j hj;exact⟨t,h1,kind_rel (by simpa using h2)⟩
theorem ofGo_ok {n : Int} : ∀ (m : Nat) (l : List Sym), l.length ≤ m → okL n l → OpsOk n (ofGo m l) ∧ symsOf (ofGo m l) = l
 | 0,l,h,_=>by
   have:=Ql.1 (Nat.le_zero.1 h);subst this;exact⟨fun x hx=>by simp[ofGo]at hx,rfl⟩
 | m+1,[],_,_=>⟨fun x hx=>by simp[ofGo]at hx,rfl⟩
 | m+1,s::r,h,ok=>by
   have hp:=ofLen_pos s r;have hf:=ofLen_fits s r;obtain⟨a1,a2,a3⟩:=vV (n:=n) (k:=kindP s) (by have:=yD s; omega) (by have:=yD s; omega) hp hf ok;obtain⟨b1,b2⟩:=ofGo_ok m ((s::r).drop (ofLen (kindP s) s.at_ (s::r) 0)) (by rw[Qj]; simp at h ⊢; omega) (ok.drop _);rw[ofGo];refine⟨fun x hx=>?_,?_⟩
   · rcases uq.1 hx with rfl | hx
     · exact⟨by omega,a2⟩
     · exact b1 x hx
   · rw[ja,a3,b2,List.take_append_drop]
theorem ofP_ok {n:Int}{l:List Sym}(ok:okL n l):OpsOk n (ofP l)∧symsOf (ofP l)=l:=ofGo_ok l.length l (uV _) ok
theorem ofGo_nil (m:Nat):ofGo m []=[]:=by cases m <;> rfl
theorem ofGo_len : ∀ (m : Nat) (l : List Sym), (ofGo m l).length ≤ m
 | 0,l=>by simp[ofGo]
 | m+1,[]=>by simp[ofGo]
 | m+1,s::r=>by rw[ofGo,uP]; have:=ofGo_len m ((s::r).drop (ofLen (kindP s) s.at_ (s::r) 0)); omega
end Go.Proofs.YtcajgkfgjpfmaaaGreat
