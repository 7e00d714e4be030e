/- The table of package normal finds the least price, and the first and longest operation that has it. Conditions: symbols are right. What the cheapest list of operations is: its symbols, its rightness, its cost against every other list. Conditions: symbols are right. Equal literals are one Run or one Lit, bytes in order one Copy, with a number added one Diff. Conditions: none. -/
import Derived.Test.YtgkgihnpjgbmhaaGreatDoorKCore2
import Derived.Test.YtgkgihnpjgbmhaaGreatDoorTabB
set_option linter.unusedSimpArgs false
set_option linter.unusedVariables false
namespace Go.Inl
/-! ### Prices in order -/
def Pr.le (a b:Pr):Prop:=a.cost < b.cost∨(a.cost=b.cost∧a.ops≤b.ops)
def Pr.lt (a b:Pr):Prop:=a.cost < b.cost∨(a.cost=b.cost∧a.ops < b.ops)
theorem Pr.less_iff (a b:Pr):a.less b=true↔a.lt b:=by simp[Pr.less,Pr.lt]
theorem Pr.less_false {a b:Pr}(h:a.less b=false):b.le a:=by
 simp[Pr.less]at h; simp only[Pr.le]; omega
theorem Pr.le_refl (a:Pr):a.le a:=by simp[Pr.le]
theorem Pr.le_trans {a b c:Pr}(h:a.le b)(k:b.le c):a.le c:=by simp only[Pr.le]at *; omega
theorem Pr.lt_of_lt_of_le {a b c:Pr}(h:a.lt b)(k:b.le c):a.lt c:=by simp only[Pr.le,Pr.lt]at *; omega
theorem Pr.lt_le {a b:Pr}(h:a.lt b):a.le b:=by simp only[Pr.le,Pr.lt]at *; omega
theorem Pr.not_lt {a b:Pr}(h:a.le b)(k:b.lt a):False:=by simp only[Pr.le,Pr.lt]at *; omega
theorem Pr.plus_le {a b:Pr}{c d o:Int}(h:a.le b)(hc:c≤d):(a.plus c o).le (b.plus d o):=by simp only[Pr.le,Pr.plus]at *; omega
theorem Pr.plus_lt {a b:Pr}{c o:Int}(h:a.lt b):(a.plus c o).lt (b.plus c o):=by simp only[Pr.lt,Pr.plus]at *; omega
theorem Pr.plus_plus (a:Pr)(c o d q:Int):(a.plus c o).plus d q=a.plus (c+d) (o+q):=by simp[Pr.plus,Int.add_assoc]
/-! ### What an operation may have -/
def startK (k:Int)(s:Sym):Bool:=if k=1 then s.old && decide (s.b=0) else if k=2 then s.old else !s.old
def linkK (k:Int)(s t:Sym):Bool:=if k=1∨k=2 then goesOn s t else if k=3 then !t.old && decide (t.b=s.b) else !t.old
def fitsN (k : Int) : List Sym → Nat
 | []=>0
 | s::l=>if startK k s then (if !l.isEmpty && linkK k s (l.headD s) then 1+fitsN k l else 1) else 0
def opc (k:Int)(n:Int):Int:=if k=1 then 4 else if k=2 then 4+n else if k=3 then 4 else 2+n
def topP (l:List Sym):Pl:=(tab l).headD Pl.zero
def bestP (l:List Sym):Pr:=(topP l).best
def cand (k:Int)(l:List Sym)(n:Nat):Pr:=(bestP (l.drop n)).plus (opc k n) 1
theorem zu (k : Int) : ∀ l : List Sym, fitsN k l ≤ l.length
 | []=>uc _
 | s::l=>by
   have:=zu k l;unfold fitsN;split
   · split
     · simp; omega
     · simp
   · simp
theorem fitsN_tail {k:Int}{s:Sym}{l:List Sym}{n:Nat}(h:n+1≤fitsN k (s::l)):n≤fitsN k l:=by
 unfold fitsN at h;split at h
 · split at h <;> omega
 · omega
theorem kD {k:Int}{s:Sym}{l:List Sym}(h:startK k s=false):fitsN k (s::l)=0:=by
 unfold fitsN; simp[h]
theorem yG {k:Int}{s:Sym}{l:List Sym}(h:startK k s=true):1≤fitsN k (s::l):=by
 unfold fitsN; rw[xS h]; split <;> omega
theorem opc_mono {k:Int}{n m:Int}(h:n≤m):opc k n≤opc k m:=by
 unfold opc; repeat' split
 all_goals omega
theorem opc_pos {k:Int}{n:Int}(h:0≤n):2≤opc k n:=by
 unfold opc; repeat' split
 all_goals omega
theorem xB : ∀ (l : List Sym) (k : Nat), k ≤ l.length → (tab l).getD k Pl.zero = topP (l.drop k)
 | [],k,h=>by simp at h; subst h; rfl
 | s::l,0,_=>rfl
 | s::l,k+1,h=>by
   have:=xB l k (by simpa using h);simpa [tab] using this
theorem nthBest_tab {s:Sym}{l:List Sym}{r:Nat}(h0:1≤r)(h:r≤l.length+1):nthBest (tab l) (r:Int)=bestP ((s::l).drop r):=by
 obtain⟨q,rfl⟩:∃q,r=q+1:=⟨r - 1,by omega⟩
 unfold nthBest;rw[show((q+1:Nat) - 1:Int).toNat=q by omega,xB l q (by omega)];rfl
/-! ### Champions -/
structure Chp (k : Int) (l : List Sym) (n : Nat) : Prop where
 one:1≤n
 fit:n≤fitsN k l
 low:∀m,1≤m→m≤fitsN k l→(cand k l n).le (cand k l m)
 long:∀m,n < m→m≤fitsN k l→(cand k l n).lt (cand k l m)
structure Core (l : List Sym) (p : Pl) : Prop where
 k0:1≤p.kind
 k1:p.kind≤4
 n0:1≤p.length
 n1:p.length≤fitsN p.kind l
 att:p.best=cand p.kind l p.length.toNat
 low:∀k n,1≤k→k≤4→1≤n→n≤fitsN k l→p.best.le (cand k l n)
 first:∀k n,1≤k→k < p.kind→1≤n→n≤fitsN k l→p.best.lt (cand k l n)
 long:∀n:Nat,p.length < n→n≤fitsN p.kind l→p.best.lt (cand p.kind l n)
theorem core_one {l:List Sym}{p:Pl}{k:Int}{n:Nat}(hk:p.kind=k)(hn:p.length=n)(hb:p.best=cand k l n)(h0:1≤k)(h1:k≤4)(hc:Chp k l n)(ho:∀k',1≤k'→k'≤4→k'≠k→fitsN k' l=0):Core l p:=by
 subst hk;have hn':p.length.toNat=n:=by omega
 refine⟨h0,h1,by have:=hc.one; omega,by have:=hc.fit; omega,by rw[hn',hb],?_,?_,?_⟩
 · intro k m h2 h3 h4 h5
   by_cases e:k=p.kind
   · subst e; rw[hb]; exact hc.low m h4 h5
   · rw[ho k h2 h3 e]at h5; omega
 · intro k m h2 h3 h4 h5
   rw[ho k h2 (by omega) (by omega)]at h5; omega
 · intro m h2 h3
   rw[hb]; exact hc.long m (by omega) h3
theorem core_two {l : List Sym} {p : Pl} {a b : Int} {n m : Nat} (hab : a < b) (h0 : 1 ≤ a) (h1 : b ≤ 4) (ha : Chp a l n) (hb : Chp b l m) (ho : ∀ k', 1 ≤ k' → k' ≤ 4 → k' ≠ a → k' ≠ b → fitsN k' l = 0)
 (hp:if (cand b l m).less (cand a l n) then p.kind=b∧p.length=m∧p.best=cand b l m else p.kind=a∧p.length=n∧p.best=cand a l n):Core l p:=by
 split at hp
 · rename_i hl
   obtain⟨e1,e2,e3⟩:=hp;have hlt:=(Pr.less_iff _ _).1 hl;subst e1;refine⟨by omega,h1,by have:=hb.one; omega,by have:=hb.fit; omega,by rw[e3]; congr 1; omega,?_,?_,?_⟩
   · intro k q h2 h3 h4 h5
     rw[e3];by_cases e:k=p.kind
     · subst e; exact hb.low q h4 h5
     · by_cases e' : k = a
       · subst e'; exact Pr.le_trans (Pr.lt_le hlt) (ha.low q h4 h5)
       · rw[ho k h2 h3 e' e]at h5; omega
   · intro k q h2 h3 h4 h5
     rw[e3];by_cases e':k=a
     · subst e'; exact Pr.lt_of_lt_of_le hlt (ha.low q h4 h5)
     · rw[ho k h2 (by omega) e' (by omega)]at h5; omega
   · intro q h2 h3
     rw[e3]; exact hb.long q (by omega) h3
 · rename_i hl
   obtain⟨e1,e2,e3⟩:=hp;have hle:=Pr.less_false (by simpa using hl);subst e1;refine⟨h0,by omega,by have:=ha.one; omega,by have:=ha.fit; omega,by rw[e3]; congr 1; omega,?_,?_,?_⟩
   · intro k q h2 h3 h4 h5
     rw[e3];by_cases e:k=p.kind
     · subst e; exact ha.low q h4 h5
     · by_cases e' : k = b
       · subst e'; exact Pr.le_trans hle (hb.low q h4 h5)
       · rw[ho k h2 h3 e e']at h5; omega
   · intro k q h2 h3 h4 h5
     rw[ho k h2 (by omega) (by omega) (by omega)]at h5; omega
   · intro q h2 h3
     rw[e3]; exact ha.long q (by omega) h3
structure Opn (k : Int) (l : List Sym) (q : Pr) (n : Int) : Prop where
 one:1≤n
 fit:n≤fitsN k l
 eq:q=(bestP (l.drop n.toNat)).plus n 0
 low:∀m:Nat,1≤m→m≤fitsN k l→q.le ((bestP (l.drop m)).plus m 0)
 long:∀m:Nat,n < m→m≤fitsN k l→q.lt ((bestP (l.drop m)).plus m 0)
theorem Opn.chp {k:Int}{l:List Sym}{q:Pr}{n:Int}{c:Int}(h:Opn k l q n)(hc:∀m:Int,opc k m=m+c):Chp k l n.toNat∧cand k l n.toNat=q.plus c 1:=by
 have hn:=h.one;have e:∀m:Nat,cand k l m=((bestP (l.drop m)).plus m 0).plus c 1:=fun m=>by
  unfold cand; rw[Pr.plus_plus,hc]; simp
 have e0:cand k l n.toNat=q.plus c 1:=by rw[e,h.eq,show(n.toNat:Int)=n by omega]
 refine⟨⟨by omega,by have:=h.fit; omega,fun m h1 h2=>?_,fun m h1 h2=>?_⟩,e0⟩
 · rw[e0,e]; exact Pr.plus_le (h.low m h1 h2) (Int.le_refl _)
 · rw[e0,e]; exact Pr.plus_lt (h.long m (by omega) h2)
theorem opn_step {k : Int} {s : Sym} {l : List Sym} {more : Pr} {n : Int} (hs : startK k s = true) (hm : (!l.isEmpty && linkK k s (l.headD s)) = true → Opn k l more n) :
 Opn k (s::l) (openS (topP l) more n (!l.isEmpty && linkK k s (l.headD s))).1 (openS (topP l) more n (!l.isEmpty && linkK k s (l.headD s))).2:=by
 have hf:fitsN k (s::l)=if (!l.isEmpty && linkK k s (l.headD s)) then 1+fitsN k l else 1:=by
  conv=>lhs; unfold fitsN
  rw[xS hs]
 generalize hon:(!l.isEmpty && linkK k s (l.headD s))=on at *
 have hb:(topP l).best=bestP l:=rfl;cases on with
 | false =>
   simp only[Bool.false_eq_true,if_false]at hf;unfold openS;simp only[Bool.false_and,Bool.false_eq_true,if_false,hb];refine⟨by omega,by omega,rfl,fun m h1 h2=>?_,fun m h1 h2=>by omega⟩;obtain rfl:m=1:=by omega
   exact Pr.le_refl _
 | true =>
   have hm:=hm rfl;simp only[if_true]at hf;unfold openS;have h1:=hm.one;have h2:=hm.fit;have key:∀m:Nat,1≤m→m≤fitsN k l→(more.plus 1 0).le ((bestP ((s::l).drop (m+1))).plus (m+1:Nat) 0):=fun m a b=>by
    have:=hm.low m a b;simp only[List.drop_succ_cons,Pr.le,Pr.plus]at this ⊢; omega
   cases hl:((topP l).best.plus 1 0).less (more.plus 1 0) with
   | true =>
     simp only[Bool.true_and,Bool.not_true,Bool.false_eq_true,if_false,hb];have hlt:=(Pr.less_iff _ _).1 hl;rw[hb]at hlt;refine⟨by omega,by omega,rfl,fun m a b=>?_,fun m a b=>?_⟩
     · by_cases e : m = 1
       · subst e; exact Pr.le_refl _
       · obtain ⟨q, rfl⟩ : ∃ q, m = q + 1 := ⟨m - 1, by omega⟩
         exact Pr.le_trans (Pr.lt_le hlt) (key q (by omega) (by omega))
     · obtain ⟨q, rfl⟩ : ∃ q, m = q + 1 := ⟨m - 1, by omega⟩
       exact Pr.lt_of_lt_of_le hlt (key q (by omega) (by omega))
   | false =>
     simp only[Bool.true_and,Bool.not_false,if_true];have hle:=Pr.less_false hl;rw[hb]at hle;refine⟨by omega,by omega,?_,fun m a b=>?_,fun m a b=>?_⟩
     · rw[hm.eq,Pr.plus_plus,show(n+1).toNat=n.toNat+1 by omega,List.drop_succ_cons]; rfl
     · by_cases e : m = 1
       · subst e; exact hle
       · obtain ⟨q, rfl⟩ : ∃ q, m = q + 1 := ⟨m - 1, by omega⟩
         exact key q (by omega) (by omega)
     · obtain ⟨q, rfl⟩ : ∃ q, m = q + 1 := ⟨m - 1, by omega⟩
       have:=hm.long q (by omega) (by omega);simp only[List.drop_succ_cons,Pr.lt,Pr.plus]at this ⊢; omega
/-! ### The table -/
structure Ent (s : Sym) (l : List Sym) (p : Pl) : Prop where
 core:Core (s::l) p
 run1:p.copyRun=fitsN 1 (s::l)
 run3:p.equalRun=fitsN 3 (s::l)
 dif:s.old=true→Opn 2 (s::l) p.diff p.diffLen
 lit:s.old=false→Opn 4 (s::l) p.lit p.litLen
def Gd : List Sym → Prop
 | []=>True
 | s::l=>Ent s l (topP (s::l))∧Gd l
theorem Gd.drop : ∀ {l : List Sym} (n : Nat), Gd l → Gd (l.drop n)
 | [],n,h=>by simpa using h
 | s::l,0,h=>h
 | s::l,n+1,h=>Gd.drop n h.2
theorem Gd.core {l:List Sym}(h:Gd l)(hl:l≠[]):Core l (topP l):=by
 cases l with
 | nil=>exact absurd rfl hl
 | cons s l=>exact h.1.core
theorem Gd.tail_le {s:Sym}{l:List Sym}(h:Gd (s::l)):(bestP l).le (bestP (s::l)):=by
 have hc:=h.1.core;have e:bestP (s::l)=cand (topP (s::l)).kind (s::l) (topP (s::l)).length.toNat:=hc.att;obtain⟨n,hn⟩:∃n,(topP (s::l)).length.toNat=n+1:=⟨(topP (s::l)).length.toNat - 1,by have:=hc.n0; omega⟩
 rw[e,hn];unfold cand;rw[List.drop_succ_cons];have h0:∀m:Int,0≤m→0≤opc (topP (s::l)).kind m:=fun m hm=>by have:=opc_pos (k:=(topP (s::l)).kind) hm; omega
 by_cases hz:n=0
 · subst hz
   have:=h0 ((0+1:Nat):Int) (by omega);simp only[List.drop_zero,Pr.le,Pr.plus]; omega
 · have hf : n ≤ fitsN (topP (s :: l)).kind l := fitsN_tail (s := s) (by have := hc.n1; omega)
   have hl:l≠[]:=by
    intro e; subst e
    have:=zu (topP [s]).kind [];simp at this; omega
   have:=(h.2.core hl).low _ n hc.k0 hc.k1 (by omega) hf;refine Pr.le_trans this ?_;unfold cand;exact Pr.plus_le (Pr.le_refl _) (opc_mono (by omega))
theorem Gd.mono {l : List Sym} (h : Gd l) (n : Nat) : ∀ m : Nat, (bestP (l.drop (n + m))).le (bestP (l.drop n))
 | 0=>Pr.le_refl _
 | m+1=>by
   refine Pr.le_trans ?_ (h.mono n m);by_cases hm:n+m < l.length
   · have h1 := h.drop (n + m)
     rw[List.drop_eq_getElem_cons hm]at h1 ⊢;have:=h1.tail_le;rwa [show n+(m+1)=n+m+1 by omega]
   · rw[QV (by omega),QV (by omega)]; exact Pr.le_refl _
theorem chp_flat {k:Int}{s:Sym}{l:List Sym}(h:Gd l)(hc:∀n m:Int,opc k n=opc k m)(hs:startK k s=true):Chp k (s::l) (fitsN k (s::l)):=by
 refine⟨yG hs,uc _,fun m h1 h2=>?_,fun m h1 h2=>by omega⟩;obtain⟨q,rfl⟩:∃q,m=q+1:=⟨m - 1,by omega⟩
 obtain⟨r,hr⟩:∃r,fitsN k (s::l)=(q+r)+1:=⟨fitsN k (s::l) - q - 1,by omega⟩
 rw[hr];unfold cand;rw[hc ((q+r+1:Nat):Int) ((q+1:Nat):Int),List.drop_succ_cons,List.drop_succ_cons];exact Pr.plus_le (h.mono q r) (Int.le_refl _)
theorem kH {l:List Sym}(h:l.isEmpty=false)(s:Sym):∃t r,l=t::r∧l.headD s=t:=by
 cases l with
 | nil=>cases h
 | cons t r=>exact⟨t,r,rfl,rfl⟩
theorem fit_other {s:Sym}{l:List Sym}{k:Int}(h0:1≤k)(h1:k≤4):(s.old=true→(k=3∨k=4)→fitsN k (s::l)=0)∧(s.old=false→(k=1∨k=2)→fitsN k (s::l)=0):=by
 refine⟨fun ho hk=>kD ?_,fun ho hk=>kD ?_⟩ <;> unfold startK <;> rcases hk with rfl | rfl <;> simp[ho]
theorem tab_ent (s:Sym)(l:List Sym)(h:Gd l)(hr:∀t∈s::l,t.old=false→t.at_=0):Ent s l (topP (s::l)):=by
 have htop:topP (s::l)=mkPl s (l.headD s) l.isEmpty (tab l):=rfl;have hrun1:(runsS s (l.headD s) (topP l) l.isEmpty).1=fitsN 1 (s::l):=by
  unfold runsS fitsN startK linkK;simp only[if_true,true_or];by_cases h1:(s.old && decide (s.b=0))=true
  · rw [xS h1, xS h1]
    cases he:l.isEmpty with
    | true=>simp
    | false =>
      obtain⟨t,r,rfl,hh⟩:=kH he s;rw[hh];by_cases h2:goesOn s t=true
      · simp only[h2]; simp; exact h.1.run1
      · simp[h2]
  · rw[xP h1,xP h1]; rfl
 have hrun3:(runsS s (l.headD s) (topP l) l.isEmpty).2=fitsN 3 (s::l):=by
  unfold runsS fitsN startK linkK;simp only[show ¬((3:Int)=1) by decide,show ¬((3:Int)=2) by decide,if_false,if_true];by_cases h1:(!s.old)=true
  · rw [xS h1, xS h1]
    cases he:l.isEmpty with
    | true=>simp
    | false =>
      obtain⟨t,r,rfl,hh⟩:=kH he s;rw[hh];have hso:s.old=false:=by simpa using h1
      have heq:symEq s t=(!t.old && decide (t.b=s.b)):=by
       unfold symEq;rw[hso];cases hto:t.old with
       | true=>simp
       | false =>
         have a1:=hr s (by simp) hso;have a2:=hr t (by simp) hto;simp[a1,a2,eq_comm]
      rw[heq];by_cases h2:(!t.old && decide (t.b=s.b))=true
      · simp only[h2]; simp; exact h.1.run3
      · simp only[Bool.not_eq_true]at h2; simp only[h2]; simp
  · rw[xP h1,xP h1]; rfl
 have hrest:(tab l).headD Pl.zero=topP l:=rfl;have hlen1:=zu 1 (s::l);have hlen3:=zu 3 (s::l);simp only[List.length_cons]at hlen1 hlen3;cases ho:s.old with
 | true =>
   have hon:(!l.isEmpty && goesOn s (l.headD s))=(!l.isEmpty && linkK 2 s (l.headD s)):=by simp[linkK]
   have hopn:Opn 2 (s::l) (openS (topP l) (topP l).diff (topP l).diffLen (!l.isEmpty && linkK 2 s (l.headD s))).1 (openS (topP l) (topP l).diff (topP l).diffLen (!l.isEmpty && linkK 2 s (l.headD s))).2:=by
    refine opn_step (by simp[startK,ho]) fun hh=>?_
    simp only[uC,uS]at hh;obtain⟨t,r,rfl,ht⟩:=kH hh.1 s;have:goesOn s t=true:=by simpa [linkK,ht] using hh.2
    exact h.1.dif (by simp[goesOn]at this; exact this.1.2)
   obtain⟨hch,hcd⟩:=hopn.chp (c:=4) (fun m=>by simp[opc]; omega);rw[htop,mkPl_t ho hrest rfl,hon];generalize openS (topP l) (topP l).diff (topP l).diffLen (!l.isEmpty && linkK 2 s (l.headD s))=o at *
   have hoth:∀k',1≤k'→k'≤4→k'≠1→k'≠2→fitsN k' (s::l)=0:=fun k' a b c d=>(fit_other a b).1 ho (by omega)
   by_cases hf:startK 1 s=true
   · have hf1 := yG (l := l) hf
     have hp1:pl1 s (l.headD s) (topP l) l.isEmpty (tab l)={ Pl.zero with copyRun:=fitsN 1 (s::l),equalRun:=fitsN 3 (s::l),kind:=1,length:=fitsN 1 (s::l),best:=cand 1 (s::l) (fitsN 1 (s::l)) }:=by
      unfold pl1;rw[hrun1,hrun3,xS (by omega),nthBest_tab (s:=s) hf1 (by omega)];unfold tryS;rw[xS (by simp[Pl.zero])];rfl
     rw[hp1];have hkz:((1:Int)=0)=False:=by simp
     have hcore:∀p:Pl,(if (cand 2 (s::l) o.2.toNat).less (cand 1 (s::l) (fitsN 1 (s::l))) then p.kind=2∧p.length=o.2.toNat∧p.best=cand 2 (s::l) o.2.toNat else p.kind=1∧p.length=fitsN 1 (s::l)∧p.best=cand 1 (s::l) (fitsN 1 (s::l)))→Core (s::l) p :=
      fun p hp=>core_two (by decide) (by decide) (by decide) (chp_flat h (fun _ _=>by simp[opc]) hf) hch hoth hp
     have h1:=hopn.one;rw[← hcd];unfold tryS;simp only[hkz,decide_false,Bool.false_or];cases hl:(cand 2 (s::l) o.2.toNat).less (cand 1 (s::l) (fitsN 1 (s::l))) with
     | true =>
       rw[xS (by simp)];refine⟨hcore _ (by rw[xS hl]; exact⟨rfl,by dsimp only; omega,rfl⟩),rfl,rfl,fun _=>hopn,fun e=>by rw[ho]at e; cases e⟩
     | false =>
       rw[xP (by simp)];refine⟨hcore _ (by rw[xP (by simp[hl])]; exact⟨rfl,rfl,rfl⟩),rfl,rfl,fun _=>hopn,fun e=>by rw[ho]at e; cases e⟩
   · have hf' : startK 1 s = false := by simpa using hf
     have hf0:fitsN 1 (s::l)=0:=kD hf';have hp1:pl1 s (l.headD s) (topP l) l.isEmpty (tab l)={ Pl.zero with copyRun:=fitsN 1 (s::l),equalRun:=fitsN 3 (s::l) }:=by
      unfold pl1;rw[hrun1,hrun3,xP (by omega)]
     rw[hp1,← hcd];unfold tryS;rw[xS (by simp[Pl.zero])];have h1:=hopn.one;refine⟨core_one (k:=2) rfl (n:=o.2.toNat) (by dsimp only; omega) rfl (by decide) (by decide) hch ?_,rfl,rfl,fun _=>hopn,fun e=>by rw[ho]at e; cases e⟩;intro k' a b c;by_cases e:k'=1
     · subst e; exact hf0
     · exact hoth k' a b e c
 | false =>
   have hon:(!l.isEmpty && !(l.headD s).old)=(!l.isEmpty && linkK 4 s (l.headD s)):=by simp[linkK]
   have hopn:Opn 4 (s::l) (openS (topP l) (topP l).lit (topP l).litLen (!l.isEmpty && linkK 4 s (l.headD s))).1 (openS (topP l) (topP l).lit (topP l).litLen (!l.isEmpty && linkK 4 s (l.headD s))).2:=by
    refine opn_step (by simp[startK,ho]) fun hh=>?_
    simp only[uC,uS]at hh;obtain⟨t,r,rfl,ht⟩:=kH hh.1 s;have:t.old=false:=by simpa [linkK,ht] using hh.2
    exact h.1.lit this
   obtain⟨hch,hcd⟩:=hopn.chp (c:=2) (fun m=>by simp[opc]; omega);have hf0:fitsN 1 (s::l)=0:=kD (by simp[startK,ho]);have hf3:startK 3 s=true:=by simp[startK,ho]
   have hf3':=yG (l:=l) hf3;have hp1:pl1 s (l.headD s) (topP l) l.isEmpty (tab l)={ Pl.zero with copyRun:=fitsN 1 (s::l),equalRun:=fitsN 3 (s::l) }:=by
    unfold pl1;rw[hrun1,hrun3,xP (by omega)]
   rw[htop,mkPl_f ho hrest rfl rfl,hon,hp1];generalize openS (topP l) (topP l).lit (topP l).litLen (!l.isEmpty && linkK 4 s (l.headD s))=o at *
   have hoth:∀k',1≤k'→k'≤4→k'≠3→k'≠4→fitsN k' (s::l)=0:=fun k' a b c d=>(fit_other a b).2 ho (by omega)
   have hkz:((3:Int)=0)=False:=by simp
   have hcore:∀p:Pl,(if (cand 4 (s::l) o.2.toNat).less (cand 3 (s::l) (fitsN 3 (s::l))) then p.kind=4∧p.length=o.2.toNat∧p.best=cand 4 (s::l) o.2.toNat else p.kind=3∧p.length=fitsN 3 (s::l)∧p.best=cand 3 (s::l) (fitsN 3 (s::l)))→Core (s::l) p :=
    fun p hp=>core_two (by decide) (by decide) (by decide) (chp_flat h (fun _ _=>by simp[opc]) hf3) hch hoth hp
   have h1:=hopn.one;have htry : tryS { Pl.zero with copyRun := fitsN 1 (s :: l), equalRun := fitsN 3 (s :: l) } 3 (fitsN 3 (s :: l)) ((nthBest (tab l) (fitsN 3 (s :: l))).plus 4 1) =
    { Pl.zero with copyRun:=fitsN 1 (s::l),equalRun:=fitsN 3 (s::l),kind:=3,length:=fitsN 3 (s::l),best:=cand 3 (s::l) (fitsN 3 (s::l)) }:=by
    rw[nthBest_tab (s:=s) hf3' (by omega)];unfold tryS;rw[xS (by simp[Pl.zero])];rfl
   rw[htry,← hcd];unfold tryS;simp only[hkz,decide_false,Bool.false_or];cases hl:(cand 4 (s::l) o.2.toNat).less (cand 3 (s::l) (fitsN 3 (s::l))) with
   | true =>
     rw[xS (by simp)];refine⟨hcore _ (by rw[xS hl]; exact⟨rfl,by dsimp only; omega,rfl⟩),rfl,rfl,(fun e=>by rw[ho]at e; cases e),fun _=>hopn⟩
   | false =>
     rw[xP (by simp)];refine⟨hcore _ (by rw[xP (by simp[hl])]; exact⟨rfl,rfl,rfl⟩),rfl,rfl,(fun e=>by rw[ho]at e; cases e),fun _=>hopn⟩
theorem tab_gd : ∀ (l : List Sym), (∀ t ∈ l, t.old = false → t.at_ = 0) → Gd l
 | [],_=>trivial
 | s::l,hr=>by
   have h:=tab_gd l fun t ht=>hr t (by simp[ht])
   exact⟨tab_ent s l h hr,h⟩
end Go.Inl
namespace Go.Inl
/-! ### Which symbols an operation may have, one by one -/
def relK (k:Int)(s:Sym)(j:Nat)(t:Sym):Prop :=
 if k=1 then s.old=true∧t.old=true∧t.at_=s.at_+j∧t.b=0
 else if k=2 then s.old=true∧t.old=true∧t.at_=s.at_+j
 else if k=3 then s.old=false∧t.old=false∧t.b=s.b
 else t.old=false
theorem rel_start {k:Int}{s:Sym}:startK k s=true↔relK k s 0 s:=by
 unfold startK relK;by_cases h1:k=1
 · subst h1; simp
 · by_cases h2 : k = 2
   · subst h2; simp
   · by_cases h3 : k = 3
     · subst h3; simp
     · simp[h1,h2,h3]
theorem rel_link {k:Int}{s t:Sym}(h:relK k s 1 t):linkK k s t=true:=by
 unfold relK at h; unfold linkK goesOn
 by_cases h1:k=1
 · subst h1; simp at h ⊢; exact⟨⟨h.1,h.2.1⟩,h.2.2.1⟩
 · by_cases h2 : k = 2
   · subst h2; simp at h ⊢; exact⟨⟨h.1,h.2.1⟩,h.2.2⟩
   · by_cases h3 : k = 3
     · subst h3; simp at h ⊢; exact⟨h.2.1,h.2.2⟩
     · simp[h1,h2,h3]at h ⊢; exact h
theorem rel_step {k:Int}{s t u:Sym}{j:Nat}(hs:startK k s=true)(hl:linkK k s t=true)(h:relK k t j u):relK k s (j+1) u:=by
 unfold relK at h ⊢; unfold linkK goesOn at hl; unfold startK at hs
 by_cases h1:k=1
 · subst h1; simp at h hl hs ⊢; exact⟨hs.1,h.2.1,by omega,h.2.2.2⟩
 · by_cases h2 : k = 2
   · subst h2; simp at h hl hs ⊢; exact⟨hs,h.2.1,by omega⟩
   · by_cases h3 : k = 3
     · subst h3; simp at h hl hs ⊢; exact⟨hs,h.2.1,by omega⟩
     · simp[h1,h2,h3]at h ⊢; exact h
theorem rel_back {k:Int}{s t u:Sym}{j:Nat}(ht:relK k s 1 t)(h:relK k s (j+1) u):relK k t j u:=by
 unfold relK at h ht ⊢;by_cases h1:k=1
 · subst h1; simp at h ht ⊢; exact⟨ht.2.1,h.2.1,by omega,h.2.2.2⟩
 · by_cases h2 : k = 2
   · subst h2; simp at h ht ⊢; exact⟨ht.2.1,h.2.1,by omega⟩
   · by_cases h3 : k = 3
     · subst h3; simp at h ht ⊢; exact⟨ht.2.1,h.2.1,by omega⟩
     · simp[h1,h2,h3]at h ⊢; exact h
theorem vy {k : Int} : ∀ (l : List Sym) (s : Sym) (n : Nat), n ≤ fitsN k (s :: l) ↔ ∀ j < n, ∃ t, (s :: l)[j]? = some t ∧ relK k s j t
 | l,s,0=>by simp
 | l,s,n+1=>by
   constructor
   · intro h
     have hs:startK k s=true:=by
      cases hs:startK k s with
      | true=>rfl
      | false=>rw[kD hs]at h; omega
     intro j hj;cases j with
     | zero=>exact⟨s,rfl,rel_start.1 hs⟩
     | succ j =>
       unfold fitsN at h;rw[xS hs]at h;split at h
       · rename_i hl
         simp only[uC,uS]at hl;cases l with
         | nil=>cases hl.1
         | cons t r =>
           obtain⟨u,h1,h2⟩:=(vy (k:=k) r t n).1 (by omega) j (by omega);exact⟨u,by simpa using h1,rel_step hs hl.2 h2⟩
       · omega
   · intro h
     have hs:startK k s=true:=by
      obtain⟨t,h1,h2⟩:=h 0 (by omega);simp at h1; subst h1
      exact rel_start.2 h2
     by_cases hn:n=0
     · subst hn; exact yG hs
     · obtain ⟨t, h1, h2⟩ := h 1 (by omega)
       cases l with
       | nil=>simp at h1
       | cons t' r =>
         simp at h1; subst h1
         have ih:=(vy r t' n).2 fun j hj=>by
          obtain⟨u,k1,k2⟩:=h (j+1) (by omega);exact⟨u,by simpa using k1,rel_back h2 k2⟩
         unfold fitsN;rw[xS hs,xS (by simp[rel_link h2])];omega
/-! ### Lists of operations by their cost -/
inductive Seg : List Sym → Int → Prop where
 | nil:Seg [] 0
 | cons {k:Int} {l:List Sym} {n:Nat} {c:Int}:1≤k→k≤4→1≤n→n≤fitsN k l→Seg (l.drop n) c→Seg l (opc k n+c)
/-! ### The list that is made -/
def okL (n:Int)(l:List Sym):Prop:=∀s∈l,strange n s=false
theorem okL.at0 {n:Int}{l:List Sym}(h:okL n l):∀t∈l,t.old=false→t.at_=0:=fun t ht ho=>by
 have:=h t ht;simpa [strange,ho] using this
theorem okL.in {n:Int}{l:List Sym}(h:okL n l):∀t∈l,t.old=true→0≤t.at_∧t.at_ < n:=fun t ht ho=>by
 have:=h t ht;simpa [strange,ho] using this
theorem okL.drop {n:Int}{l:List Sym}(h:okL n l)(k:Nat):okL n (l.drop k):=fun s hs=>h s (List.mem_of_mem_drop hs)
theorem okL.take {n:Int}{l:List Sym}(h:okL n l)(k:Nat):okL n (l.take k):=fun s hs=>h s (List.mem_of_mem_take hs)
theorem okL.gd {n:Int}{l:List Sym}(h:okL n l):Gd l:=tab_gd l h.at0
theorem opS_right {k n : Int} {l : List Sym} {m : Nat} (hk0 : 1 ≤ k) (hk1 : k ≤ 4) (h0 : 1 ≤ m) (h : m ≤ fitsN k l) (ok : okL n l) :
 (opS k (l.take m)).len=m∧rightP (opS k (l.take m)) n=true∧symsOp (opS k (l.take m))=l.take m:=by
 have hle:=zu k l;have hlen:(l.take m).length=m:=by rw[uo]; omega
 cases l with
 | nil=>simp at hle; omega
 | cons s r =>
   have hf:=(vy r s m).1 h;have hhd:((s::r).take m).headD ⟨false,0,0⟩=s:=by
    cases m with
    | zero=>omega
    | succ m=>rfl
   have hkk:(opS k ((s::r).take m)).kind=k:=rfl;have hfr:(opS k ((s::r).take m)).from_=if k=1∨k=2 then s.at_ else 0:=by
    show(if k=1∨k=2 then (((s::r).take m).headD ⟨false,0,0⟩).at_ else 0)=_
    rw[hhd]
   have hbb:(opS k ((s::r).take m)).b=if k=3 then s.b else 0:=by
    show(if k=3 then (((s::r).take m).headD ⟨false,0,0⟩).b else 0)=_
    rw[hhd]
   have hda:(opS k ((s::r).take m)).data=if k=2∨k=4 then ((s::r).take m).map (·.b) else []:=rfl
   have hdl:(((s::r).take m).map (·.b)).length=m:=by rw[Qb,hlen]
   have hl:(opS k ((s::r).take m)).len=m:=by show(((s::r).take m).length:Int)=m; rw[hlen]
   refine⟨hl,?_,?_⟩
   · unfold rightP
     rw[hkk,hl];by_cases h1:k=1
     · subst h1
       obtain⟨t,a1,a2⟩:=hf (m - 1) (by omega);have hin:=ok.in t (xR a1);have hs0:=ok.in s (by simp);simp[relK]at a2
       have e1:=hin a2.2.1;have e2:=hs0 a2.1;unfold insideP;rw[hl,hfr,hbb,hda];simp; omega
     · by_cases h2 : k = 2
       · subst h2
         obtain⟨t,a1,a2⟩:=hf (m - 1) (by omega);have hin:=ok.in t (xR a1);have hs0:=ok.in s (by simp);simp[relK]at a2
         have e1:=hin a2.2.1;have e2:=hs0 a2.1;unfold insideP;rw[hl,hfr,hbb,hda];simp only[or_true,true_or,if_true,hdl];simp; omega
       · by_cases h3 : k = 3
         · subst h3; rw[hfr,hda]; simp
         · obtain rfl : k = 4 := by omega
           rw[hfr,hbb,hda];simp only[or_true,if_true,hdl];simp
   · apply List.ext_getElem?
     intro j;unfold symsOp;rw[hl];by_cases hj:j < m
     · obtain ⟨t, a1, a2⟩ := hf j hj
       have hin:=ok.at0 t (xR a1);have hg:((s::r).take m)[j]? = some t:=by rw[List.getElem?_take,xS hj]; exact a1
       have hd:(((s::r).take m).map (·.b)).getD j 0=t.b:=by rw[xT,uW,hg]; rfl
       rw[hg,uW,List.getElem?_range (by omega)];simp only[Option.map_some,Option.some.injEq];unfold symS;rw[hkk];obtain⟨to,ta,tb⟩:=t;by_cases h1:k=1
       · subst h1; simp[relK]at a2; rw[hfr]; simp[a2]
       · by_cases h2 : k = 2
         · subst h2; simp [relK] at a2
           simp only[show ¬((2:Int)=1) by decide,if_false,if_true];rw[hfr,hda];simp only[Int.toNat_natCast,or_true,if_true,true_or];rw[hd]; simp[a2]
         · by_cases h3 : k = 3
           · subst h3; simp[relK]at a2; have:=hin a2.2.1; rw[hbb]; simp[a2]; exact this.symm
           · obtain rfl : k = 4 := by omega
             simp[relK]at a2
             simp only[show ¬((4:Int)=1) by decide,show ¬((4:Int)=2) by decide,show ¬((4:Int)=3) by decide,if_false,if_true];rw[hda];simp only[Int.toNat_natCast,or_true,if_true];rw[hd]; have:=hin a2; simp[a2]; exact this.symm
     · rw[List.getElem?_eq_none (by simp; omega),List.getElem?_eq_none (by omega)]
def sumC : List OpL → Int
 | []=>0
 | x::l=>opc x.kind x.len+sumC l
def OpsOk (n:Int)(ops:List OpL):Prop:=∀x∈ops,1≤x.len∧rightP x n=true
theorem yP {x:OpL}{n:Int}(h:rightP x n=true):1≤x.kind∧x.kind≤4:=by
 unfold rightP at h;split at h
 · omega
 · split at h
   · omega
   · split at h
     · omega
     · split at h
       · omega
       · cases h
theorem opsT_spec {n : Int} {l : List Sym} (ok : okL n l) : ∀ (f i : Nat), i ≤ l.length → l.length - i < f →
 symsOf (opsT (tab l) l f i)=l.drop i∧OpsOk n (opsT (tab l) l f i)∧sumC (opsT (tab l) l f i)=(bestP (l.drop i)).cost∧((opsT (tab l) l f i).length:Int)=(bestP (l.drop i)).ops
 | 0,i,h0,h1=>by omega
 | f+1,i,h0,h1=>by
   by_cases hi:i < l.length
   · have ht:(tab l)[i]? = some (topP (l.drop i)):=by
      have h2:=xB l i h0;have h3:i < (tab l).length:=by rw[jW]; omega
      rw[xT,xI h3]at h2;rw[xI h3,← h2]; rfl
     have hne:l.drop i≠[]:=by rw[Ne,List.drop_eq_nil_iff]; omega
     have hc:=(ok.gd.drop i).core hne;have n0:=hc.n0;have n1:=hc.n1;have hle:=zu (topP (l.drop i)).kind (l.drop i);rw[Qj]at hle;rw[vL hi ht];generalize hp:topP (l.drop i)=p at *
     obtain⟨q,hq⟩:∃q:Nat,p.length=q:=⟨p.length.toNat,by omega⟩
     rw[hq]at n0 n1 ⊢;simp only[Int.toNat_natCast];have hseg:(l.take (i+q)).drop i=(l.drop i).take q:=by rw[List.drop_take]; congr 1; omega
     rw[hseg];obtain⟨r1,r2,r3⟩:=opS_right (n:=n) hc.k0 hc.k1 (m:=q) (by omega) (by omega) (ok.drop i);obtain⟨s1,s2,s3,s4⟩:=opsT_spec ok f (i+q) (by omega) (by omega);have hat:bestP (l.drop i)=(bestP (l.drop (i+q))).plus (opc p.kind q) 1:=by
      have:=hc.att;rw[hq]at this;unfold bestP;rw[hp,this];unfold cand;rw[List.drop_drop];rfl
     refine⟨?_,?_,?_,?_⟩
     · rw[jC,r3,s1,← List.drop_drop,List.take_append_drop]
     · intro x hx
       rcases xV.1 hx with rfl | hx
       · exact⟨by omega,r2⟩
       · exact s2 x hx
     · rw [hat]
       simp only[sumC,s3,r1,Pr.plus];show opc p.kind _+_=_
       omega
     · rw [hat]
       simp only[List.length_cons,Pr.plus]; omega
   · rw [vm hi, QV (by omega)]
     exact⟨rfl,fun x hx=>by simp at hx,rfl,rfl⟩
def optL (l:List Sym):List OpL:=opsT (tab l) l (l.length+1) 0
theorem yA {n:Int}{l:List Sym}(ok:okL n l):symsOf (optL l)=l∧OpsOk n (optL l)∧sumC (optL l)=(bestP l).cost∧((optL l).length:Int)=(bestP l).ops:=by
 have:=opsT_spec ok (l.length+1) 0 (by omega) (by omega);simpa [optL] using this
theorem ops_len_le {n : Int} : ∀ (ops : List OpL), OpsOk n ops → ops.length ≤ (symsOf ops).length
 | [],_=>by simp
 | x::l,h=>by
   have h1:=ops_len_le l fun y hy=>h y (by simp[hy])
   have h2:=(h x (by simp)).1;rw[jC,xN,jm,List.length_cons]; omega
theorem best_ops_le {n:Int}{l:List Sym}(ok:okL n l):(bestP l).ops≤l.length:=by
 obtain⟨h1,h2,_,h4⟩:=yA ok;have:=ops_len_le _ h2;rw[h1]at this; omega
/-! ### Any right list of operations -/
theorem op_ok {n:Int}{x:OpL}(h1:1≤x.len)(h2:rightP x n=true):okL n (symsOp x)∧(x.len.toNat:Int)=x.len∧∀r,x.len.toNat≤fitsN x.kind (symsOp x++r):=by
 have hlen:=jm x;have hget:∀j,j < x.len.toNat→(symsOp x)[j]? = some (symS x (j:Int)):=fun j hj=>by
  unfold symsOp; rw[uW,List.getElem?_range hj]; rfl
 refine⟨?_,by omega,fun r=>?_⟩
 · intro s hs
   obtain⟨j,hj,rfl⟩:=List.getElem_of_mem hs;rw[hlen]at hj;have e:=hget j hj;have e':(symsOp x)[j]'(by omega)=symS x (j:Int):=by
    have:=xI (l:=symsOp x) (i:=j) (by omega);rw[e]at this; exact(Option.some.inj this).symm
   rw[e'];unfold rightP insideP at h2;unfold symS;split at h2
   · rename_i hk; rw[xS hk]; simp only[uC,ua]at h2; simp[strange]; omega
   · rename_i hk; rw [xP hk]
     split at h2
     · rename_i hk; rw[xS hk]; simp only[uC,ua]at h2; simp[strange]; omega
     · rename_i hk; rw [xP hk]
       split at h2
       · rename_i hk; rw[xS hk]; simp[strange]
       · rename_i hk; rw [xP hk]
         split <;> simp[strange]
 · cases hc:symsOp x++r with
   | nil=>have:=congrArg List.length hc; rw[xN,hlen]at this; simp at this; omega
   | cons s q =>
     have hs:s=symS x 0:=by
      have h0:=hget 0 (by omega);have:=congrArg (·[0]?) hc;simp only[List.getElem?_cons_zero]at this;rw[ux (by omega),h0]at this;exact(Option.some.inj this).symm
     rw[vy,← hc];intro j hj;refine⟨symS x (j:Int),by rw[ux (by omega)]; exact hget j hj,?_⟩;rw[hs];unfold rightP at h2;unfold relK symS;split at h2
     · rename_i hk; simp[hk]
     · rename_i hk
       split at h2
       · rename_i hk; simp[hk]
       · rename_i hk
         split at h2
         · rename_i hk; simp[hk]
         · rename_i hk
           split at h2
           · rename_i hk; simp[hk]
           · cases h2
theorem yS {n : Int} : ∀ (ops : List OpL), OpsOk n ops → okL n (symsOf ops) ∧ Seg (symsOf ops) (sumC ops)
 | [],_=>⟨fun s hs=>by simp[symsOf]at hs,Seg.nil⟩
 | x::l,h=>by
   obtain⟨h1,h2⟩:=yS l fun y hy=>h y (by simp[hy])
   have hx:=h x (by simp);obtain⟨h3,h4,h5⟩:=op_ok hx.1 hx.2;have hk:=yP hx.2;rw[jC];refine⟨fun s hs=>(uJ.1 hs).elim (h3 s) (h1 s),?_⟩;unfold sumC;rw[← h4];refine Seg.cons hk.1 hk.2 (by omega) (h5 _) ?_;rw[List.drop_append_of_le_length (by rw[jm]; exact uc _),QV (by rw[jm]; exact uc _)];exact h2
/-! ### Patches -/
theorem checkGo_right {n : Int} : ∀ (l : List OpL) (left i : Int), OpsOk n l → ((symsOf l).length : Int) = left → (checkGo n l left i).2 = 0
 | [],left,i,_,h=>by
   simp[symsOf]at h
   unfold checkGo; rw[xP (by omega)]
 | x::l,left,i,hr,h=>by
   obtain⟨h1,h2⟩:=hr x (by simp);rw[jC,xN,jm]at h;rw[zY (by simp[h2]; omega)];exact checkGo_right l _ _ (fun y hy=>hr y (by simp[hy])) (by omega)
theorem checkP_right {p:PatL}(h0:0≤p.in_∧p.in_≤65536)(h1:OpsOk p.in_ p.ops)(h2:((symsOf p.ops).length:Int)=p.out)(h3:p.out≤65536)(h4:p.ops.length≤4096):(checkP p).2=0:=by
 unfold checkP;have hb:badP p=false:=by
  unfold badP;simp only[QF,xZ];refine⟨⟨?_,?_⟩,?_⟩
  · split <;> omega
  · split <;> omega
  · omega
 rw[hb];simp only[Bool.false_eq_true,if_false];exact checkGo_right _ _ _ h1 h2
theorem checkP_opsOk {p:PatL}(h:(checkP p).2=0):OpsOk p.in_ p.ops:=(ja h).1
theorem jX {p:PatL}(h:(checkP p).2=0):symbolsP p=(symsOf p.ops,0):=by
 unfold symbolsP; rw[xS h]
def formOf (b:Bool)(n:Int)(l:List Sym):PatL:=⟨b,n,l.length,optL l⟩
theorem vY {l:List Sym}{n:Int}(h0:0≤n∧n≤65536)(hl:l.length≤4096)(ok:okL n l):cheapP l n=(formOf false n l,0):=by
 unfold cheapP;have h1:=best_ops_le ok;have h2:l.any (strange n)=false:=by
  rw[List.any_eq_false]; intro s hs; rw[ok s hs]; simp
 rw[xP (by simp[h2]; omega),xP (by show ¬4096 < (bestP l).ops; omega)];rfl
theorem formOf_check {b:Bool}{l:List Sym}{n:Int}(h0:0≤n∧n≤65536)(hl:l.length≤4096)(ok:okL n l):(checkP (formOf b n l)).2=0:=by
 obtain⟨h1,h2,h3,h4⟩:=yA ok;have h5:=best_ops_le ok;exact checkP_right (p:=formOf b n l) h0 h2 (by show((symsOf (optL l)).length:Int)=_; rw[h1]; rfl) (by show(l.length:Int)≤_; omega) (by show(optL l).length≤_; omega)
theorem opc_costP {x:OpL}{n:Int}(h:rightP x n=true):costP x=opc x.kind x.len:=by
 have hk:=yP h;unfold costP opc;by_cases h1:x.kind=1
 · simp[h1]
 · by_cases h2 : x.kind = 2
   · simp[h2]
   · by_cases h3 : x.kind = 3
     · simp[h3]
     · have h4 : x.kind = 4 := by omega
       simp[h4]
end Go.Inl
namespace Go.Inl
end Go.Inl
