/- The table of package normal finds the least price, and the first and longest operation that has it. Conditions: symbols are right. What the cheapest list of operations is: its symbols, its rightness, its cost against every other list. Conditions: symbols are right. Equal literals are one Run or one Lit, bytes in order one Copy, with a number added one Diff. Conditions: none. -/
import Derived.Test.YtcajgkfgjpfmaaaGreatKCore2
import Derived.Test.YtcajgkfgjpfmaaaGreatTabB
set_option linter.unusedSimpArgs false
set_option linter.unusedVariables false
namespace Go.Inl
/-! ### Prices in order -/
def Pr.le (a b:Pr):Prop:=a.cost < b.cost∨(a.cost=b.cost∧a.ops≤b.ops)
def Pr.lt (a b:Pr):Prop:=a.cost < b.cost∨(a.cost=b.cost∧a.ops < b.ops)
theorem Pr.le_refl (a:Pr):a.le a:=by simp[Pr.le]
theorem Pr.le_trans {a b c:Pr}(h:a.le b)(k:b.le c):a.le c:=by simp only[Pr.le]at *; omega
theorem Pr.lt_of_lt_of_le {a b c:Pr}(h:a.lt b)(k:b.le c):a.lt c:=by simp only[Pr.le,Pr.lt]at *; omega
theorem Pr.not_lt {a b:Pr}(h:a.le b)(k:b.lt a):False:=by simp only[Pr.le,Pr.lt]at *; omega
theorem Pr.ext' {a b:Pr}(h:a.cost=b.cost)(k:a.ops=b.ops):a=b:=by cases a; cases b; simp_all
/-! ### What an operation may have -/
def startK (k:Int)(s:Sym):Bool:=if k=1 then s.old && decide (s.b=0) else if k=2 then s.old else !s.old
def linkK (k:Int)(s t:Sym):Bool:=if k=1∨k=2 then goesOn s t else if k=3 then !t.old && decide (t.b=s.b) else !t.old
def fitsN (k : Int) : List Sym → Nat
 | []=>0
 | s::l=>if startK k s then (if !l.isEmpty && linkK k s (l.headD s) then 1+fitsN k l else 1) else 0
def opc (k:Int)(n:Int):Int:=if k=1 then 4 else if k=2 then 4+n else if k=3 then 4 else 2+n
def topP (l:List Sym):Pl:=(tab l).headD Pl.zero
def bestP (l:List Sym):Pr:=(topP l).best
theorem jI (k : Int) : ∀ l : List Sym, fitsN k l ≤ l.length
 | []=>uV _
 | s::l=>by
   have:=jI k l;unfold fitsN;split
   · split
     · simp; omega
     · simp
   · simp
theorem kw {k:Int}{s:Sym}{l:List Sym}(h:startK k s=false):fitsN k (s::l)=0:=by
 unfold fitsN; simp[h]
theorem xd {k:Int}{s:Sym}{l:List Sym}(h:startK k s=true):1≤fitsN k (s::l):=by
 unfold fitsN; rw[ui h]; split <;> omega
end Go.Inl
namespace Go.Inl
/-! ### Which symbols an operation may have, one by one -/
def relK (k:Int)(s:Sym)(j:Nat)(t:Sym):Prop :=
 if k=1 then s.old=true∧t.old=true∧t.at_=s.at_+j∧t.b=0
 else if k=2 then s.old=true∧t.old=true∧t.at_=s.at_+j
 else if k=3 then s.old=false∧t.old=false∧t.b=s.b
 else t.old=false
theorem rel_start {k:Int}{s:Sym}:startK k s=true↔relK k s 0 s:=by
 unfold startK relK;by_cases h1:k=1
 · subst h1; simp
 · by_cases h2 : k = 2
   · subst h2; simp
   · by_cases h3 : k = 3
     · subst h3; simp
     · simp[h1,h2,h3]
theorem rel_link {k:Int}{s t:Sym}(h:relK k s 1 t):linkK k s t=true:=by
 unfold relK at h; unfold linkK goesOn
 by_cases h1:k=1
 · subst h1; simp at h ⊢; exact⟨⟨h.1,h.2.1⟩,h.2.2.1⟩
 · by_cases h2 : k = 2
   · subst h2; simp at h ⊢; exact⟨⟨h.1,h.2.1⟩,h.2.2⟩
   · by_cases h3 : k = 3
     · subst h3; simp at h ⊢; exact⟨h.2.1,h.2.2⟩
     · simp[h1,h2,h3]at h ⊢; exact h
theorem rel_step {k:Int}{s t u:Sym}{j:Nat}(hs:startK k s=true)(hl:linkK k s t=true)(h:relK k t j u):relK k s (j+1) u:=by
 unfold relK at h ⊢; unfold linkK goesOn at hl; unfold startK at hs
 by_cases h1:k=1
 · subst h1; simp at h hl hs ⊢; exact⟨hs.1,h.2.1,by omega,h.2.2.2⟩
 · by_cases h2 : k = 2
   · subst h2; simp at h hl hs ⊢; exact⟨hs,h.2.1,by omega⟩
   · by_cases h3 : k = 3
     · subst h3; simp at h hl hs ⊢; exact⟨hs,h.2.1,by omega⟩
     · simp[h1,h2,h3]at h ⊢; exact h
theorem rel_back {k:Int}{s t u:Sym}{j:Nat}(ht:relK k s 1 t)(h:relK k s (j+1) u):relK k t j u:=by
 unfold relK at h ht ⊢;by_cases h1:k=1
 · subst h1; simp at h ht ⊢; exact⟨ht.2.1,h.2.1,by omega,h.2.2.2⟩
 · by_cases h2 : k = 2
   · subst h2; simp at h ht ⊢; exact⟨ht.2.1,h.2.1,by omega⟩
   · by_cases h3 : k = 3
     · subst h3; simp at h ht ⊢; exact⟨ht.2.1,h.2.1,by omega⟩
     · simp[h1,h2,h3]at h ⊢; exact h
theorem jH {k : Int} : ∀ (l : List Sym) (s : Sym) (n : Nat), n ≤ fitsN k (s :: l) ↔ ∀ j < n, ∃ t, (s :: l)[j]? = some t ∧ relK k s j t
 | l,s,0=>by simp
 | l,s,n+1=>by
   constructor
   · intro h
     have hs:startK k s=true:=by
      cases hs:startK k s with
      | true=>rfl
      | false=>rw[kw hs]at h; omega
     intro j hj;cases j with
     | zero=>exact⟨s,rfl,rel_start.1 hs⟩
     | succ j =>
       unfold fitsN at h;rw[ui hs]at h;split at h
       · rename_i hl
         simp only[xU,xT]at hl;cases l with
         | nil=>cases hl.1
         | cons t r =>
           obtain⟨u,h1,h2⟩:=(jH (k:=k) r t n).1 (by omega) j (by omega);exact⟨u,by simpa using h1,rel_step hs hl.2 h2⟩
       · omega
   · intro h
     have hs:startK k s=true:=by
      obtain⟨t,h1,h2⟩:=h 0 (by omega);simp at h1; subst h1
      exact rel_start.2 h2
     by_cases hn:n=0
     · subst hn; exact xd hs
     · obtain ⟨t, h1, h2⟩ := h 1 (by omega)
       cases l with
       | nil=>simp at h1
       | cons t' r =>
         simp at h1; subst h1
         have ih:=(jH r t' n).2 fun j hj=>by
          obtain⟨u,k1,k2⟩:=h (j+1) (by omega);exact⟨u,by simpa using k1,rel_back h2 k2⟩
         unfold fitsN;rw[ui hs,ui (by simp[rel_link h2])];omega
/-! ### Lists of operations by their cost -/
inductive Seg : List Sym → Int → Prop where
 | nil:Seg [] 0
 | cons {k:Int} {l:List Sym} {n:Nat} {c:Int}:1≤k→k≤4→1≤n→n≤fitsN k l→Seg (l.drop n) c→Seg l (opc k n+c)
/-! ### The list that is made -/
def okL (n:Int)(l:List Sym):Prop:=∀s∈l,strange n s=false
theorem okL.at0 {n:Int}{l:List Sym}(h:okL n l):∀t∈l,t.old=false→t.at_=0:=fun t ht ho=>by
 have:=h t ht;simpa [strange,ho] using this
theorem okL.in {n:Int}{l:List Sym}(h:okL n l):∀t∈l,t.old=true→0≤t.at_∧t.at_ < n:=fun t ht ho=>by
 have:=h t ht;simpa [strange,ho] using this
theorem okL.drop {n:Int}{l:List Sym}(h:okL n l)(k:Nat):okL n (l.drop k):=fun s hs=>h s (List.mem_of_mem_drop hs)
theorem okL.take {n:Int}{l:List Sym}(h:okL n l)(k:Nat):okL n (l.take k):=fun s hs=>h s (List.mem_of_mem_take hs)
theorem vV {k n : Int} {l : List Sym} {m : Nat} (hk0 : 1 ≤ k) (hk1 : k ≤ 4) (h0 : 1 ≤ m) (h : m ≤ fitsN k l) (ok : okL n l) :
 (opS k (l.take m)).len=m∧rightP (opS k (l.take m)) n=true∧symsOp (opS k (l.take m))=l.take m:=by
 have hle:=jI k l;have hlen:(l.take m).length=m:=by rw[uT]; omega
 cases l with
 | nil=>simp at hle; omega
 | cons s r =>
   have hf:=(jH r s m).1 h;have hhd:((s::r).take m).headD ⟨false,0,0⟩=s:=by
    cases m with
    | zero=>omega
    | succ m=>rfl
   have hkk:(opS k ((s::r).take m)).kind=k:=rfl;have hfr:(opS k ((s::r).take m)).from_=if k=1∨k=2 then s.at_ else 0:=by
    show(if k=1∨k=2 then (((s::r).take m).headD ⟨false,0,0⟩).at_ else 0)=_
    rw[hhd]
   have hbb:(opS k ((s::r).take m)).b=if k=3 then s.b else 0:=by
    show(if k=3 then (((s::r).take m).headD ⟨false,0,0⟩).b else 0)=_
    rw[hhd]
   have hda:(opS k ((s::r).take m)).data=if k=2∨k=4 then ((s::r).take m).map (·.b) else []:=rfl
   have hdl:(((s::r).take m).map (·.b)).length=m:=by rw[uR,hlen]
   have hl:(opS k ((s::r).take m)).len=m:=by show(((s::r).take m).length:Int)=m; rw[hlen]
   refine⟨hl,?_,?_⟩
   · unfold rightP
     rw[hkk,hl];by_cases h1:k=1
     · subst h1
       obtain⟨t,a1,a2⟩:=hf (m - 1) (by omega);have hin:=ok.in t (uf a1);have hs0:=ok.in s (by simp);simp[relK]at a2
       have e1:=hin a2.2.1;have e2:=hs0 a2.1;unfold insideP;rw[hl,hfr,hbb,hda];simp; omega
     · by_cases h2 : k = 2
       · subst h2
         obtain⟨t,a1,a2⟩:=hf (m - 1) (by omega);have hin:=ok.in t (uf a1);have hs0:=ok.in s (by simp);simp[relK]at a2
         have e1:=hin a2.2.1;have e2:=hs0 a2.1;unfold insideP;rw[hl,hfr,hbb,hda];simp only[or_true,true_or,if_true,hdl];simp; omega
       · by_cases h3 : k = 3
         · subst h3; rw[hfr,hda]; simp
         · obtain rfl : k = 4 := by omega
           rw[hfr,hbb,hda];simp only[or_true,if_true,hdl];simp
   · apply List.ext_getElem?
     intro j;unfold symsOp;rw[hl];by_cases hj:j < m
     · obtain ⟨t, a1, a2⟩ := hf j hj
       have hin:=ok.at0 t (uf a1);have hg:((s::r).take m)[j]? = some t:=by rw[List.getElem?_take,ui hj]; exact a1
       have hd:(((s::r).take m).map (·.b)).getD j 0=t.b:=by rw[uh,Qo,hg]; rfl
       rw[hg,Qo,List.getElem?_range (by omega)];simp only[Option.map_some,Option.some.injEq];unfold symS;rw[hkk];obtain⟨to,ta,tb⟩:=t;by_cases h1:k=1
       · subst h1; simp[relK]at a2; rw[hfr]; simp[a2]
       · by_cases h2 : k = 2
         · subst h2; simp [relK] at a2
           simp only[show ¬((2:Int)=1) by decide,if_false,if_true];rw[hfr,hda];simp only[Int.toNat_natCast,or_true,if_true,true_or];rw[hd]; simp[a2]
         · by_cases h3 : k = 3
           · subst h3; simp[relK]at a2; have:=hin a2.2.1; rw[hbb]; simp[a2]; exact this.symm
           · obtain rfl : k = 4 := by omega
             simp[relK]at a2
             simp only[show ¬((4:Int)=1) by decide,show ¬((4:Int)=2) by decide,show ¬((4:Int)=3) by decide,if_false,if_true];rw[hda];simp only[Int.toNat_natCast,or_true,if_true];rw[hd]; have:=hin a2; simp[a2]; exact this.symm
     · rw[List.getElem?_eq_none (by simp; omega),List.getElem?_eq_none (by omega)]
def sumC : List OpL → Int
 | []=>0
 | x::l=>opc x.kind x.len+sumC l
def OpsOk (n:Int)(ops:List OpL):Prop:=∀x∈ops,1≤x.len∧rightP x n=true
theorem zZ {x:OpL}{n:Int}(h:rightP x n=true):1≤x.kind∧x.kind≤4:=by
 unfold rightP at h;split at h
 · omega
 · split at h
   · omega
   · split at h
     · omega
     · split at h
       · omega
       · cases h
/-! ### Any right list of operations -/
theorem op_ok {n:Int}{x:OpL}(h1:1≤x.len)(h2:rightP x n=true):okL n (symsOp x)∧(x.len.toNat:Int)=x.len∧∀r,x.len.toNat≤fitsN x.kind (symsOp x++r):=by
 have hlen:=qR x;have hget:∀j,j < x.len.toNat→(symsOp x)[j]? = some (symS x (j:Int)):=fun j hj=>by
  unfold symsOp; rw[Qo,List.getElem?_range hj]; rfl
 refine⟨?_,by omega,fun r=>?_⟩
 · intro s hs
   obtain⟨j,hj,rfl⟩:=List.getElem_of_mem hs;rw[hlen]at hj;have e:=hget j hj;have e':(symsOp x)[j]'(by omega)=symS x (j:Int):=by
    have:=xW (l:=symsOp x) (i:=j) (by omega);rw[e]at this; exact(Option.some.inj this).symm
   rw[e'];unfold rightP insideP at h2;unfold symS;split at h2
   · rename_i hk; rw[ui hk]; simp only[xU,xO]at h2; simp[strange]; omega
   · rename_i hk; rw [ud hk]
     split at h2
     · rename_i hk; rw[ui hk]; simp only[xU,xO]at h2; simp[strange]; omega
     · rename_i hk; rw [ud hk]
       split at h2
       · rename_i hk; rw[ui hk]; simp[strange]
       · rename_i hk; rw [ud hk]
         split <;> simp[strange]
 · cases hc:symsOp x++r with
   | nil=>have:=congrArg List.length hc; rw[ug,hlen]at this; simp at this; omega
   | cons s q =>
     have hs:s=symS x 0:=by
      have h0:=hget 0 (by omega);have:=congrArg (·[0]?) hc;simp only[List.getElem?_cons_zero]at this;rw[Qc (by omega),h0]at this;exact(Option.some.inj this).symm
     rw[jH,← hc];intro j hj;refine⟨symS x (j:Int),by rw[Qc (by omega)]; exact hget j hj,?_⟩;rw[hs];unfold rightP at h2;unfold relK symS;split at h2
     · rename_i hk; simp[hk]
     · rename_i hk
       split at h2
       · rename_i hk; simp[hk]
       · rename_i hk
         split at h2
         · rename_i hk; simp[hk]
         · rename_i hk
           split at h2
           · rename_i hk; simp[hk]
           · cases h2
theorem zD {n : Int} : ∀ (ops : List OpL), OpsOk n ops → okL n (symsOf ops) ∧ Seg (symsOf ops) (sumC ops)
 | [],_=>⟨fun s hs=>by simp[symsOf]at hs,Seg.nil⟩
 | x::l,h=>by
   obtain⟨h1,h2⟩:=zD l fun y hy=>h y (by simp[hy])
   have hx:=h x (by simp);obtain⟨h3,h4,h5⟩:=op_ok hx.1 hx.2;have hk:=zZ hx.2;rw[ja];refine⟨fun s hs=>(uX.1 hs).elim (h3 s) (h1 s),?_⟩;unfold sumC;rw[← h4];refine Seg.cons hk.1 hk.2 (by omega) (h5 _) ?_;rw[List.drop_append_of_le_length (by rw[qR]; exact uV _),QI (by rw[qR]; exact uV _)];exact h2
/-! ### Patches -/
theorem checkGo_right {n : Int} : ∀ (l : List OpL) (left i : Int), OpsOk n l → ((symsOf l).length : Int) = left → (checkGo n l left i).2 = 0
 | [],left,i,_,h=>by
   simp[symsOf]at h
   unfold checkGo; rw[ud (by omega)]
 | x::l,left,i,hr,h=>by
   obtain⟨h1,h2⟩:=hr x (by simp);rw[ja,ug,qR]at h;rw[yX (by simp[h2]; omega)];exact checkGo_right l _ _ (fun y hy=>hr y (by simp[hy])) (by omega)
theorem jJ {p:PatL}(h0:0≤p.in_∧p.in_≤65536)(h1:OpsOk p.in_ p.ops)(h2:((symsOf p.ops).length:Int)=p.out)(h3:p.out≤65536)(h4:p.ops.length≤4096):(checkP p).2=0:=by
 unfold checkP;have hb:badP p=false:=by
  unfold badP;simp only[xR,xM];refine⟨⟨?_,?_⟩,?_⟩
  · split <;> omega
  · split <;> omega
  · omega
 rw[hb];simp only[Bool.false_eq_true,if_false];exact checkGo_right _ _ _ h1 h2
theorem jh {p:PatL}(h:(checkP p).2=0):symbolsP p=(symsOf p.ops,0):=by
 unfold symbolsP; rw[ui h]
theorem sameOpS_iff {a b:OpL}:sameOpS a b=true↔a=b:=by
 obtain⟨a1,a2,a3,a4,a5⟩:=a; obtain⟨b1,b2,b3,b4,b5⟩:=b
 simp[sameOpS,and_assoc]
end Go.Inl
namespace Go.Inl
end Go.Inl
