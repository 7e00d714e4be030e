/- The data of packages api and normal as plain Lean, and what values read as them. Conditions: none. What packages patch and normal compute, as plain Lean. Conditions: none. Bytes as a string, strings compared, an element of an array. Conditions: none. Guards that are known to be open; literals that are read only; append of what is read only. Conditions: none. Loops over functions: what an iterator owes, what a round owes, the loop, and a function's return behind such a loop. Conditions: none. Strings gone over and indexed, append of n zero values to nil, guarded operations of any effect, what an iterator's loop needs. Conditions: none. -/
import Derived.Test.YtgkgihnpjgbmhaaGreatDoorAl
import Derived.Test.YtgkgihnpjgbmhaaGreatDoorSq
import Derived.Test.YtgkgihnpjgbmhaaGreatDoorKCore
import Derived.Laws.BytesString
import Derived.Laws.Strings
import Derived.Laws.OwnMore
import Derived.Laws.RangeString
import Derived.Lib.AppendZeros
set_option linter.unusedSimpArgs false
set_option linter.unusedVariables false
namespace Go.Inl
open Go Go.RowKit
/-! ### Plain data -/
structure Sym where
 old:Bool
 at_:Int
 b:Int
def symC (s:Sym):List Value:=[.bool s.old,.ig s.at_,.int .u8 s.b]
def symV (s:Sym):Value:=.agg #[.bool s.old,.ig s.at_,.int .u8 s.b]
theorem kw (s:Sym):(symC s).length=3:=rfl
def Sym.ok (s:Sym):Prop:=0≤s.at_∧s.at_≤65536∧0≤s.b∧s.b≤255
def Sym.wf (s:Sym):Prop:=-1099511627776≤s.at_∧s.at_≤1099511627776∧0≤s.b∧s.b≤255
def symEq (a b:Sym):Bool:=(a.old == b.old) && (decide (a.at_=b.at_) && decide (a.b=b.b))
def byteC (b:Int):List Value:=[.int .u8 b]
theorem qA (b:Int):(byteC b).length=1:=rfl
def intC (b:Int):List Value:=[.ig b]
theorem qM (b:Int):(intC b).length=1:=rfl
def boolC (b:Bool):List Value:=[.bool b]
theorem jk (b:Bool):(boolC b).length=1:=rfl
structure OpL where
 kind:Int
 from_:Int
 len:Int
 b:Int
 data:List Int
structure PatL where
 lifted:Bool
 in_:Int
 out:Int
 ops:List OpL
def PatL.zero:PatL:=⟨false,0,0,[]⟩
def ROp (I:Imm)(cs:List Value)(x:OpL):Prop:=∃ad m cap,cs=[.ig x.kind,.ig x.from_,.ig x.len,.int .u8 x.b,.slice ad m cap]∧RFl I 1 byteC (.slice ad m cap) x.data
theorem ROp.mono {I J:Imm}{cs:List Value}{x:OpL}(h:ROp I cs x)(hs:Sub I J):ROp J cs x:=by
 obtain⟨ad,m,cap,h1,h2⟩:=h;exact⟨ad,m,cap,h1,h2.mono hs⟩
def ROps (I:Imm)(v:Value)(l:List OpL):Prop:=RSl I 5 (ROp I) v l
theorem ROps.mono {I J:Imm}{v:Value}{l:List OpL}(h:ROps I v l)(hs:Sub I J):ROps J v l:=RSl.mono h hs fun _ _ h=>h.mono hs
abbrev RSyms (I:Imm)(v:Value)(l:List Sym):Prop:=RFl I 3 symC v l
abbrev RBytes (I:Imm)(v:Value)(l:List Int):Prop:=RFl I 1 byteC v l
theorem RFl.nil {α:Type}{I:Imm}{sz:Nat}{enc:α→List Value}:RFl I sz enc (.slice none 0 0) []:=.inl ⟨⟨none,0,rfl,by simp,fun _=>rfl⟩,rfl⟩
theorem RSl.sl {α:Type}{I:Imm}{sz:Nat}{R:List Value→α→Prop}{v:Value}{xs:List α}(h:RSl I sz R v xs):∃ad cap,v = .slice ad xs.length cap:=by
 obtain⟨ad,cap,h1,_⟩:=h.len;exact⟨ad,cap,h1⟩
/-! ### Slices whose elements hold slices -/
def All2 {α:Type}(R:List Value→α→Prop)(css:List (List Value))(xs:List α):Prop:=css.length=xs.length∧∀(i:Nat) cs x,css[i]? = some cs→xs[i]? = some x→R cs x
theorem All2.nil {α:Type}(R:List Value→α→Prop):All2 R [] ([]:List α):=⟨rfl,by simp⟩
theorem All2.snoc {α:Type}{R:List Value→α→Prop}{css:List (List Value)}{xs:List α}{cs:List Value}{x:α}(h:All2 R css xs)(hx:R cs x):All2 R (css++[cs]) (xs++[x]):=by
 refine⟨by simp[h.1],fun i cs' x' h1 h2=>?_⟩;by_cases hi:i < css.length
 · rw [ux hi] at h1
   rw[ux (by rw[← h.1]; exact hi)]at h2;exact h.2 i cs' x' h1 h2
 · have hi1 := (xX.1 h1).1
   have:i=css.length:=by simp at hi1; omega
   subst this;rw[uB (uc _)]at h1;rw[h.1,uB (uc _)]at h2;simp at h1 h2
   subst h1 h2;exact hx
theorem All2.mono {α:Type}{R R':List Value→α→Prop}{css:List (List Value)}{xs:List α}(h:All2 R css xs)(hR:∀cs x,R cs x→R' cs x):All2 R' css xs:=⟨h.1,fun i cs x h1 h2=>hR _ _ (h.2 i cs x h1 h2)⟩
theorem za {sz : Nat} : ∀ (css : List (List Value)), (∀ cs ∈ css, cs.length = sz) → ∀ (i : Nat) (cs : List Value), css[i]? = some cs → ∀ (j : Nat) v, cs[j]? = some v → css.flatten[i * sz + j]? = some v
 | [],_,i,cs,h=>by simp at h
 | c::css,hl,0,cs,h=>by
   simp at h; subst h
   intro j v hv;simp only[List.flatten_cons,Nat.zero_mul,Qv];rw[ux (xX.1 hv).1]; exact hv
 | c::css,hl,i+1,cs,h=>by
   intro j v hv;have:=za css (fun c hc=>hl c (by simp[hc])) i cs (by simpa using h) j v hv;have hc:=hl c (by simp);simp only[List.flatten_cons];rw[uB (by rw[hc,Nat.add_mul]; omega),hc,show(i+1)*sz+j - sz=i*sz+j by rw[Nat.add_mul]; omega];exact this
theorem St.freezeRowR {α : Type} {R : List Value → α → Prop} {sz m : Nat} {E : TypeId} {u : Value} {css : List (List Value)} {xs : List α} {w0 w : World} {I0 I : Imm} {L : List Res} (h : St [] w0 I0 I w (.row u E sz m css.flatten :: L)) (hm : m = xs.length)
 (hl:∀cs∈css,cs.length=sz) (hx:All2 R css xs):∃I',St [] w0 I0 I' w L∧Sub I I'∧RSl I' sz R u xs:=by
 have hh:w.ownsRow 0 E sz u m css.flatten:=h.hold (.row u E sz m css.flatten) (by simp);obtain⟨h1,h2,h3⟩:=h.freeze;refine⟨_,h1,h2,?_⟩;subst hm;rcases hh.2 with ⟨rfl,h0⟩ | ⟨g,cap,cur,rfl,_,hg,h4,h5,_,h7⟩
 · exact .inl ⟨⟨none,0,rfl,by simp,fun _=>rfl⟩,Qs.1 h0⟩
 · have hI := h3 g (by simp [Res.foot, Value.ownBlock])
   rw[hg]at hI;refine .inr ⟨g,0,cap,rfl,h4,h5,fun i x hxi=>?_⟩;have hi:=(xX.1 hxi).1;have hcs:css[i]? = some (css[i]'(by rw[hx.1]; exact hi)):=xI _;refine⟨_,hl _ (xR hcs),⟨rfl,cur,E,(0,0),hI,fun j v hv=>?_⟩,hx.2 i _ x hcs hxi⟩;have:=za css hl i _ hcs j v hv;rw[← h7,List.getElem?_take]at this;simp only[Qv];split at this
   · simpa using this
   · cases this
theorem RSl.nilR {α:Type}{I:Imm}{sz:Nat}{R:List Value→α→Prop}:RSl I sz R (.slice none 0 0) []:=.inl ⟨⟨none,0,rfl,by simp,fun _=>rfl⟩,rfl⟩
/-! ### Prices and places of package normal -/
structure Pr where
 cost:Int
 ops:Int
def prV (p:Pr):Value:=.agg #[.ig p.cost,.ig p.ops]
def Pr.less (p q:Pr):Bool:=decide (p.cost < q.cost) || (decide (p.cost=q.cost) && decide (p.ops < q.ops))
def Pr.plus (p:Pr)(c o:Int):Pr:=⟨p.cost+c,p.ops+o⟩
def Pr.ok (B:Int)(p:Pr):Prop:=0≤p.cost∧p.cost≤B∧0≤p.ops∧p.ops≤B
structure Pl where
 best:Pr
 kind:Int
 length:Int
 diff:Pr
 diffLen:Int
 lit:Pr
 litLen:Int
 copyRun:Int
 equalRun:Int
def Pl.zero:Pl:=⟨⟨0,0⟩,0,0,⟨0,0⟩,0,⟨0,0⟩,0,0,0⟩
def plC (p:Pl):List Value:=[.ig p.best.cost,.ig p.best.ops,.ig p.kind,.ig p.length,.ig p.diff.cost,.ig p.diff.ops,.ig p.diffLen,.ig p.lit.cost,.ig p.lit.ops,.ig p.litLen,.ig p.copyRun,.ig p.equalRun]
def plV (p:Pl):Value:=.agg #[.ig p.best.cost,.ig p.best.ops,.ig p.kind,.ig p.length,.ig p.diff.cost,.ig p.diff.ops,.ig p.diffLen,.ig p.lit.cost,.ig p.lit.ops,.ig p.litLen,.ig p.copyRun,.ig p.equalRun]
theorem zE (p:Pl):(plC p).length=12:=rfl
def goesOn (a b:Sym):Bool:=(a.old && b.old) && decide (b.at_=a.at_+1)
def openS (rest:Pl)(more:Pr)(n:Int)(on:Bool):Pr×Int :=
 if on && !(rest.best.plus 1 0).less (more.plus 1 0) then (more.plus 1 0,n+1) else (rest.best.plus 1 0,1)
def runsS (s next:Sym)(after:Pl)(last:Bool):Int×Int :=
 (if s.old && decide (s.b = 0) then (if !last && goesOn s next then 1 + after.copyRun else 1) else 0,
  if !s.old then (if !last && symEq s next then 1+after.equalRun else 1) else 0)
def tryS (p:Pl)(k len:Int)(c:Pr):Pl:=if (decide (p.kind=0) || c.less p.best)=true then { p with kind:=k,length:=len,best:=c } else p
def nthBest (later:List Pl)(r:Int):Pr:=(later.getD (r - 1).toNat Pl.zero).best
def mkPl (s next:Sym)(last:Bool)(later:List Pl):Pl :=
 let rest:=later.headD Pl.zero
 let r:=runsS s next rest last
 let p0:Pl:={ Pl.zero with copyRun:=r.1,equalRun:=r.2 }
 let p1:=if 0 < r.1 then tryS p0 1 r.1 ((nthBest later r.1).plus 4 1) else p0
 if s.old then
  let o:=openS rest rest.diff rest.diffLen (!last && goesOn s next)
  let p2:Pl:={ p1 with diff:=o.1,diffLen:=o.2 }
  tryS p2 2 p2.diffLen (p2.diff.plus 4 1)
 else
  let p2:=tryS p1 3 p1.equalRun ((nthBest later p1.equalRun).plus 4 1)
  let o:=openS rest rest.lit rest.litLen (!last && !next.old)
  let p3:Pl:={ p2 with lit:=o.1,litLen:=o.2 }
  tryS p3 4 p3.litLen (p3.lit.plus 2 1)
def tab : List Sym → List Pl
 | []=>[Pl.zero]
 | s::l=>mkPl s (l.headD s) l.isEmpty (tab l)::tab l
end Go.Inl
namespace Go.Inl
def Mid (n:Int):Prop:=-1099511627776≤n∧n≤1099511627776
structure OpL.wf (x : OpL) : Prop where
 kind:Mid x.kind
 from_:Mid x.from_
 len:Mid x.len
 b:0≤x.b∧x.b≤255
 data:∀y∈x.data,0≤y∧y≤255
structure PatL.wf (p : PatL) : Prop where
 in_:Mid p.in_
 out:Mid p.out
 ops:∀x∈p.ops,x.wf
 len:(p.ops.length:Int)≤1099511627776
def insideP (x:OpL)(n:Int):Bool:=decide (0≤x.from_) && decide (x.from_≤n - x.len)
def rightP (x:OpL)(n:Int):Bool :=
 if x.kind=1 then insideP x n && decide (x.b=0) && decide ((x.data.length:Int)=0)
 else if x.kind=2 then insideP x n && decide (x.b=0) && decide ((x.data.length:Int)=x.len)
 else if x.kind=3 then decide (x.from_=0) && decide ((x.data.length:Int)=0)
 else if x.kind=4 then decide (x.from_=0) && decide (x.b=0) && decide ((x.data.length:Int)=x.len)
 else false
def symS (x:OpL)(i:Int):Sym :=
 if x.kind=1 then ⟨true,x.from_+i,0⟩
 else if x.kind=2 then ⟨true,x.from_+i,x.data.getD i.toNat 0⟩
 else if x.kind=3 then ⟨false,0,x.b⟩
 else if x.kind=4 then ⟨false,0,x.data.getD i.toNat 0⟩
 else ⟨false,0,0⟩
def costP (x:OpL):Int:=if x.kind=1 then 4 else if x.kind=2 then 4+x.len else if x.kind=3 then 4 else if x.kind=4 then 2+x.len else 0
def checkGo (n : Int) : List OpL → Int → Int → Int × Int
 | [],left,i=>if 0 < left then (i,60) else (i,0)
 | x::r,left,i=>if decide (x.len < 1) || decide (left < x.len) || !rightP x n then (i,60) else checkGo n r (left - x.len) (i+1)
def badP (p:PatL):Bool:=decide ((if p.out < p.in_ then p.out else p.in_) < 0) || decide (65536 < (if p.out > p.in_ then p.out else p.in_)) || decide (4096 < (p.ops.length:Int))
def checkP (p:PatL):Int×Int:=if badP p then (-1,60) else checkGo p.in_ p.ops p.out 0
def symsOp (x:OpL):List Sym:=(List.range x.len.toNat).map fun(i:Nat)=>symS x (i:Int)
def symsOf (l:List OpL):List Sym:=l.flatMap symsOp
def symbolsP (p:PatL):List Sym×Int:=if (checkP p).2=0 then (symsOf p.ops,0) else ([],(checkP p).2)
def strange (n:Int)(s:Sym):Bool:=(s.old && (decide (s.at_ < 0) || decide (n≤s.at_))) || (!s.old && !decide (s.at_=0))
def opS (kind:Int)(l:List Sym):OpL :=
 { kind,from_:=if kind=1∨kind=2 then (l.headD ⟨false,0,0⟩).at_ else 0,len:=l.length,b:=if kind=3 then (l.headD ⟨false,0,0⟩).b else 0,data:=if kind=2∨kind=4 then l.map (·.b) else [] }
def opsT (t : List Pl) (l : List Sym) : Nat → Nat → List OpL
 | 0,_=>[]
 | fuel + 1, i => if i < l.length then
    let p:=t.getD i Pl.zero
    opS p.kind ((l.take (i+p.length.toNat)).drop i)::opsT t l fuel (i+p.length.toNat)
   else []
def cheapP (l:List Sym)(n:Int):PatL×Int :=
 if decide (n < 0) || decide (65536 < n) || decide (65536 < (l.length:Int)) || l.any (strange n) then (PatL.zero,60)
 else if 4096 < ((tab l).headD Pl.zero).best.ops then (PatL.zero,2)
 else (⟨false,n,l.length,opsT (tab l) l (l.length+1) 0⟩,0)
def formP (p:PatL):PatL×Int :=
 if (symbolsP p).2 = 0 then
  let q:=cheapP (symbolsP p).1 p.in_
  if q.2=0 then ({ q.1 with lifted:=p.lifted },0) else q
 else (PatL.zero,(symbolsP p).2)
theorem zx {α:Type}{l:List α}{k:Nat}{x:α}(h:l[k]? = some x):l.drop k=x::l.drop (k+1):=by
 have:=xX.1 h;rw[List.drop_eq_getElem_cons this.1,this.2]
theorem checkGo_bad {n left i:Int}{x:OpL}{r:List OpL}(h:(decide (x.len < 1) || decide (left < x.len) || !rightP x n)=true):checkGo n (x::r) left i=(i,60):=by
 simp only[checkGo,h,if_true]
theorem zY {n left i:Int}{x:OpL}{r:List OpL}(h:(decide (x.len < 1) || decide (left < x.len) || !rightP x n)=false):checkGo n (x::r) left i=checkGo n r (left - x.len) (i+1):=by
 simp[checkGo,h]
theorem qz {α:Type}{l:List α}{k:Nat}{x:α}(h:l[k]? = some x):l.take (k+1)=l.take k++[x]:=by
 have:=xX.1 h;rw[List.take_succ_eq_append_getElem this.1,this.2]
theorem jm (x:OpL):(symsOp x).length=x.len.toNat:=by simp[symsOp]
theorem symsOf_append (a b:List OpL):symsOf (a++b)=symsOf a++symsOf b:=by simp[symsOf]
theorem symsOf_one (x:OpL):symsOf [x]=symsOp x:=by simp[symsOf]
theorem jC (x:OpL)(l:List OpL):symsOf (x::l)=symsOp x++symsOf l:=by simp[symsOf]
theorem symsOf_snoc {l:List OpL}{k:Nat}{x:OpL}(h:l[k]? = some x):symsOf (l.take k)++(List.range x.len.toNat).map (fun(i:Nat)=>symS x (i:Int))=symsOf (l.take (k+1)):=by
 rw[qz h,symsOf_append,symsOf_one]; rfl
theorem range_snoc (x:OpL)(i:Nat)(l:List Sym):l++(List.range (i+1)).map (fun(i:Nat)=>symS x (i:Int))=(l++(List.range i).map (fun(i:Nat)=>symS x (i:Int)))++[symS x i]:=by
 rw[List.range_succ,Qp,uh]; rfl
theorem checkGo_ok {n : Int} : ∀ (l : List OpL) (left i : Int), 0 ≤ left → (checkGo n l left i).2 = 0 → (∀ x ∈ l, 1 ≤ x.len ∧ rightP x n = true) ∧ ((symsOf l).length : Int) = left
 | [],left,i,h0,h=>by
   unfold checkGo at h;split at h
   · simp at h
   · exact⟨by simp,by simp[symsOf]; omega⟩
 | x::l,left,i,h0,h=>by
   by_cases hb:(decide (x.len < 1) || decide (left < x.len) || !rightP x n)=true
   · rw[checkGo_bad hb]at h; simp at h
   · have hb' : (decide (x.len < 1) || decide (left < x.len) || !rightP x n) = false := by simpa using hb
     rw[zY hb']at h;simp only[QF,xZ,Qc]at hb';obtain⟨⟨h1,h2⟩,h3⟩:=hb';obtain⟨h4,h5⟩:=checkGo_ok l _ _ (by omega) h;refine⟨fun y hy=>?_,?_⟩
     · rcases xV.1 hy with rfl | hy
       · exact⟨by omega,h3⟩
       · exact h4 y hy
     · rw[jC,xN,jm]; omega
theorem ja {p:PatL}(h:(checkP p).2=0):(∀x∈p.ops,1≤x.len∧rightP x p.in_=true)∧((symsOf p.ops).length:Int)=p.out∧0≤p.in_∧p.in_≤65536∧0≤p.out∧p.out≤65536∧p.ops.length≤4096:=by
 unfold checkP at h;split at h
 · simp at h
 · rename_i hb
   simp only[badP,JB,ua,not_or]at hb;obtain⟨⟨h1,h2⟩,h3⟩:=hb;have h4:0≤p.in_∧0≤p.out∧p.in_≤65536∧p.out≤65536:=by split at h1 <;> split at h2 <;> omega
   obtain⟨h5,h6⟩:=checkGo_ok _ _ _ h4.2.1 h;exact⟨h5,h6,h4.1,h4.2.2.1,h4.2.1,h4.2.2.2,by omega⟩
theorem symsOf_take_le (l:List OpL)(k:Nat):(symsOf (l.take k)).length≤(symsOf l).length:=by
 conv=>rhs; rw[← List.take_append_drop k l]
 rw[symsOf_append,xN]; omega
theorem vL {t:List Pl}{l:List Sym}{f i:Nat}{p:Pl}(hi:i < l.length)(hp:t[i]? = some p):opsT t l (f+1) i=opS p.kind ((l.take (i+p.length.toNat)).drop i)::opsT t l f (i+p.length.toNat):=by
 simp only[opsT,hi,if_true,xT,hp,Option.getD_some]
theorem vm {t:List Pl}{l:List Sym}{f i:Nat}(hi:¬i < l.length):opsT t l f i=[]:=by
 cases f <;> simp[opsT,hi]
theorem zB {α:Type}{l:List α}{k:Nat}{x:α}{q:α→Bool}(hx:l[k]? = some x)(h:∀y∈l.take k,q y=false)(hq:q x=false):∀y∈l.take (k+1),q y=false:=by
 intro y hy;rw[qz hx]at hy;rcases uJ.1 hy with hy | hy
 · exact h y hy
 · simp at hy; subst hy; exact hq
end Go.Inl
namespace Go.Inl
open Go Go.RowKit
def strB (xs:List Int):ByteArray:=xs.foldl (fun r n=>r.push (UInt8.ofNat n.toNat)) ByteArray.empty
theorem vH : ∀ (xs : List Int) (s : ByteArray), (xs.foldl (fun r n => r.push (UInt8.ofNat n.toNat)) s).data.toList = s.data.toList ++ xs.map fun n => UInt8.ofNat n.toNat
 | [],s=>by simp
 | x::xs,s=>by
   rw[List.foldl_cons,vH xs];simp[ByteArray.push]
theorem byte_inj {x y:Int}(hx:0≤x∧x≤255)(hy:0≤y∧y≤255)(h:UInt8.ofNat x.toNat=UInt8.ofNat y.toNat):x=y:=by
 have:=congrArg UInt8.toNat h;simp[UInt8.toNat_ofNat']at this
 omega
theorem bytes_inj : ∀ (a b : List Int), (∀ x ∈ a, 0 ≤ x ∧ x ≤ 255) → (∀ x ∈ b, 0 ≤ x ∧ x ≤ 255) → (a.map fun n => UInt8.ofNat n.toNat) = (b.map fun n => UInt8.ofNat n.toNat) → a = b
 | [],[],_,_,_=>rfl
 | [],_::_,_,_,h=>by simp at h
 | _::_,[],_,_,h=>by simp at h
 | x::a,y::b,ha,hb,h=>by
   rw[Qt,Qt,List.cons.injEq]at h;rw[byte_inj (ha x (by simp)) (hb y (by simp)) h.1,bytes_inj a b (fun z hz=>ha z (by simp[hz])) (fun z hz=>hb z (by simp[hz])) h.2]
theorem strB_inj {a b:List Int}(ha:∀x∈a,0≤x∧x≤255)(hb:∀x∈b,0≤x∧x≤255)(h:strB a=strB b):a=b:=by
 have h1:=vH a ByteArray.empty;have h2:=vH b ByteArray.empty;have h3:(strB a).data.toList=(strB b).data.toList:=by rw[h]
 unfold strB at h3;rw[h1,h2]at h3;exact bytes_inj a b ha hb (by simpa using h3)
section
variable {P:Program} {n:Nat} {σ:Nat→Value} {ty t t':TypeId} {x y ix:Operand} {X:List Nat} {w0 w:World} {I0 I:Imm} {L:List Res}
theorem g_strI {u : Value} {xs : List Int} {e : TypeId} (hs : P.underlying t = some (.slice e)) (he : P.underlying e = some (.int .u8)) (hd : P.underlying t' = some .string) (hr : RBytes I u xs) (hx : ev n σ x = u) :
 Gives P (ev n σ) (KS X w0 I0 I L) (.convert t t' x) ty (.string (strB xs)):=fun w hw=>by
 have hconv:(convert t t' (ev n σ x)).run P w = .ok (.string (strB xs)) w:=by
  rw[hx];rcases hr with ⟨⟨a,cap,rfl,_⟩,rfl⟩ | ⟨b,o,cap,rfl,h1,h2,h3⟩
  · rw [run_convert_bytes_string w t t' e _ _ _ hs he hd]
    cases a with
    | none=>rfl
    | some a=>exact run_bytesToString w _ _ _ [] (run_loadCells_list (P:=P) w a [] (fun j v hv=>by simp at hv))
  · rw [run_convert_bytes_string w t t' e _ _ _ hs he hd]
    refine run_bytesToString w _ _ _ xs ?_;have:=run_loadCells_list (P:=P) w ⟨b,o,none⟩ (xs.map (Value.int .u8)) (fun j v hv=>by
     rw[uW]at hv;cases e:xs[j]? with
     | none=>rw[e]at hv; simp at hv
     | some z =>
       rw[e]at hv;simp at hv
       subst hv;obtain⟨cs,c1,c2,rfl⟩:=h3 j z e;have:=c2.cell hw.imm 0 _ rfl;rw[qL]at this ⊢;simpa using this)
    rwa [Qb]at this
 simp only[execOp,Sem.run_bind,hconv,Result.andThen_ok]; rfl
theorem g_eqlStr {S:World→Prop}{a b:ByteArray}(hx:ev n σ x = .string a)(hy:ev n σ y = .string b):Gives P (ev n σ) S (.binOp .eql t x y t') ty (.bool (a.toList == b.toList)):=fun w _=>by
 have h:(binOp .eql t (.string a) (.string b)).run P w = .ok (.bool (a.toList == b.toList)) w:=by rw[binOp_string_eql]; rfl
 simp only[execOp,hx,hy,Sem.run_bind,eqg_string,Result.andThen_ok,h]; rfl
theorem toList_data (a:ByteArray):a.toList=a.data.toList:=ByteArray.toList_eq a
theorem strB_eq {a b:List Int}(ha:∀x∈a,0≤x∧x≤255)(hb:∀x∈b,0≤x∧x≤255):((strB a).toList == (strB b).toList)=decide (a=b):=by
 rw[Bool.eq_iff_iff,beq_iff_eq,decide_eq_true_iff];refine⟨fun h=>strB_inj ha hb ?_,fun h=>by rw[h]⟩;rw[toList_data,toList_data]at h;exact ByteArray.ext (Array.toList_inj.1 h)
theorem g_eqlB {S : World → Prop} {a b : List Int} (ha : ∀ x ∈ a, 0 ≤ x ∧ x ≤ 255) (hb : ∀ x ∈ b, 0 ≤ x ∧ x ≤ 255) (hx : ev n σ x = .string (strB a)) (hy : ev n σ y = .string (strB b)) :
 Gives P (ev n σ) S (.binOp .eql t x y t') ty (.bool (decide (a=b))):=by
 have h:=g_eqlStr (P:=P) (S:=S) (t:=t) (t':=t') (ty:=ty) hx hy;rw[strB_eq ha hb]at h;exact h
theorem qQ {k : IntKind} {e : TypeId} {b o m sz : Nat} {i : Int} {o' : Nat} {S : World → Prop} (hT : P.underlying t = some (.array m e)) (hs : ∀ w, (sizeOf e).run P w = .ok sz w)
 (hx:ev n σ x = .pointer (some ⟨b,o,none⟩)) (hi:ev n σ ix = .int k i) (h0:0≤i) (h1:i < m) (ho:o+i.toNat*sz=o') :
 Gives P (ev n σ) S (.indexAddr t x ix) ty (.pointer (some ⟨b,o',none⟩)):=fun w _=>by
 subst ho;simp only[execOp,Instr.indexAt,Sem.run_bind,hi,asIntOf,Sem.run_pure,Result.andThen_ok,run_underlying hT,hx,Instr.sureAddr];simp[h0,h1,hs,qL]
theorem yl {k : IntKind} {e : TypeId} {j s c m sz : Nat} {u : Value} {i : Int} {c' : Nat} {S : World → Prop} (hT : P.underlying t = some (.array m e)) (hs : ∀ w, (sizeOf e).run P w = .ok sz w)
 (hx:ev n σ x = .pointer (some (elA u j s c))) (hi:ev n σ ix = .int k i) (h0:0≤i) (h1:i < m) (ho:c+i.toNat*sz=c') :
 Gives P (ev n σ) S (.indexAddr t x ix) ty (.pointer (some (elA u j s c'))):=fun w _=>by
 subst ho;simp only[execOp,Instr.indexAt,Sem.run_bind,hi,asIntOf,Sem.run_pure,Result.andThen_ok,run_underlying hT,hx,Instr.sureAddr];simp[h0,h1,hs,yH]
end
end Go.Inl
namespace Go.Inl
open Go Go.RowKit
section
variable {P : Program} {n : Nat} {df : List Deferred} {ro : Option Nat} {σ : Nat → Value} {w : World} {Q : Exit → Act → World → Prop} {rest l : List Oper} {d : Option Tmp} {op : Op} {ty : TypeId} {p : String} {af : Array Edge}
 {X:List Nat} {w0:World} {I0 I:Imm} {L:List Res} {v:Value} {j t i:Nat} {g:Bool} {R:Value→World→Prop} {r:Od}
theorem qqs (hj' : dstAt l j = some t) (hv : ev n σ (.tmp t) = .bool g) (Z : St X w0 I0 I w L) (h : Gives P (ev n σ) (KS X w0 I0 I L) op ty v) (k : OL P l Q n df rest (updO σ d v) w) :
 OL P l Q n df (⟨d,op,ty,p,af,some (j,g)⟩::rest) σ w:=⟨wl_gt (S:=KS X w0 I0 I L) (jZ hj') hv Z h k.run⟩
theorem qes (hj' : dstAt l j = some t) (hv : ev n σ (.tmp t) = .bool g) (h : Does P (ev n σ) op ty w R) (k : ∀ v w', R v w' → OL P l Q n df rest (updO σ d v) w') :
 OL P l Q n df (⟨d,op,ty,p,af,some (j,g)⟩::rest) σ w:=⟨wl_et (jZ hj') hv h fun v w' hR=>(k v w' hR).run⟩
end
theorem RSl.ofAt {α : Type} {I : Imm} {sz b m : Nat} {R : List Value → α → Prop} {css : List (List Value)} {cs : List Value} {xs : List α} (h : atI I ⟨b, 0, none⟩ cs) (hc : cs = css.flatten) (hl : ∀ c ∈ css, c.length = sz) (hx : All2 R css xs) (hm : m = xs.length) (hb : xs.length ≤ maxLen) :
 RSl I sz R (.slice (some ⟨b,0,none⟩) m m) xs:=by
 subst hm hc;refine .inr ⟨b,0,_,rfl,uc _,hb,fun i x hxi=>?_⟩;have hi:=(xX.1 hxi).1;have hcs:css[i]? = some (css[i]'(by rw[hx.1]; exact hi)):=xI _;exact⟨_,hl _ (xR hcs),h.part (i*sz) _ fun j v hv=>za css hl i _ hcs j v hv,hx.2 i _ x hcs hxi⟩
theorem All2.ofMap {α:Type}{R:List Value→α→Prop}(f:α→List Value)(xs:List α)(h:∀x,R (f x) x):All2 R (xs.map f) xs:=by
 refine⟨by simp,fun i cs x h1 h2=>?_⟩;rw[uW,h2]at h1;simp at h1; subst h1; exact h x
theorem RFl.ofAt {α : Type} {I : Imm} {sz b : Nat} {enc : α → List Value} (he : ∀ x, (enc x).length = sz) (xs : List α) {cs : List Value} (h : atI I ⟨b, 0, none⟩ cs) (hc : cs = flat enc xs) (hb : xs.length ≤ maxLen) :
 RFl I sz enc (.slice (some ⟨b,0,none⟩) xs.length xs.length) xs :=
 RSl.ofAt (css:=xs.map enc) h (by rw[hc]; simp[flat,List.flatMap_def]) (fun c hc=>by obtain⟨x,_,rfl⟩:=Qu.1 hc; exact he x) (All2.ofMap enc xs fun _=>rfl) rfl hb
theorem flat_one' {α:Type}{enc:α→List Value}(h:∀x,(enc x).all (·.oneCell')=true)(xs:List α):(flat enc xs).all (·.oneCell')=true:=by
 rw[Ke];intro v hv;obtain⟨x,_,hx⟩:=List.mem_flatMap.1 hv;exact Ke.1 (h x) v hx
theorem yY {α : Type} {I : Imm} {sz b : Nat} {enc : α → List Value} {w : World} (he : ∀ x, (enc x).length = sz) (hw : Sat I w) : ∀ (xs : List α) (o : Nat), (∀ i x, xs[i]? = some x → ∃ cs, cs.length = sz ∧ atI I ⟨b, o + i * sz, none⟩ cs ∧ cs = enc x) →
 ∀j v,(flat enc xs)[j]? = some v→w.cell? ⟨b,o+j,none⟩=some v
 | [],_,_,j,v,hv=>by simp[flat]at hv
 | x::xs,o,h,j,v,hv=>by
   simp only[flat,List.flatMap_cons]at hv;by_cases hj:j < sz
   · rw [ux (by rw [he]; exact hj)] at hv
     obtain⟨cs,_,h2,rfl⟩:=h 0 x rfl;have:=h2.cell hw j v hv;rw[qL]at this;simpa using this
   · rw [uB (by rw [he]; omega), he] at hv
     have:=yY he hw xs (o+sz) (fun i y hy=>by
      obtain⟨cs,h1,h2,h3⟩:=h (i+1) y (by simpa using hy);exact⟨cs,h1,by rw[Nat.add_mul,Nat.one_mul,Nat.add_comm (i*sz) sz,← Nat.add_assoc]at h2; exact h2,h3⟩) (j - sz) v hv
     rwa [show o+sz+(j - sz)=o+j by omega]at this
theorem qO {P : Program} {n : Nat} {σ : Nat → Value} {w : World} {ty : TypeId} {X : List Nat} {w0 : World} {I0 I : Imm} {L : List Res} (k : Nat) {α : Type} {enc : α → List Value} {t e : TypeId} {sz by' : Nat} {z : Value} {x y : Operand} {aT : Array TypeId} {u u' : Value} {m : Nat} {xs : List Value} {ys : List α}
 (Z:St X w0 I0 I w L) (ho:aT = #[t,t]) (hT:P.underlying t=some (.slice e)) (hi:Info P e z sz by') (hzs:z.cells.size=sz) (h0:Nat.blt 0 sz=true) (hL:L[k]? = some (.row u e sz m xs)) (hx:ev n σ x=u)
 (he:∀x,(enc x).length=sz) (h1:∀x,(enc x).all (·.oneCell')=true) (hr:RFl I sz enc u' ys) (hy:ev n σ y=u') (h63:m+ys.length≤9223372036854775807) (hbytes:(m+ys.length)*by'≤140737488355328) :
 Does P (ev n σ) (.call { callee:=.builtin .append,args := #[x,y],argTypes:=aT }) ty w fun v w'=>∃ad cap,v = .slice ad (m+ys.length) cap∧St X w0 I0 I w' (L.set k (.row (.slice ad (m+ys.length) cap) e sz (m+ys.length) (xs++flat enc ys))):=by
 rcases hr with ⟨⟨a,cap,rfl,_,hcn⟩,rfl⟩ | ⟨b,o,cap,rfl,h2,h3,h4⟩
 · cases a with
   | some a=>exact i_append k Z ho hT hi hzs h0 hL hx hy (qU he []) (fun j v hv=>by simp[flat]at hv) (flat_one' h1 []) h63 hbytes
   | none =>
     obtain rfl:=hcn rfl;have hown:w.ownsRow 0 e sz u m xs:=Z.hold _ (xR hL);obtain⟨i,k1,k2,k3,k4⟩:=hi;subst ho;have hrun:=run_append_owned_none (P:=P) w 0 t ty e i sz hT k1 u m xs hown;have hset:L.set k (.row u e sz (m+([]:List α).length) (xs++flat enc ([]:List α)))=L:=by
      have h:=xX.1 hL;simp only[flat,List.flatMap_nil,List.append_nil,List.length_nil,Nat.add_zero];rw[← h.2]; exact List.set_getElem_self h.1
     refine qP (v:=u) (w':=w) ?_ ?_
     · simp only[execOp,resolve,invoke,builtin,List.map_toArray,Qt,List.map_nil,hx,hy,Sem.run_bind,Sem.run_pure,Result.andThen_ok,hrun]
     · rcases kI Z hL with ⟨_, ⟨rfl, rfl⟩ | ⟨g, cap, rfl, _⟩⟩
       · exact⟨none,0,rfl,by rw[show(Value.slice none (0+([]:List α).length) 0) = .slice none 0 0 from rfl,hset]; exact Z⟩
       · exact⟨_,cap,rfl,by rw[show(Value.slice (some ⟨g,0,none⟩) (m+([]:List α).length) cap) = .slice (some ⟨g,0,none⟩) m cap from rfl,hset]; exact Z⟩
 · exact i_append k Z ho hT hi hzs h0 hL hx hy (qU he ys) (fun j v hv=>by rw[qL]; exact yY he Z.imm ys o h4 j v hv) (flat_one' h1 ys) h63 hbytes
theorem All2.one {α:Type}{R:List Value→α→Prop}{cs:List Value}{x:α}(h:R cs x):All2 R [cs] [x]:=(All2.nil R).snoc h
theorem All2.cons {α:Type}{R:List Value→α→Prop}{cs:List Value}{x:α}{css:List (List Value)}{xs:List α}(h:R cs x)(k:All2 R css xs):All2 R (cs::css) (x::xs):=by
 refine⟨by simp[k.1],fun i c y hc hy=>?_⟩;cases i with
 | zero=>simp at hc hy; subst hc; subst hy; exact h
 | succ i=>exact k.2 i c y (by simpa using hc) (by simpa using hy)
theorem All2.two {α:Type}{R:List Value→α→Prop}{cs ds:List Value}{x y:α}(h:R cs x)(k:R ds y):All2 R [cs,ds] [x,y]:=(All2.one h).snoc k
end Go.Inl
namespace Go.Inl
open Go Go.RowKit
section
variable {P:Program} {n:Nat} {σ:Nat→Value} {w:World} {ty:TypeId} {X:List Nat} {w0:World} {I0 I:Imm} {L:List Res}
def YAt (P:Program)(l:Nat)(args:List Value)(w:World)(R:Value→World→Prop):Prop :=
 ∃f tmps assign body,(Instr.yield l args.toArray).run P w = .ok (.round l f tmps assign body) w∧RoundIn Fence.wide 0 P l f tmps assign body w (fun e w'=>∃v,e = .returned v∧R v w')
theorem d_yield {l : Nat} {x : Operand} {ls : List Operand} {aT : Array TypeId} {vs : List Value} {R : Value → World → Prop} (hx : ev n σ x = .func (.yield l) #[] #[]) (ha : ls.map (ev n σ) = vs) (h : YAt P l vs w R) :
 Does P (ev n σ) (.call { callee:=.value x,args:=ls.toArray,argTypes:=aT }) ty w R:=by
 obtain⟨f,tmps,assign,body,hy,hR⟩:=h;refine⟨?_⟩
 have he : (execOp (ev n σ) ⟨none, .call { callee := .value x, args := ls.toArray, argTypes := aT }, ty, "", #[], none⟩).run P w = .ok (.round l f tmps assign body) w := by
  subst ha;simp[execOp,resolve,Deferred.ofValue,hx,invoke,hy]
 rw[he];exact hR
def YC (P:Program)(l:Nat)(J Jx:Nat→Imm→World→Prop)(arg:Nat→List Value)(N:Nat):Prop :=
 ∀k I w,k < N→Sat I w→J k I w→YAt P l (arg k) w (fun v w'=>∃I',Sat I' w'∧Sub I I'∧((v = .bool true∧J (k+1) I' w')∨(v = .bool false∧Jx k I' w')))
def Stab (J:Nat→Imm→World→Prop):Prop:=∀k I w I' w',J k I w→Ext w I w' I'→J k I' w'
def IterC (P:Program)(gf:FuncId)(lb:List Value)(arg:Nat→List Value)(N:Nat)(I:Imm):Prop :=
 ∀ (l : Nat) (J Jx : Nat → Imm → World → Prop) (w1 : World) (I1 : Imm), Stab J → YC P l J Jx arg N → Sat I1 w1 → Sub I I1 → J 0 I1 w1 →
   Ctr P gf (.func (.yield l) #[] #[]::lb) w1 (fun v w'=>∃I',Sat I' w'∧Sub I1 I'∧(J N I' w'∨∃k,k < N∧Jx k I' w'))
theorem St.newObj (h:St X w0 I0 I w L)(o:Obj):St X w0 I0 I (w.alloc o) (.obj w.heap.size o::L):=by
 have keep:∀k,k < w.heap.size→(w.alloc o).heap[k]? = w.heap[k]? := fun k hk=>Below.heap_alloc _ _ _ hk
 refine⟨h.os,h.tape,h.output,Nat.le_trans h.size (by simp),fun k hk hx=>(keep k (Nat.lt_of_lt_of_le hk h.size)).trans (h.block k hk hx),?_,h.old,h.ext,?_,?_,?_⟩
 · intro b o hb
   exact(keep b (Array.getElem?_eq_some_iff.1 (h.imm b o hb)).1).trans (h.imm b o hb)
 · intro r hr
   cases xV.1 hr with
   | inl e=>subst e; exact World.alloc_heap_new w o
   | inr hr=>exact Res.holds_of (h.hold r hr) (fun b hb=>keep b (Res.foot_lt (h.hold r hr) b hb))
 · intro r hr b hb
   cases xV.1 hr with
   | inl e=>subst e; simp only[Res.foot,uG]at hb; subst hb; exact⟨h.none_of_size (uc _),.inl h.size⟩
   | inr hr=>exact h.new r hr b hb
 · simp only [List.flatMap_cons, Res.foot, List.singleton_append, List.nodup_cons]
   exact⟨fun hm=>by have:=h.foot_lt _ hm; omega,h.nodup⟩
theorem St.putO (h:St X w0 I0 I w L){k b:Nat}{o o':Obj}(hk:L[k]? = some (.obj b o)):St X w0 I0 I (w.putObj b o') (L.set k (.obj b o')):=by
 have hb:w.heap[b]? = some o:=h.hold _ (xR hk);refine h.change hk rfl rfl rfl (by simp) (fun c _ hc=>World.putObj_heap_other (fun e=>hc (by simp[Res.foot,e]))) (fun c hc=>.inl hc) (by simp[Res.foot]) ?_;exact World.putObj_heap_same (Array.getElem?_eq_some_iff.1 hb).1
theorem St.rebase (h:St X w0 I0 I w L):St (L.flatMap Res.foot) w I I w L :=
 ⟨rfl,rfl,rfl,uc _,fun _ _ _=>rfl,h.imm,fun _ _=>rfl,Sub.refl _,h.hold,fun r hr b hb=>⟨(h.new r hr b hb).1,.inr (List.mem_flatMap.2 ⟨r,hr,hb⟩)⟩,h.nodup⟩
theorem St.unbase {w':World}{I':Imm}{L':List Res}(h:St X w0 I0 I w L)(h':St (L.flatMap Res.foot) w I I' w' L'):St X w0 I0 I' w' L':=by
 refine⟨h'.os.trans h.os,h'.tape.trans h.tape,h'.output.trans h.output,Nat.le_trans h.size h'.size,fun k hk hx=>?_,h'.imm,fun b hb=>(h'.old b (Nat.lt_of_lt_of_le hb h.size)).trans (h.old b hb),h.ext.trans h'.ext,h'.hold,fun r hr b hb=>?_,h'.nodup⟩
 · refine (h'.block k (Nat.lt_of_lt_of_le hk h.size) fun hm => ?_).trans (h.block k hk hx)
   obtain⟨r,hr,hb⟩:=List.mem_flatMap.1 hm;rcases(h.new r hr k hb).2 with h1 | h1
   · omega
   · exact hx h1
 · obtain ⟨h1, h2⟩ := h'.new r hr b hb
   refine⟨h1,?_⟩;rcases h2 with h2 | h2
   · exact .inl (Nat.le_trans h.size h2)
   · obtain ⟨s, hs, hb'⟩ := List.mem_flatMap.1 h2
     exact(h.new s hs b hb').2
def putA (σ : Nat → Value) : List (Nat × Value) → Nat → Value
 | []=>σ
 | (t,v)::l=>putA (upd σ t v) l
theorem act_putA : ∀ (l : List (Nat × Value)) (σ : Nat → Value), l.foldl (fun tmps (p : Nat × Value) => tmps.setIfInBounds p.1 p.2) (act n [] σ).tmps = (act n [] (putA σ l)).tmps
 | [],_=>rfl
 | (t,v)::l,σ=>by
   have:=jA n [] σ (some t) v;have h1:(act n [] σ).tmps.setIfInBounds t v=(act n [] (upd σ t v)).tmps:=congrArg Act.tmps this;rw[List.foldl_cons,h1];exact act_putA l (upd σ t v)
def RP (X1 : List Nat) (w1 : World) (I1 : Imm) (D l : Nat) (oB : Obj) (inv : Nat → Imm → List Res → Prop) (invx : Nat → Code → Imm → List Res → Prop) (k : Nat) : Exit → Act → World → Prop
 | .normal,_,w=>∃I4 L4,St X1 w1 I1 I4 w (Res.obj D (.deferred (some []))::Res.obj l oB::L4)∧inv (k+1) I4 L4
 | .ret,_,w=>∃I4 L4,St X1 w1 I1 I4 w (Res.obj D (.deferred (some []))::Res.obj l oB::L4)∧invx k .ret I4 L4
 | .exit id,_,w=>∃I4 L4,St X1 w1 I1 I4 w (Res.obj D (.deferred (some []))::Res.obj l oB::L4)∧invx k (.exit id) I4 L4
 | _,_,_=>False
theorem range_wp {g : Operand} {ps : List Tmp} {assign body : Code} {Q : Exit → Act → World → Prop} {gf : FuncId} {lb : List Value} {arg : Nat → List Value} {N : Nat}
 (inv:Nat→Imm→List Res→Prop) (invx:Nat→Code→Imm→List Res→Prop)
 (Z:St X w0 I0 I w L) (hg:ev n σ g = .func (.func gf) #[] lb.toArray) (hc:∀args w,(callFunc gf args).run P w = .ok (.enter gf args) w) (hit:IterC P gf lb arg N I) (harg:∀k,(arg k).length=ps.length)
 (hmono:∀k I I' L,inv k I L→Sub I I'→inv k I' L) (h0:inv 0 I L)
 (hround : ∀ (k l D : Nat) (oR oB : Obj) (I1 : Imm) (w1 : World) (L1 : List Res) (X1 : List Nat), k < N → inv k I1 L1 → St X1 w1 I1 I1 w1 (Res.obj D (.deferred (some [])) :: Res.obj l oR :: L1) →
   assign.wpIn (fen (some l)) 0 P (Exit.then (fun a2 w2 => ∃ σ2 I2 L2, a2 = act n [] σ2 ∧ St X1 w1 I1 I2 w2 (Res.obj D (.deferred (some [])) :: Res.obj l oR :: L2) ∧
    ∀w3,St X1 w1 I1 I2 w3 (Res.obj D (.deferred (some []))::Res.obj l oB::L2)→body.wpIn (fen (some l)) 0 P (RP X1 w1 I1 D l oB inv invx k) (act n [] σ2) w3) (fun _ _ _=>False)) (act n [] (putA σ (ps.zip (arg k)))) w1)
 (hdone:∀(D:Nat) (I1:Imm) (w1:World) (L1:List Res),inv N I1 L1→St X w0 I0 I1 w1 (Res.obj D (.deferred (some []))::L1)→Q .normal (act n [⟨.collected D,#[]⟩] σ) w1)
 (hstop:∀(D k:Nat) (c:Code) (I1:Imm) (w1:World) (L1:List Res),k < N→invx k c I1 L1→St X w0 I0 I1 w1 (Res.obj D (.deferred (some []))::L1)→c.wpIn (fen none) 0 P Q (act n [⟨.collected D,#[]⟩] σ) w1) :
 (Code.rangeFunc g ps.toArray assign body).wpIn (fen none) 0 P Q (act n [] σ) w:=by
 refine wpIn_rangeFunc (F:=fen none) (n:=0) ?_;intro fn hfn;obtain⟨rec,hrec⟩:∃rec:LoopState→Option Code→Loop,rec=fun st pe=>{ state:=st,pending:=pe,fn,tmps:=(act n [] σ).tmps,params:=ps.toArray,assign,body,defers:=w.heap.size }:=⟨_,rfl⟩
 obtain⟨D,hD⟩:∃D,w.heap.size=D:=⟨_,rfl⟩
 obtain⟨l,hl⟩:∃l,w.heap.size+1=l:=⟨_,rfl⟩
 obtain⟨W1,hW1⟩:∃W1,(w.alloc (.deferred (some []))).alloc (.loop (rec .ready none))=W1:=⟨_,rfl⟩
 have hS1:St X w0 I0 I W1 (Res.obj D (.deferred (some []))::Res.obj l (.loop (rec .ready none))::L):=by
  have h1:=(Z.newObj (.deferred (some []))).newObj (.loop (rec .ready none));rw[hW1]at h1;rw[show(w.alloc (.deferred (some []))).heap.size=w.heap.size+1 by simp,hl,hD]at h1;exact h1.perm (List.Perm.swap _ _ _)
 have hev:(act n [] σ).eval g = .func (.func gf) #[] lb.toArray:=by rw[zC]; exact hg
 refine⟨l,[⟨.collected D,#[]⟩],W1,{ target:=.fn (.func gf) lb.toArray,args := #[.func (.yield l) #[] #[]] },W1,gf,#[.func (.yield l) #[] #[]]++lb.toArray,W1,?_,?_,?_,?_,fun h=>(by cases h),?_⟩
 · rw[← hW1,hrec,← hl,← hD]; exact run_enterLoop_outer _ _ _ _ _
 · simp only [resolve, hev]
   simp[go_sem]
 · intro f' hf'; exact trivial
 · simp[invoke,go_sem,hc]
 · -- the iterator's contract at what the loop keeps
   let J:Nat→Imm→World→Prop:=fun k I W=>∃L1,inv k I L1∧St X w0 I0 I W (Res.obj D (.deferred (some []))::Res.obj l (.loop (rec .ready none))::L1)
   let Jx:Nat→Imm→World→Prop:=fun k I W=>∃c L1,invx k c I L1∧St X w0 I0 I W (Res.obj D (.deferred (some []))::Res.obj l (.loop (rec .done (some c)))::L1)
   have hstab:Stab J:=by
    rintro k I W I' W' ⟨L1,h1,h2⟩hE;exact⟨L1,hmono k I I' L1 h1 hE.ext,h2.call hE⟩
   have hyc:YC P l J Jx arg N:=by
    rintro k I1 W hk hsat⟨L1,h1,h2⟩;have hlp:W.heap[l]? = some (.loop (rec .ready none)):=h2.hold (.obj l _) (by simp);have hy:=run_yield (P:=P) (args:=(arg k).toArray) hlp (by rw[hrec]; simpa using harg k);rw[hrec]at hy;refine⟨fn,_,assign,body,hy,roundIn_of_wpIn (F:=Fence.wide) (n:=0) trivial ?_⟩;have htm:((ps.toArray.zip (arg k).toArray).foldl (fun(tmps:Array Value) (x:Tmp×Value)=>tmps.setIfInBounds x.1 x.2) (act n [] σ).tmps)=(act n [] (putA σ (ps.zip (arg k)))).tmps:=by
     rw[← act_putA,← Array.foldl_toList]; simp
    have hb:=h2.rebase;have hr:=hround k l D (.loop (rec .ready none)) (.loop (rec .busy none)) I1 W L1 _ hk h1 hb;have ha:({ tmps:=(ps.toArray.zip (arg k).toArray).foldl (fun(tmps:Array Value) (x:Tmp×Value)=>tmps.setIfInBounds x.1 x.2) (act n [] σ).tmps,defers:=[] }:Act)=act n [] (putA σ (ps.zip (arg k))):=by
     rw[htm]; rfl
    show assign.wpIn (Fence.wide.inRound l) 0 P _ ({ tmps:=(ps.toArray.zip (arg k).toArray).foldl (fun(tmps:Array Value) (x:Tmp×Value)=>tmps.setIfInBounds x.1 x.2) (act n [] σ).tmps,defers:=[] }:Act) W
    rw[ha];refine wpIn_mono hr ?_;intro e a2 W2 q;cases e with
    | normal =>
      obtain⟨σ2,I2,L2,rfl,h3,h4⟩:=q;have hlp2:W2.heap[l]? = some (.loop (rec .ready none)):=h3.hold (.obj l _) (by simp);have hbg:=run_beginRound (P:=P) hlp2 (by rw[hrec]);have h5:=h3.putO (k:=1) (o':=.loop (rec .busy none)) rfl;have hbg':(Instr.beginRound l).run P W2 = .ok () (W2.putObj l (.loop (rec .busy none))):=by subst hrec; exact hbg
      refine⟨_,hbg',wpIn_mono (h4 _ h5) ?_⟩;intro e a3 W3 q;have fin : ∀ (jump : Option Code) (I4 : Imm) (L4 : List Res), St ((Res.obj D (.deferred (some [])) :: Res.obj l (.loop (rec .ready none)) :: L1).flatMap Res.foot) W I1 I4 W3 (Res.obj D (.deferred (some [])) :: Res.obj l (.loop (rec .busy none)) :: L4) →
       ∃W4,(Instr.endRound l jump).run P W3 = .ok (.bool jump.isNone) W4∧Sat I4 W4∧Sub I1 I4∧St X w0 I0 I4 W4 (Res.obj D (.deferred (some []))::Res.obj l (.loop (rec (if jump.isNone then .ready else .done) jump))::L4):=by
       intro jump I4 L4 h6;have hlp3:W3.heap[l]? = some (.loop (rec .busy none)):=h6.hold (.obj l _) (by simp);have her:=run_endRound (P:=P) jump hlp3;have h7:=h6.putO (o':=.loop (rec (if jump.isNone then .ready else .done) jump)) (k:=1) rfl;have her':(Instr.endRound l jump).run P W3 = .ok (.bool jump.isNone) (W3.putObj l (.loop (rec (if jump.isNone then .ready else .done) jump))):=by subst hrec; exact her
       exact⟨_,her',h7.imm,h7.ext,h2.unbase h7⟩
      cases e with
      | normal =>
        obtain⟨I4,L4,h6,h7⟩:=q;obtain⟨W4,g1,g2,g3,g4⟩:=fin none I4 L4 h6;exact⟨_,W4,g1,_,rfl,I4,g2,g3,.inl ⟨rfl,L4,h7,g4⟩⟩
      | ret =>
        obtain⟨I4,L4,h6,h7⟩:=q;obtain⟨W4,g1,g2,g3,g4⟩:=fin (some .ret) I4 L4 h6;exact⟨_,W4,g1,_,rfl,I4,g2,g3,.inr ⟨rfl,.ret,L4,h7,g4⟩⟩
      | exit id =>
        obtain⟨I4,L4,h6,h7⟩:=q;obtain⟨W4,g1,g2,g3,g4⟩:=fin (some (.exit id)) I4 L4 h6;exact⟨_,W4,g1,_,rfl,I4,g2,g3,.inr ⟨rfl,.exit id,L4,h7,g4⟩⟩
      | goto t=>exact q.elim
      | panic c=>exact q.elim
      | outgrown=>exact q.elim
    | _=>exact q
   have hctr:=hit l J Jx W1 I hstab hyc hS1.imm (Sub.refl _) ⟨L,h0,hS1⟩;refine callsIn_wide.2 ?_;have hcalls:=hctr.calls;rw[show(Value.func (.yield l) #[] #[]::lb).toArray = #[.func (.yield l) #[] #[]]++lb.toArray by simp]at hcalls;refine Calls.mono hcalls ?_;rintro e W2⟨v,rfl,I',hsat,hsub,hJ | ⟨k,hk,hJ⟩⟩
   · obtain ⟨L1, h1, h2⟩ := hJ
     have hlp:W2.heap[l]? = some (.loop (rec .ready none)):=h2.hold (.obj l _) (by simp);have hel:=run_endLoop (P:=P) hlp (by rw[hrec]; simp);have h3:=h2.putO (o':=.loop { rec .ready none with state:=.exhausted }) (k:=1) rfl;have h4:=h3.sub (L':=Res.obj D (.deferred (some []))::L1) (by simp);have hel':(Instr.endLoop l).run P W2 = .ok none (W2.putObj l (.loop { rec .ready none with state:=.exhausted })):=by subst hrec; exact hel
     exact⟨none,_,hel',hdone D I' _ L1 h1 h4⟩
   · obtain ⟨c, L1, h1, h2⟩ := hJ
     have hlp:W2.heap[l]? = some (.loop (rec .done (some c))):=h2.hold (.obj l _) (by simp);have hel:=run_endLoop (P:=P) hlp (by rw[hrec]; simp);have h3:=h2.putO (o':=.loop { rec .done (some c) with state:=.exhausted }) (k:=1) rfl;have h4:=h3.sub (L':=Res.obj D (.deferred (some []))::L1) (by simp);have hel':(Instr.endLoop l).run P W2 = .ok (some c) (W2.putObj l (.loop { rec .done (some c) with state:=.exhausted })):=by subst hrec; exact hel
     exact⟨some c,_,hel',hstop D k c I' _ L1 hk h1 h4⟩
/-! ### Returns of a function that holds such a loop -/
theorem fnM {f : FuncId} {fn : Func} {c : Code} {l : List Value} {R' : Value → World → Prop} (hf : P.funcs[f]? = some fn) (hb : fn.body = some c) (hn : fn.ntmps = n) (hl : Nat.ble l.length n = true)
 (h:c.wpIn (fen none) 0 P (bodyPostM (fen none) 0 P fn fun e w'=>∃v,e = .returned v∧R' v w') (act n [] (args l)) w):Ctr P f l w R' :=
 ⟨(callsIn_wide (n:=0)).1 (callsIn_of_wp_marks (F:=fen none) hf hb trivial (by rw[hn,yM l n (xH hl)]; exact h) rfl)⟩
theorem retM2 {fn : Func} {a b : ResultVar} {va vb : Value} {R' : Value → World → Prop} (hr : fn.results = #[a, b]) (h1 : ResV P n σ w a va) (h2 : ResV P n σ w b vb) (h : R' (.tuple #[va, vb]) w) :
 bodyPostM (fen none) 0 P fn (fun e w'=>∃v,e = .returned v∧R' v w') .ret (act n [] σ) w :=
 ⟨.tuple #[va,vb],by have e1:=jU (df:=[]) h1; have e2:=jU (df:=[]) h2; rw[ke,hr]; simp[e1,e2],_,rfl,h⟩
theorem retD1 {fn : Func} {a : ResultVar} {R' : Value → World → Prop} {D k : Nat} (hr : fn.results = #[a]) (Z : St X w0 I0 I w L) (hk : L[k]? = some (.obj D (.deferred (some []))))
 (h:∀w',St X w0 I0 I w' (L.set k (.obj D (.deferred none)))→∃va,ResV P n σ w' a va∧R' va w') :
 bodyPostM (fen none) 0 P fn (fun e w'=>∃v,e = .returned v∧R' v w') .ret (act n [⟨.collected D,#[]⟩] σ) w:=by
 have hD:w.heap[D]? = some (.deferred (some [])):=Z.hold _ (xR hk);obtain⟨va,h1,h3⟩:=h _ (Z.putO hk);refine⟨by simp,.inl ⟨D,_,rfl,run_takeDeferred hD,va,?_,_,rfl,h3⟩⟩;have e1:=jU (df:=[⟨.collected D,#[]⟩]) h1;rw[ke,hr]; simp[e1]
end
end Go.Inl
namespace Go.Inl
open Go Go.RowKit
section
variable {P:Program} {n:Nat} {df:List Deferred} {ro:Option Nat} {σ:Nat→Value} {w:World} {ty:TypeId} {X:List Nat} {w0:World} {I0 I:Imm} {L:List Res}
theorem St.drew (h:St X w0 I0 I w L):St X w0 I0 I w.drew L:=⟨h.os,h.tape,h.output,h.size,h.block,h.imm,h.old,h.ext,h.hold,h.new,h.nodup⟩
/-! ### Strings -/
theorem g_indexStr {t : TypeId} {x ix : Operand} {s : ByteArray} {k : IntKind} {i : Int} {b : Int} (hT : P.underlying t = some .string) (hx : ev n σ x = .string s) (hi : ev n σ ix = .int k i) (h0 : 0 ≤ i) (h1 : i < s.size)
 {S:World→Prop} (hb:((s.get! i.toNat).toNat:Int)=b):Gives P (ev n σ) S (.index t x ix) ty (.int .u8 b):=fun w _=>by
 have hr:=run_index_string (P:=P) w t s k i hT;rw[dif_pos ⟨h0,h1⟩]at hr;have e:s.get! i.toNat=s[i.toNat]'(by omega):=by
  simp[ByteArray.get!,getElem!_pos,show i.toNat < s.size by omega]
  rfl
 rw[e]at hb;simp only[execOp,hx,hi,Sem.run_bind,hr,Result.andThen_ok,hb]; rfl
/-! ### Guarded operations of any effect; yields -/
variable {Q:Exit→Act→World→Prop} {rest l:List Oper} {d:Option Tmp} {op:Op} {p:String} {af:Array Edge} {j t:Nat} {g g':Bool} {R:Value→World→Prop}
theorem gvu (hj' : dstAt l j = some t) (hv : ev n σ (.tmp t) = .bool g') (h : g' = g → Does P (ev n σ) op ty w R)
 (k:∀w' u,((g'=g∧R u w')∨(¬g'=g∧u=undef∧w'=w))→OL P l Q n df rest (updO σ d u) w'):OL P l Q n df (⟨d,op,ty,p,af,some (j,g)⟩::rest) σ w:=by
 have hj:=jZ hj';by_cases e:g'=g
 · subst e
   exact⟨wl_et hj hv (h rfl) fun v w' hR=>(k w' v (.inl ⟨rfl,hR⟩)).run⟩
 · exact⟨wl_gf hj hv (kJ e) (k w undef (.inr ⟨e,rfl,rfl⟩)).run⟩
theorem d_yieldC {lp k N : Nat} {J Jx : Nat → Imm → World → Prop} {arg : Nat → List Value} {x : Operand} {ls : List Operand} {aT : Array TypeId} (hx : ev n σ x = .func (.yield lp) #[] #[]) (ha : ls.map (ev n σ) = arg k) (hyc : YC P lp J Jx arg N) (hk : k < N)
 (hsat:Sat I w) (hJ:J k I w) :
 Does P (ev n σ) (.call { callee:=.value x,args:=ls.toArray,argTypes:=aT }) ty w fun v w'=>∃(b:Bool) (I':Imm),v = .bool b∧Sat I' w'∧Sub I I'∧(b=true→J (k+1) I' w')∧(b=false→Jx k I' w'):=by
 refine(d_yield hx ha (hyc k I w hk hsat hJ)).mono ?_;rintro v w' ⟨I',h1,h2,⟨rfl,h3⟩ | ⟨rfl,h3⟩⟩
 · exact⟨true,I',rfl,h1,h2,fun _=>h3,fun h=>(by cases h)⟩
 · exact⟨false,I',rfl,h1,h2,fun h=>(by cases h),fun _=>h3⟩
end
end Go.Inl
