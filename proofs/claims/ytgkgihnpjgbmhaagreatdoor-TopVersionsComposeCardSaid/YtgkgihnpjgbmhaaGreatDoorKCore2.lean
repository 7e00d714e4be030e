/- The data of packages api and normal as plain Lean, and what values read as them. Conditions: none. What packages patch and normal compute, as plain Lean. Conditions: none. Bytes as a string, strings compared, an element of an array. Conditions: none. Guards that are known to be open; literals that are read only; append of what is read only. Conditions: none. Loops over functions: what an iterator owes, what a round owes, the loop, and a function's return behind such a loop. Conditions: none. Strings gone over and indexed, append of n zero values to nil, guarded operations of any effect, what an iterator's loop needs. Conditions: none. -/
import Derived.Test.YtgkgihnpjgbmhaaGreatDoorAl
import Derived.Test.YtgkgihnpjgbmhaaGreatDoorKCore
import Derived.Laws.BytesString
import Derived.Laws.Strings
import Derived.Laws.OwnMore
import Derived.Laws.RangeString
import Derived.Lib.AppendZeros
set_option linter.unusedSimpArgs false
set_option linter.unusedVariables false
namespace Go.Inl
open Go Go.RowKit
/-! ### Plain data -/
structure Sym where
 old:Bool
 at_:Int
 b:Int
def symC (s:Sym):List Value:=[.bool s.old,.int .i64 s.at_,.int .u8 s.b]
def symV (s:Sym):Value:=.agg #[.bool s.old,.int .i64 s.at_,.int .u8 s.b]
theorem jF (s:Sym):(symC s).length=3:=rfl
def Sym.ok (s:Sym):Prop:=0≤s.at_∧s.at_≤65536∧0≤s.b∧s.b≤255
def Sym.wf (s:Sym):Prop:=-1099511627776≤s.at_∧s.at_≤1099511627776∧0≤s.b∧s.b≤255
def symEq (a b:Sym):Bool:=(a.old == b.old) && (decide (a.at_=b.at_) && decide (a.b=b.b))
def byteC (b:Int):List Value:=[.int .u8 b]
theorem qx (b:Int):(byteC b).length=1:=rfl
def intC (b:Int):List Value:=[.int .i64 b]
theorem qO (b:Int):(intC b).length=1:=rfl
structure OpL where
 kind:Int
 from_:Int
 len:Int
 b:Int
 data:List Int
structure PatL where
 lifted:Bool
 in_:Int
 out:Int
 ops:List OpL
def PatL.zero:PatL:=⟨false,0,0,[]⟩
def ROp (I:Imm)(cs:List Value)(x:OpL):Prop:=∃ad m cap,cs=[.int .i64 x.kind,.int .i64 x.from_,.int .i64 x.len,.int .u8 x.b,.slice ad m cap]∧RFl I 1 byteC (.slice ad m cap) x.data
theorem ROp.mono {I J:Imm}{cs:List Value}{x:OpL}(h:ROp I cs x)(hs:Sub I J):ROp J cs x:=by
 obtain⟨ad,m,cap,h1,h2⟩:=h;exact⟨ad,m,cap,h1,h2.mono hs⟩
def ROps (I:Imm)(v:Value)(l:List OpL):Prop:=RSl I 5 (ROp I) v l
theorem ROps.mono {I J:Imm}{v:Value}{l:List OpL}(h:ROps I v l)(hs:Sub I J):ROps J v l:=RSl.mono h hs fun _ _ h=>h.mono hs
abbrev RSyms (I:Imm)(v:Value)(l:List Sym):Prop:=RFl I 3 symC v l
abbrev RBytes (I:Imm)(v:Value)(l:List Int):Prop:=RFl I 1 byteC v l
theorem RFl.nil {α:Type}{I:Imm}{sz:Nat}{enc:α→List Value}:RFl I sz enc (.slice none 0 0) []:=.inl ⟨⟨none,0,rfl,by simp,fun _=>rfl⟩,rfl⟩
theorem RSl.sl {α:Type}{I:Imm}{sz:Nat}{R:List Value→α→Prop}{v:Value}{xs:List α}(h:RSl I sz R v xs):∃ad cap,v = .slice ad xs.length cap:=by
 obtain⟨ad,cap,h1,_⟩:=h.len;exact⟨ad,cap,h1⟩
/-! ### Slices whose elements hold slices -/
def All2 {α:Type}(R:List Value→α→Prop)(css:List (List Value))(xs:List α):Prop:=css.length=xs.length∧∀(i:Nat) cs x,css[i]? = some cs→xs[i]? = some x→R cs x
theorem All2.nil {α:Type}(R:List Value→α→Prop):All2 R [] ([]:List α):=⟨rfl,by simp⟩
theorem All2.snoc {α:Type}{R:List Value→α→Prop}{css:List (List Value)}{xs:List α}{cs:List Value}{x:α}(h:All2 R css xs)(hx:R cs x):All2 R (css++[cs]) (xs++[x]):=by
 refine⟨by simp[h.1],fun i cs' x' h1 h2=>?_⟩;by_cases hi:i < css.length
 · rw [xg hi] at h1
   rw[xg (by rw[← h.1]; exact hi)]at h2;exact h.2 i cs' x' h1 h2
 · have hi1 := (vY.1 h1).1
   have:i=css.length:=by simp at hi1; omega
   subst this;rw[xx (vX _)]at h1;rw[h.1,xx (vX _)]at h2;simp at h1 h2
   subst h1 h2;exact hx
theorem All2.mono {α:Type}{R R':List Value→α→Prop}{css:List (List Value)}{xs:List α}(h:All2 R css xs)(hR:∀cs x,R cs x→R' cs x):All2 R' css xs:=⟨h.1,fun i cs x h1 h2=>hR _ _ (h.2 i cs x h1 h2)⟩
theorem kg {sz : Nat} : ∀ (css : List (List Value)), (∀ cs ∈ css, cs.length = sz) → ∀ (i : Nat) (cs : List Value), css[i]? = some cs → ∀ (j : Nat) v, cs[j]? = some v → css.flatten[i * sz + j]? = some v
 | [],_,i,cs,h=>by simp at h
 | c::css,hl,0,cs,h=>by
   simp at h; subst h
   intro j v hv;simp only[List.flatten_cons,Nat.zero_mul,xV];rw[xg (vY.1 hv).1]; exact hv
 | c::css,hl,i+1,cs,h=>by
   intro j v hv;have:=kg css (fun c hc=>hl c (by simp[hc])) i cs (by simpa using h) j v hv;have hc:=hl c (by simp);simp only[List.flatten_cons];rw[xx (by rw[hc,Nat.add_mul]; omega),hc,show(i+1)*sz+j - sz=i*sz+j by rw[Nat.add_mul]; omega];exact this
theorem St.freezeRowR {α : Type} {R : List Value → α → Prop} {sz m : Nat} {E : TypeId} {u : Value} {css : List (List Value)} {xs : List α} {w0 w : World} {I0 I : Imm} {L : List Res} (h : St [] w0 I0 I w (.row u E sz m css.flatten :: L)) (hm : m = xs.length)
 (hl:∀cs∈css,cs.length=sz) (hx:All2 R css xs):∃I',St [] w0 I0 I' w L∧Sub I I'∧RSl I' sz R u xs:=by
 have hh:w.ownsRow 0 E sz u m css.flatten:=h.hold (.row u E sz m css.flatten) (by simp);obtain⟨h1,h2,h3⟩:=h.freeze;refine⟨_,h1,h2,?_⟩;subst hm;rcases hh.2 with ⟨rfl,h0⟩ | ⟨g,cap,cur,rfl,_,hg,h4,h5,_,h7⟩
 · exact .inl ⟨⟨none,0,rfl,by simp,fun _=>rfl⟩,uk.1 h0⟩
 · have hI := h3 g (by simp [Res.foot, Value.ownBlock])
   rw[hg]at hI;refine .inr ⟨g,0,cap,rfl,h4,h5,fun i x hxi=>?_⟩;have hi:=(vY.1 hxi).1;have hcs:css[i]? = some (css[i]'(by rw[hx.1]; exact hi)):=vC _;refine⟨_,hl _ (vI hcs),⟨rfl,cur,E,(0,0),hI,fun j v hv=>?_⟩,hx.2 i _ x hcs hxi⟩;have:=kg css hl i _ hcs j v hv;rw[← h7,List.getElem?_take]at this;simp only[xV];split at this
   · simpa using this
   · cases this
theorem RSl.nilR {α:Type}{I:Imm}{sz:Nat}{R:List Value→α→Prop}:RSl I sz R (.slice none 0 0) []:=.inl ⟨⟨none,0,rfl,by simp,fun _=>rfl⟩,rfl⟩
/-! ### Prices and places of package normal -/
structure Pr where
 cost:Int
 ops:Int
def prV (p:Pr):Value:=.agg #[.int .i64 p.cost,.int .i64 p.ops]
def Pr.less (p q:Pr):Bool:=decide (p.cost < q.cost) || (decide (p.cost=q.cost) && decide (p.ops < q.ops))
def Pr.plus (p:Pr)(c o:Int):Pr:=⟨p.cost+c,p.ops+o⟩
def Pr.ok (B:Int)(p:Pr):Prop:=0≤p.cost∧p.cost≤B∧0≤p.ops∧p.ops≤B
structure Pl where
 best:Pr
 kind:Int
 length:Int
 diff:Pr
 diffLen:Int
 lit:Pr
 litLen:Int
 copyRun:Int
 equalRun:Int
def Pl.zero:Pl:=⟨⟨0,0⟩,0,0,⟨0,0⟩,0,⟨0,0⟩,0,0,0⟩
def plC (p:Pl):List Value:=[.int .i64 p.best.cost,.int .i64 p.best.ops,.int .i64 p.kind,.int .i64 p.length,.int .i64 p.diff.cost,.int .i64 p.diff.ops,.int .i64 p.diffLen,.int .i64 p.lit.cost,.int .i64 p.lit.ops,.int .i64 p.litLen,.int .i64 p.copyRun,.int .i64 p.equalRun]
def plV (p:Pl):Value:=.agg #[.int .i64 p.best.cost,.int .i64 p.best.ops,.int .i64 p.kind,.int .i64 p.length,.int .i64 p.diff.cost,.int .i64 p.diff.ops,.int .i64 p.diffLen,.int .i64 p.lit.cost,.int .i64 p.lit.ops,.int .i64 p.litLen,.int .i64 p.copyRun,.int .i64 p.equalRun]
theorem kD (p:Pl):(plC p).length=12:=rfl
def goesOn (a b:Sym):Bool:=(a.old && b.old) && decide (b.at_=a.at_+1)
def openS (rest:Pl)(more:Pr)(n:Int)(on:Bool):Pr×Int :=
 if on && !(rest.best.plus 1 0).less (more.plus 1 0) then (more.plus 1 0,n+1) else (rest.best.plus 1 0,1)
def runsS (s next:Sym)(after:Pl)(last:Bool):Int×Int :=
 (if s.old && decide (s.b = 0) then (if !last && goesOn s next then 1 + after.copyRun else 1) else 0,
  if !s.old then (if !last && symEq s next then 1+after.equalRun else 1) else 0)
def tryS (p:Pl)(k len:Int)(c:Pr):Pl:=if (decide (p.kind=0) || c.less p.best)=true then { p with kind:=k,length:=len,best:=c } else p
def nthBest (later:List Pl)(r:Int):Pr:=(later.getD (r - 1).toNat Pl.zero).best
def mkPl (s next:Sym)(last:Bool)(later:List Pl):Pl :=
 let rest:=later.headD Pl.zero
 let r:=runsS s next rest last
 let p0:Pl:={ Pl.zero with copyRun:=r.1,equalRun:=r.2 }
 let p1:=if 0 < r.1 then tryS p0 1 r.1 ((nthBest later r.1).plus 4 1) else p0
 if s.old then
  let o:=openS rest rest.diff rest.diffLen (!last && goesOn s next)
  let p2:Pl:={ p1 with diff:=o.1,diffLen:=o.2 }
  tryS p2 2 p2.diffLen (p2.diff.plus 4 1)
 else
  let p2:=tryS p1 3 p1.equalRun ((nthBest later p1.equalRun).plus 4 1)
  let o:=openS rest rest.lit rest.litLen (!last && !next.old)
  let p3:Pl:={ p2 with lit:=o.1,litLen:=o.2 }
  tryS p3 4 p3.litLen (p3.lit.plus 2 1)
def tab : List Sym → List Pl
 | []=>[Pl.zero]
 | s::l=>mkPl s (l.headD s) l.isEmpty (tab l)::tab l
end Go.Inl
namespace Go.Inl
def Mid (n:Int):Prop:=-1099511627776≤n∧n≤1099511627776
structure OpL.wf (x : OpL) : Prop where
 kind:Mid x.kind
 from_:Mid x.from_
 len:Mid x.len
 b:0≤x.b∧x.b≤255
 data:∀y∈x.data,0≤y∧y≤255
structure PatL.wf (p : PatL) : Prop where
 in_:Mid p.in_
 out:Mid p.out
 ops:∀x∈p.ops,x.wf
 len:(p.ops.length:Int)≤1099511627776
def inS (n lo hi:Int):Bool:=decide (lo≤n) && decide (n≤hi)
def insideP (x:OpL)(n:Int):Bool:=decide (0≤x.from_) && decide (x.from_≤n - x.len)
def rightP (x:OpL)(n:Int):Bool :=
 if x.kind=1 then insideP x n && decide (x.b=0) && decide ((x.data.length:Int)=0)
 else if x.kind=2 then insideP x n && decide (x.b=0) && decide ((x.data.length:Int)=x.len)
 else if x.kind=3 then decide (x.from_=0) && decide ((x.data.length:Int)=0)
 else if x.kind=4 then decide (x.from_=0) && decide (x.b=0) && decide ((x.data.length:Int)=x.len)
 else false
def symS (x:OpL)(i:Int):Sym :=
 if x.kind=1 then ⟨true,x.from_+i,0⟩
 else if x.kind=2 then ⟨true,x.from_+i,x.data.getD i.toNat 0⟩
 else if x.kind=3 then ⟨false,0,x.b⟩
 else if x.kind=4 then ⟨false,0,x.data.getD i.toNat 0⟩
 else ⟨false,0,0⟩
def costP (x:OpL):Int:=if x.kind=1 then 4 else if x.kind=2 then 4+x.len else if x.kind=3 then 4 else if x.kind=4 then 2+x.len else 0
def checkGo (n : Int) : List OpL → Int → Int → Int × Int
 | [],left,i=>if 0 < left then (i,60) else (i,0)
 | x::r,left,i=>if decide (x.len < 1) || decide (left < x.len) || !rightP x n then (i,60) else checkGo n r (left - x.len) (i+1)
def badP (p:PatL):Bool:=decide ((if p.out < p.in_ then p.out else p.in_) < 0) || decide (65536 < (if p.out > p.in_ then p.out else p.in_)) || decide (4096 < (p.ops.length:Int))
def checkP (p:PatL):Int×Int:=if badP p then (-1,60) else checkGo p.in_ p.ops p.out 0
def symsOp (x:OpL):List Sym:=(List.range x.len.toNat).map fun(i:Nat)=>symS x (i:Int)
def symsOf (l:List OpL):List Sym:=l.flatMap symsOp
def symbolsP (p:PatL):List Sym×Int:=if (checkP p).2=0 then (symsOf p.ops,0) else ([],(checkP p).2)
def rightR (x:OpL)(n:Int):Bool :=
 inS x.len 1 65536 && (
 if x.kind=1 then inS x.from_ 0 (n - x.len) && decide (x.b=0) && decide ((x.data.length:Int)=0)
 else if x.kind=2 then inS x.from_ 0 (n - x.len) && decide (x.b=0) && decide ((x.data.length:Int)=x.len)
 else if x.kind=3 then decide (x.from_=0) && decide ((x.data.length:Int)=0)
 else if x.kind=4 then decide (x.from_=0) && decide (x.b=0) && decide ((x.data.length:Int)=x.len)
 else false)
def checkRGo (n out : Int) : List OpL → Int → Int → Int × Int
 | [],sum,i=>if sum=out then (i,0) else (i,60)
 | x::r,sum,i=>if !rightR x n || decide (out < sum+x.len) then (i,60) else checkRGo n out r (sum+x.len) (i+1)
def checkR (p:PatL):Int×Int:=if !inS p.in_ 0 65536 || !inS p.out 0 65536 || decide (4096 < (p.ops.length:Int)) then (-1,60) else checkRGo p.in_ p.out p.ops 0 0
def strange (n:Int)(s:Sym):Bool:=(s.old && (decide (s.at_ < 0) || decide (n≤s.at_))) || (!s.old && !decide (s.at_=0))
def opS (kind:Int)(l:List Sym):OpL :=
 { kind,from_:=if kind=1∨kind=2 then (l.headD ⟨false,0,0⟩).at_ else 0,len:=l.length,b:=if kind=3 then (l.headD ⟨false,0,0⟩).b else 0,data:=if kind=2∨kind=4 then l.map (·.b) else [] }
def opsT (t : List Pl) (l : List Sym) : Nat → Nat → List OpL
 | 0,_=>[]
 | fuel + 1, i => if i < l.length then
    let p:=t.getD i Pl.zero
    opS p.kind ((l.take (i+p.length.toNat)).drop i)::opsT t l fuel (i+p.length.toNat)
   else []
def cheapP (l:List Sym)(n:Int):PatL×Int :=
 if decide (n < 0) || decide (65536 < n) || decide (65536 < (l.length:Int)) || l.any (strange n) then (PatL.zero,60)
 else if 4096 < ((tab l).headD Pl.zero).best.ops then (PatL.zero,2)
 else (⟨false,n,l.length,opsT (tab l) l (l.length+1) 0⟩,0)
theorem jT {α:Type}{l:List α}{k:Nat}{x:α}(h:l[k]? = some x):l.drop k=x::l.drop (k+1):=by
 have:=vY.1 h;rw[List.drop_eq_getElem_cons this.1,this.2]
theorem checkGo_bad {n left i:Int}{x:OpL}{r:List OpL}(h:(decide (x.len < 1) || decide (left < x.len) || !rightP x n)=true):checkGo n (x::r) left i=(i,60):=by
 simp only[checkGo,h,if_true]
theorem kJ {n left i:Int}{x:OpL}{r:List OpL}(h:(decide (x.len < 1) || decide (left < x.len) || !rightP x n)=false):checkGo n (x::r) left i=checkGo n r (left - x.len) (i+1):=by
 simp[checkGo,h]
theorem qy {α:Type}{l:List α}{k:Nat}{x:α}(h:l[k]? = some x):l.take (k+1)=l.take k++[x]:=by
 have:=vY.1 h;rw[List.take_succ_eq_append_getElem this.1,this.2]
theorem qQ (x:OpL):(symsOp x).length=x.len.toNat:=by simp[symsOp]
theorem symsOf_append (a b:List OpL):symsOf (a++b)=symsOf a++symsOf b:=by simp[symsOf]
theorem symsOf_one (x:OpL):symsOf [x]=symsOp x:=by simp[symsOf]
theorem jc (x:OpL)(l:List OpL):symsOf (x::l)=symsOp x++symsOf l:=by simp[symsOf]
theorem symsOf_snoc {l:List OpL}{k:Nat}{x:OpL}(h:l[k]? = some x):symsOf (l.take k)++(List.range x.len.toNat).map (fun(i:Nat)=>symS x (i:Int))=symsOf (l.take (k+1)):=by
 rw[qy h,symsOf_append,symsOf_one]; rfl
theorem range_snoc (x:OpL)(i:Nat)(l:List Sym):l++(List.range (i+1)).map (fun(i:Nat)=>symS x (i:Int))=(l++(List.range i).map (fun(i:Nat)=>symS x (i:Int)))++[symS x i]:=by
 rw[List.range_succ,uf,xa]; rfl
theorem checkGo_ok {n : Int} : ∀ (l : List OpL) (left i : Int), 0 ≤ left → (checkGo n l left i).2 = 0 → (∀ x ∈ l, 1 ≤ x.len ∧ rightP x n = true) ∧ ((symsOf l).length : Int) = left
 | [],left,i,h0,h=>by
   unfold checkGo at h;split at h
   · simp at h
   · exact⟨by simp,by simp[symsOf]; omega⟩
 | x::l,left,i,h0,h=>by
   by_cases hb:(decide (x.len < 1) || decide (left < x.len) || !rightP x n)=true
   · rw[checkGo_bad hb]at h; simp at h
   · have hb' : (decide (x.len < 1) || decide (left < x.len) || !rightP x n) = false := by simpa using hb
     rw[kJ hb']at h;simp only[ue,vW,uz]at hb';obtain⟨⟨h1,h2⟩,h3⟩:=hb';obtain⟨h4,h5⟩:=checkGo_ok l _ _ (by omega) h;refine⟨fun y hy=>?_,?_⟩
     · rcases vN.1 hy with rfl | hy
       · exact⟨by omega,h3⟩
       · exact h4 y hy
     · rw[jc,vE,qQ]; omega
theorem qM {p:PatL}(h:(checkP p).2=0):(∀x∈p.ops,1≤x.len∧rightP x p.in_=true)∧((symsOf p.ops).length:Int)=p.out∧0≤p.in_∧p.in_≤65536∧0≤p.out∧p.out≤65536∧p.ops.length≤4096:=by
 unfold checkP at h;split at h
 · simp at h
 · rename_i hb
   simp only[badP,Bool.or_eq_true,vU,not_or]at hb;obtain⟨⟨h1,h2⟩,h3⟩:=hb;have h4:0≤p.in_∧0≤p.out∧p.in_≤65536∧p.out≤65536:=by split at h1 <;> split at h2 <;> omega
   obtain⟨h5,h6⟩:=checkGo_ok _ _ _ h4.2.1 h;exact⟨h5,h6,h4.1,h4.2.2.1,h4.2.1,h4.2.2.2,by omega⟩
theorem symsOf_take_le (l:List OpL)(k:Nat):(symsOf (l.take k)).length≤(symsOf l).length:=by
 conv=>rhs; rw[← List.take_append_drop k l]
 rw[symsOf_append,vE]; omega
theorem zY {t:List Pl}{l:List Sym}{f i:Nat}{p:Pl}(hi:i < l.length)(hp:t[i]? = some p):opsT t l (f+1) i=opS p.kind ((l.take (i+p.length.toNat)).drop i)::opsT t l f (i+p.length.toNat):=by
 simp only[opsT,hi,if_true,vQ,hp,Option.getD_some]
theorem zB {t:List Pl}{l:List Sym}{f i:Nat}(hi:¬i < l.length):opsT t l f i=[]:=by
 cases f <;> simp[opsT,hi]
theorem kA {α:Type}{l:List α}{k:Nat}{x:α}{q:α→Bool}(hx:l[k]? = some x)(h:∀y∈l.take k,q y=false)(hq:q x=false):∀y∈l.take (k+1),q y=false:=by
 intro y hy;rw[qy hx]at hy;rcases xA.1 hy with hy | hy
 · exact h y hy
 · simp at hy; subst hy; exact hq
end Go.Inl
namespace Go.Inl
open Go Go.RowKit
def strB (xs:List Int):ByteArray:=xs.foldl (fun r n=>r.push (UInt8.ofNat n.toNat)) ByteArray.empty
theorem zS : ∀ (xs : List Int) (s : ByteArray), (xs.foldl (fun r n => r.push (UInt8.ofNat n.toNat)) s).data.toList = s.data.toList ++ xs.map fun n => UInt8.ofNat n.toNat
 | [],s=>by simp
 | x::xs,s=>by
   rw[List.foldl_cons,zS xs];simp[ByteArray.push]
theorem byte_inj {x y:Int}(hx:0≤x∧x≤255)(hy:0≤y∧y≤255)(h:UInt8.ofNat x.toNat=UInt8.ofNat y.toNat):x=y:=by
 have:=congrArg UInt8.toNat h;simp[UInt8.toNat_ofNat']at this
 omega
theorem bytes_inj : ∀ (a b : List Int), (∀ x ∈ a, 0 ≤ x ∧ x ≤ 255) → (∀ x ∈ b, 0 ≤ x ∧ x ≤ 255) → (a.map fun n => UInt8.ofNat n.toNat) = (b.map fun n => UInt8.ofNat n.toNat) → a = b
 | [],[],_,_,_=>rfl
 | [],_::_,_,_,h=>by simp at h
 | _::_,[],_,_,h=>by simp at h
 | x::a,y::b,ha,hb,h=>by
   rw[xS,xS,List.cons.injEq]at h;rw[byte_inj (ha x (by simp)) (hb y (by simp)) h.1,bytes_inj a b (fun z hz=>ha z (by simp[hz])) (fun z hz=>hb z (by simp[hz])) h.2]
theorem strB_inj {a b:List Int}(ha:∀x∈a,0≤x∧x≤255)(hb:∀x∈b,0≤x∧x≤255)(h:strB a=strB b):a=b:=by
 have h1:=zS a ByteArray.empty;have h2:=zS b ByteArray.empty;have h3:(strB a).data.toList=(strB b).data.toList:=by rw[h]
 unfold strB at h3;rw[h1,h2]at h3;exact bytes_inj a b ha hb (by simpa using h3)
section
variable {P:Program} {n:Nat} {σ:Nat→Value} {ty t t':TypeId} {x y ix:Operand} {X:List Nat} {w0 w:World} {I0 I:Imm} {L:List Res}
theorem g_strI {u : Value} {xs : List Int} {e : TypeId} (hs : P.underlying t = some (.slice e)) (he : P.underlying e = some (.int .u8)) (hd : P.underlying t' = some .string) (hr : RBytes I u xs) (hx : ev n σ x = u) :
 Gives P (ev n σ) (KS X w0 I0 I L) (.convert t t' x) ty (.string (strB xs)):=fun w hw=>by
 have hconv:(convert t t' (ev n σ x)).run P w = .ok (.string (strB xs)) w:=by
  rw[hx];rcases hr with ⟨⟨a,cap,rfl,_⟩,rfl⟩ | ⟨b,o,cap,rfl,h1,h2,h3⟩
  · rw [run_convert_bytes_string w t t' e _ _ _ hs he hd]
    cases a with
    | none=>rfl
    | some a=>exact run_bytesToString w _ _ _ [] (run_loadCells_list (P:=P) w a [] (fun j v hv=>by simp at hv))
  · rw [run_convert_bytes_string w t t' e _ _ _ hs he hd]
    refine run_bytesToString w _ _ _ xs ?_;have:=run_loadCells_list (P:=P) w ⟨b,o,none⟩ (xs.map (Value.int .u8)) (fun j v hv=>by
     rw[xN]at hv;cases e:xs[j]? with
     | none=>rw[e]at hv; simp at hv
     | some z =>
       rw[e]at hv;simp at hv
       subst hv;obtain⟨cs,c1,c2,rfl⟩:=h3 j z e;have:=c2.cell hw.imm 0 _ rfl;rw[qF]at this ⊢;simpa using this)
    rwa [xM]at this
 simp only[execOp,Sem.run_bind,hconv,Result.andThen_ok]; rfl
theorem g_eqlStr {S:World→Prop}{a b:ByteArray}(hx:ev n σ x = .string a)(hy:ev n σ y = .string b):Gives P (ev n σ) S (.binOp .eql t x y t') ty (.bool (a.toList == b.toList)):=fun w _=>by
 have h:(binOp .eql t (.string a) (.string b)).run P w = .ok (.bool (a.toList == b.toList)) w:=by rw[binOp_string_eql]; rfl
 simp only[execOp,hx,hy,Sem.run_bind,eqg_string,Result.andThen_ok,h]; rfl
theorem toList_data (a:ByteArray):a.toList=a.data.toList:=ByteArray.toList_eq a
theorem strB_eq {a b:List Int}(ha:∀x∈a,0≤x∧x≤255)(hb:∀x∈b,0≤x∧x≤255):((strB a).toList == (strB b).toList)=decide (a=b):=by
 rw[Bool.eq_iff_iff,beq_iff_eq,decide_eq_true_iff];refine⟨fun h=>strB_inj ha hb ?_,fun h=>by rw[h]⟩;rw[toList_data,toList_data]at h;exact ByteArray.ext (Array.toList_inj.1 h)
theorem g_eqlB {S : World → Prop} {a b : List Int} (ha : ∀ x ∈ a, 0 ≤ x ∧ x ≤ 255) (hb : ∀ x ∈ b, 0 ≤ x ∧ x ≤ 255) (hx : ev n σ x = .string (strB a)) (hy : ev n σ y = .string (strB b)) :
 Gives P (ev n σ) S (.binOp .eql t x y t') ty (.bool (decide (a=b))):=by
 have h:=g_eqlStr (P:=P) (S:=S) (t:=t) (t':=t') (ty:=ty) hx hy;rw[strB_eq ha hb]at h;exact h
theorem jk {k : IntKind} {e : TypeId} {b o m sz : Nat} {i : Int} {o' : Nat} {S : World → Prop} (hT : P.underlying t = some (.array m e)) (hs : ∀ w, (sizeOf e).run P w = .ok sz w)
 (hx:ev n σ x = .pointer (some ⟨b,o,none⟩)) (hi:ev n σ ix = .int k i) (h0:0≤i) (h1:i < m) (ho:o+i.toNat*sz=o') :
 Gives P (ev n σ) S (.indexAddr t x ix) ty (.pointer (some ⟨b,o',none⟩)):=fun w _=>by
 subst ho;simp only[execOp,Instr.indexAt,Sem.run_bind,hi,asIntOf,Sem.run_pure,Result.andThen_ok,run_underlying hT,hx,Instr.sureAddr];simp[h0,h1,hs,qF]
end
end Go.Inl
namespace Go.Inl
open Go Go.RowKit
section
variable {P : Program} {n : Nat} {df : List Deferred} {ro : Option Nat} {σ : Nat → Value} {w : World} {Q : Exit → Act → World → Prop} {rest l : List Oper} {d : Option Tmp} {op : Op} {ty : TypeId} {p : String} {af : Array Edge}
 {X:List Nat} {w0:World} {I0 I:Imm} {L:List Res} {v:Value} {j t i:Nat} {g:Bool} {R:Value→World→Prop} {r:Od}
theorem qqs (hj' : dstAt l j = some t) (hv : ev n σ (.tmp t) = .bool g) (hS : St X w0 I0 I w L) (h : Gives P (ev n σ) (KS X w0 I0 I L) op ty v) (k : OL P l Q n df rest (updO σ d v) w) :
 OL P l Q n df (⟨d,op,ty,p,af,some (j,g)⟩::rest) σ w:=⟨wl_gt (S:=KS X w0 I0 I L) (jS hj') hv hS h k.run⟩
theorem qes (hj' : dstAt l j = some t) (hv : ev n σ (.tmp t) = .bool g) (h : Does P (ev n σ) op ty w R) (k : ∀ v w', R v w' → OL P l Q n df rest (updO σ d v) w') :
 OL P l Q n df (⟨d,op,ty,p,af,some (j,g)⟩::rest) σ w:=⟨wl_et (jS hj') hv h fun v w' hR=>(k v w' hR).run⟩
end
theorem RSl.ofAt {α : Type} {I : Imm} {sz b m : Nat} {R : List Value → α → Prop} {css : List (List Value)} {cs : List Value} {xs : List α} (h : atI I ⟨b, 0, none⟩ cs) (hc : cs = css.flatten) (hl : ∀ c ∈ css, c.length = sz) (hx : All2 R css xs) (hm : m = xs.length) (hb : xs.length ≤ maxLen) :
 RSl I sz R (.slice (some ⟨b,0,none⟩) m m) xs:=by
 subst hm hc;refine .inr ⟨b,0,_,rfl,vX _,hb,fun i x hxi=>?_⟩;have hi:=(vY.1 hxi).1;have hcs:css[i]? = some (css[i]'(by rw[hx.1]; exact hi)):=vC _;exact⟨_,hl _ (vI hcs),h.part (i*sz) _ fun j v hv=>kg css hl i _ hcs j v hv,hx.2 i _ x hcs hxi⟩
theorem All2.ofMap {α:Type}{R:List Value→α→Prop}(f:α→List Value)(xs:List α)(h:∀x,R (f x) x):All2 R (xs.map f) xs:=by
 refine⟨by simp,fun i cs x h1 h2=>?_⟩;rw[xN,h2]at h1;simp at h1; subst h1; exact h x
theorem RFl.ofAt {α : Type} {I : Imm} {sz b : Nat} {enc : α → List Value} (he : ∀ x, (enc x).length = sz) (xs : List α) {cs : List Value} (h : atI I ⟨b, 0, none⟩ cs) (hc : cs = flat enc xs) (hb : xs.length ≤ maxLen) :
 RFl I sz enc (.slice (some ⟨b,0,none⟩) xs.length xs.length) xs :=
 RSl.ofAt (css:=xs.map enc) h (by rw[hc]; simp[flat,List.flatMap_def]) (fun c hc=>by obtain⟨x,_,rfl⟩:=uI.1 hc; exact he x) (All2.ofMap enc xs fun _=>rfl) rfl hb
theorem flat_one' {α:Type}{enc:α→List Value}(h:∀x,(enc x).all (·.oneCell')=true)(xs:List α):(flat enc xs).all (·.oneCell')=true:=by
 rw[Qm];intro v hv;obtain⟨x,_,hx⟩:=List.mem_flatMap.1 hv;exact Qm.1 (h x) v hx
theorem flat_cells {α : Type} {I : Imm} {sz b : Nat} {enc : α → List Value} {w : World} (he : ∀ x, (enc x).length = sz) (hw : Sat I w) : ∀ (xs : List α) (o : Nat), (∀ i x, xs[i]? = some x → ∃ cs, cs.length = sz ∧ atI I ⟨b, o + i * sz, none⟩ cs ∧ cs = enc x) →
 ∀j v,(flat enc xs)[j]? = some v→w.cell? ⟨b,o+j,none⟩=some v
 | [],_,_,j,v,hv=>by simp[flat]at hv
 | x::xs,o,h,j,v,hv=>by
   simp only[flat,List.flatMap_cons]at hv;by_cases hj:j < sz
   · rw [xg (by rw [he]; exact hj)] at hv
     obtain⟨cs,_,h2,rfl⟩:=h 0 x rfl;have:=h2.cell hw j v hv;rw[qF]at this;simpa using this
   · rw [xx (by rw [he]; omega), he] at hv
     have:=flat_cells he hw xs (o+sz) (fun i y hy=>by
      obtain⟨cs,h1,h2,h3⟩:=h (i+1) y (by simpa using hy);exact⟨cs,h1,by rw[Nat.add_mul,Nat.one_mul,Nat.add_comm (i*sz) sz,← Nat.add_assoc]at h2; exact h2,h3⟩) (j - sz) v hv
     rwa [show o+sz+(j - sz)=o+j by omega]at this
theorem qW {P : Program} {n : Nat} {σ : Nat → Value} {w : World} {ty : TypeId} {X : List Nat} {w0 : World} {I0 I : Imm} {L : List Res} (k : Nat) {α : Type} {enc : α → List Value} {t e : TypeId} {sz by' : Nat} {z : Value} {x y : Operand} {aT : Array TypeId} {u u' : Value} {m : Nat} {xs : List Value} {ys : List α}
 (hS:St X w0 I0 I w L) (ho:aT = #[t,t]) (hT:P.underlying t=some (.slice e)) (hi:Info P e z sz by') (hzs:z.cells.size=sz) (h0:Nat.blt 0 sz=true) (hL:L[k]? = some (.row u e sz m xs)) (hx:ev n σ x=u)
 (he:∀x,(enc x).length=sz) (h1:∀x,(enc x).all (·.oneCell')=true) (hr:RFl I sz enc u' ys) (hy:ev n σ y=u') (h63:m+ys.length≤9223372036854775807) (hbytes:(m+ys.length)*by'≤140737488355328) :
 Does P (ev n σ) (.call { callee:=.builtin .append,args := #[x,y],argTypes:=aT }) ty w fun v w'=>∃ad cap,v = .slice ad (m+ys.length) cap∧St X w0 I0 I w' (L.set k (.row (.slice ad (m+ys.length) cap) e sz (m+ys.length) (xs++flat enc ys))):=by
 rcases hr with ⟨⟨a,cap,rfl,_,hcn⟩,rfl⟩ | ⟨b,o,cap,rfl,h2,h3,h4⟩
 · cases a with
   | some a=>exact i_append k hS ho hT hi hzs h0 hL hx hy (qT he []) (fun j v hv=>by simp[flat]at hv) (flat_one' h1 []) h63 hbytes
   | none =>
     obtain rfl:=hcn rfl;have hown:w.ownsRow 0 e sz u m xs:=hS.hold _ (vI hL);obtain⟨i,k1,k2,k3,k4⟩:=hi;subst ho;have hrun:=run_append_owned_none (P:=P) w 0 t ty e i sz hT k1 u m xs hown;have hset:L.set k (.row u e sz (m+([]:List α).length) (xs++flat enc ([]:List α)))=L:=by
      have h:=vY.1 hL;simp only[flat,List.flatMap_nil,List.append_nil,List.length_nil,Nat.add_zero];rw[← h.2]; exact List.set_getElem_self h.1
     refine qH (v:=u) (w':=w) ?_ ?_
     · simp only[execOp,resolve,invoke,builtin,List.map_toArray,xS,List.map_nil,hx,hy,Sem.run_bind,Sem.run_pure,Result.andThen_ok,hrun]
     · rcases jQ hS hL with ⟨_, ⟨rfl, rfl⟩ | ⟨g, cap, rfl, _⟩⟩
       · exact⟨none,0,rfl,by rw[show(Value.slice none (0+([]:List α).length) 0) = .slice none 0 0 from rfl,hset]; exact hS⟩
       · exact⟨_,cap,rfl,by rw[show(Value.slice (some ⟨g,0,none⟩) (m+([]:List α).length) cap) = .slice (some ⟨g,0,none⟩) m cap from rfl,hset]; exact hS⟩
 · exact i_append k hS ho hT hi hzs h0 hL hx hy (qT he ys) (fun j v hv=>by rw[qF]; exact flat_cells he hS.imm ys o h4 j v hv) (flat_one' h1 ys) h63 hbytes
theorem All2.one {α:Type}{R:List Value→α→Prop}{cs:List Value}{x:α}(h:R cs x):All2 R [cs] [x]:=(All2.nil R).snoc h
theorem All2.cons {α:Type}{R:List Value→α→Prop}{cs:List Value}{x:α}{css:List (List Value)}{xs:List α}(h:R cs x)(k:All2 R css xs):All2 R (cs::css) (x::xs):=by
 refine⟨by simp[k.1],fun i c y hc hy=>?_⟩;cases i with
 | zero=>simp at hc hy; subst hc; subst hy; exact h
 | succ i=>exact k.2 i c y (by simpa using hc) (by simpa using hy)
theorem All2.two {α:Type}{R:List Value→α→Prop}{cs ds:List Value}{x y:α}(h:R cs x)(k:R ds y):All2 R [cs,ds] [x,y]:=(All2.one h).snoc k
end Go.Inl
namespace Go.Inl
open Go Go.RowKit
section
variable {P:Program} {n:Nat} {σ:Nat→Value} {w:World} {ty:TypeId} {X:List Nat} {w0:World} {I0 I:Imm} {L:List Res}
theorem St.newObj (h:St X w0 I0 I w L)(o:Obj):St X w0 I0 I (w.alloc o) (.obj w.heap.size o::L):=by
 have keep:∀k,k < w.heap.size→(w.alloc o).heap[k]? = w.heap[k]? := fun k hk=>Below.heap_alloc _ _ _ hk
 refine⟨h.os,h.tape,h.output,Nat.le_trans h.size (by simp),fun k hk hx=>(keep k (Nat.lt_of_lt_of_le hk h.size)).trans (h.block k hk hx),?_,h.old,h.ext,?_,?_,?_⟩
 · intro b o hb
   exact(keep b (Array.getElem?_eq_some_iff.1 (h.imm b o hb)).1).trans (h.imm b o hb)
 · intro r hr
   cases vN.1 hr with
   | inl e=>subst e; exact World.alloc_heap_new w o
   | inr hr=>exact Res.holds_of (h.hold r hr) (fun b hb=>keep b (Res.foot_lt (h.hold r hr) b hb))
 · intro r hr b hb
   cases vN.1 hr with
   | inl e=>subst e; simp only[Res.foot,xi]at hb; subst hb; exact⟨h.none_of_size (vX _),.inl h.size⟩
   | inr hr=>exact h.new r hr b hb
 · simp only [List.flatMap_cons, Res.foot, List.singleton_append, List.nodup_cons]
   exact⟨fun hm=>by have:=h.foot_lt _ hm; omega,h.nodup⟩
theorem St.putO (h:St X w0 I0 I w L){k b:Nat}{o o':Obj}(hk:L[k]? = some (.obj b o)):St X w0 I0 I (w.putObj b o') (L.set k (.obj b o')):=by
 have hb:w.heap[b]? = some o:=h.hold _ (vI hk);refine h.change hk rfl rfl rfl (by simp) (fun c _ hc=>World.putObj_heap_other (fun e=>hc (by simp[Res.foot,e]))) (fun c hc=>.inl hc) (by simp[Res.foot]) ?_;exact World.putObj_heap_same (Array.getElem?_eq_some_iff.1 hb).1
end
end Go.Inl
namespace Go.Inl
open Go Go.RowKit
section
variable {P:Program} {n:Nat} {df:List Deferred} {ro:Option Nat} {σ:Nat→Value} {w:World} {ty:TypeId} {X:List Nat} {w0:World} {I0 I:Imm} {L:List Res}
theorem St.drew (h:St X w0 I0 I w L):St X w0 I0 I w.drew L:=⟨h.os,h.tape,h.output,h.size,h.block,h.imm,h.old,h.ext,h.hold,h.new,h.nodup⟩
/-! ### Strings -/
theorem g_indexStr {t : TypeId} {x ix : Operand} {s : ByteArray} {k : IntKind} {i : Int} {b : Int} (hT : P.underlying t = some .string) (hx : ev n σ x = .string s) (hi : ev n σ ix = .int k i) (h0 : 0 ≤ i) (h1 : i < s.size)
 {S:World→Prop} (hb:((s.get! i.toNat).toNat:Int)=b):Gives P (ev n σ) S (.index t x ix) ty (.int .u8 b):=fun w _=>by
 have hr:=run_index_string (P:=P) w t s k i hT;rw[dif_pos ⟨h0,h1⟩]at hr;have e:s.get! i.toNat=s[i.toNat]'(by omega):=by
  simp[ByteArray.get!,getElem!_pos,show i.toNat < s.size by omega]
  rfl
 rw[e]at hb;simp only[execOp,hx,hi,Sem.run_bind,hr,Result.andThen_ok,hb]; rfl
/-! ### Guarded operations of any effect; yields -/
variable {Q:Exit→Act→World→Prop} {rest l:List Oper} {d:Option Tmp} {op:Op} {p:String} {af:Array Edge} {j t:Nat} {g g':Bool} {R:Value→World→Prop}
end
end Go.Inl
