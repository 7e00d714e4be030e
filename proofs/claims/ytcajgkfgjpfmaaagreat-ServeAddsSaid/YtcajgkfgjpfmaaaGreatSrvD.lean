/- Servers as plain Lean, and servers in memory that stands still. Conditions: none. -/
import Derived.Test.YtcajgkfgjpfmaaaGreatPats
import Derived.Test.YtcajgkfgjpfmaaaGreatKSpec
import Derived.Test.YtcajgkfgjpfmaaaGreatKGrf
import Derived.Test.YtcajgkfgjpfmaaaGreatIns
set_option linter.unusedSimpArgs false
set_option linter.unusedVariables false
namespace Go.Inl
open Go Go.RowKit Go.Proofs.YtcajgkfgjpfmaaaGreat
structure MadeL where
 way:List Int
 p:PatL
structure SrvL where
 g:GrL
 ps:List PatL
 gone:List Int
 cache:List MadeL
def SrvL.none:SrvL:=⟨⟨[],[]⟩,[],[],[]⟩
structure OffL where
 way:List Int
 p:PatL
 c:Int
def OffL.none:OffL:=⟨[],PatL.zero,0⟩
def lnkC (k:LnkL):List Value:=[.int .i64 k.f,.int .i64 k.t,.int .i64 k.c,.int .i64 k.n.s,.int .i64 k.n.u,.int .i64 k.n.r,.int .i64 k.n.e,.int .i64 k.n.o]
theorem qK (k:LnkL):(lnkC k).length=8:=rfl
structure RGr (I : Imm) (a0 : Option Addr) (c0 : Nat) (a1 : Option Addr) (c1 : Nat) (g : GrL) : Prop where
 vs:RFl I 1 intC (.slice a0 g.vs.length c0) g.vs
 ls:RFl I 8 lnkC (.slice a1 g.ls.length c1) g.ls
theorem RGr.mono {I J:Imm}{a0:Option Addr}{c0:Nat}{a1:Option Addr}{c1:Nat}{g:GrL}(h:RGr I a0 c0 a1 c1 g)(hs:Inl.Sub I J):RGr J a0 c0 a1 c1 g:=⟨h.vs.mono hs,h.ls.mono hs⟩
def RMade (I:Imm)(cs:List Value)(d:MadeL):Prop:=∃a c ap m cp,cs=[.slice a d.way.length c,.bool d.p.lifted,.int .i64 d.p.in_,.int .i64 d.p.out,.slice ap m cp]∧RFl I 1 intC (.slice a d.way.length c) d.way∧ROps I (.slice ap m cp) d.p.ops
theorem RMade.mono {I J:Imm}{cs:List Value}{d:MadeL}(h:RMade I cs d)(hs:Inl.Sub I J):RMade J cs d:=by
 obtain⟨a,c,ap,m,cp,h1,h2,h3⟩:=h;exact⟨a,c,ap,m,cp,h1,h2.mono hs,h3.mono hs⟩
def RMades (I:Imm)(v:Value)(l:List MadeL):Prop:=RSl I 5 (RMade I) v l
theorem RMades.mono {I J:Imm}{v:Value}{l:List MadeL}(h:RMades I v l)(hs:Inl.Sub I J):RMades J v l:=RSl.mono h hs fun _ _ h=>h.mono hs
structure SrvA where
 a0:Option Addr
 c0:Nat
 a1:Option Addr
 c1:Nat
 a2:Option Addr
 c2:Nat
 a3:Option Addr
 c3:Nat
 a4:Option Addr
 c4:Nat
structure RSrv (I : Imm) (A : SrvA) (s : SrvL) : Prop where
 g:RGr I A.a0 A.c0 A.a1 A.c1 s.g
 ps:RPats I (.slice A.a2 s.ps.length A.c2) s.ps
 gone:RFl I 1 intC (.slice A.a3 s.gone.length A.c3) s.gone
 cache:RMades I (.slice A.a4 s.cache.length A.c4) s.cache
theorem RSrv.mono {I J:Imm}{A:SrvA}{s:SrvL}(h:RSrv I A s)(hs:Inl.Sub I J):RSrv J A s:=⟨h.g.mono hs,h.ps.mono hs,h.gone.mono hs,h.cache.mono hs⟩
structure OffA where
 a:Option Addr
 c:Nat
 ap:Option Addr
 m:Nat
 cp:Nat
structure ROff (I : Imm) (A : OffA) (o : OffL) : Prop where
 way:RFl I 1 intC (.slice A.a o.way.length A.c) o.way
 p:ROps I (.slice A.ap A.m A.cp) o.p.ops
theorem ROff.mono {I J:Imm}{A:OffA}{o:OffL}(h:ROff I A o)(hs:Inl.Sub I J):ROff J A o:=⟨h.way.mono hs,h.p.mono hs⟩
def patsOf (ps:List PatL)(way:List Int):List PatL:=way.map fun i=>ps.getD i.toNat PatL.zero
theorem zg (ps:List PatL)(way:List Int):(patsOf ps way).length=way.length:=uR ..
structure CompL where
 p:PatL
 known:Bool
 e:Int
def compC (s:SrvL)(way:List Int):CompL :=
 match s.cache.find? fun m=>decide (m.way=way) with
 | some m=>⟨m.p,true,0⟩
 | .none=>⟨(allP (patsOf s.ps way)).1,false,(allP (patsOf s.ps way)).2⟩
def pushC (s:SrvL)(way:List Int)(p:PatL):SrvL:={ s with cache:=(s.cache++([⟨way,p⟩]:List MadeL)).drop (s.cache.length+1 - 8) }
def lnkT (g:GrL)(i:Int):Int:=match g.ls[i.toNat]? with | some k=>k.t | .none=>0
structure OffR where
 s:SrvL
 o:OffL
 e:Int
def offerW (s:SrvL)(f:Int)(l:List Int)(c:Int):OffR :=
 if l=[] then ⟨s,⟨[f],PatL.zero,c⟩,0⟩
 else if (compC s l).e≠0 then ⟨s,OffL.none,2⟩
 else ⟨if (compC s l).known=true then s else pushC s l (compC s l).p,⟨f::l.map (lnkT s.g),(compC s l).p,c⟩,0⟩
end Go.Inl
