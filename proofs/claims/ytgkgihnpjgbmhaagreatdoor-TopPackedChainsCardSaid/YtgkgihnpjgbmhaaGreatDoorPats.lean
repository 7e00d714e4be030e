/- Slices of patches and of raw patches, as they stand in memory. Conditions: none. -/
import Derived.Test.YtgkgihnpjgbmhaaGreatDoorKRef6
set_option linter.unusedSimpArgs false
set_option linter.unusedVariables false
namespace Go.Proofs.YtgkgihnpjgbmhaaGreatDoor
open Go Go.RowKit Go.Inl
def RPatC (I:Imm)(cs:List Value)(p:PatL):Prop:=∃ad m cap,cs=[.bool p.lifted,.int .i64 p.in_,.int .i64 p.out,.slice ad m cap]∧ROps I (.slice ad m cap) p.ops
theorem RPatC.mono {I J:Imm}{cs:List Value}{p:PatL}(h:RPatC I cs p)(hs:Inl.Sub I J):RPatC J cs p:=by
 obtain⟨ad,m,cap,h1,h2⟩:=h;exact⟨ad,m,cap,h1,h2.mono hs⟩
def RPats (I:Imm)(v:Value)(l:List PatL):Prop:=RSl I 4 (RPatC I) v l
theorem RPats.mono {I J:Imm}{v:Value}{l:List PatL}(h:RPats I v l)(hs:Inl.Sub I J):RPats J v l:=RSl.mono h hs fun _ _ h=>h.mono hs
structure RawL where
 r:Int
 l:List Q4
structure RawL.wf (x : RawL) : Prop where
 r:0≤x.r∧x.r≤255
 l:∀q∈x.l,q.wf
def RRawC (I:Imm)(cs:List Value)(x:RawL):Prop:=∃ad cap,cs=[.int .u8 x.r,.slice ad x.l.length cap]∧RFl I 4 q4C (.slice ad x.l.length cap) x.l
theorem RRawC.mono {I J:Imm}{cs:List Value}{x:RawL}(h:RRawC I cs x)(hs:Inl.Sub I J):RRawC J cs x:=by
 obtain⟨ad,cap,h1,h2⟩:=h;exact⟨ad,cap,h1,h2.mono hs⟩
def RRaws (I:Imm)(v:Value)(l:List RawL):Prop:=RSl I 2 (RRawC I) v l
theorem RRaws.mono {I J:Imm}{v:Value}{l:List RawL}(h:RRaws I v l)(hs:Inl.Sub I J):RRaws J v l:=RSl.mono h hs fun _ _ h=>h.mono hs
end Go.Proofs.YtgkgihnpjgbmhaaGreatDoor
