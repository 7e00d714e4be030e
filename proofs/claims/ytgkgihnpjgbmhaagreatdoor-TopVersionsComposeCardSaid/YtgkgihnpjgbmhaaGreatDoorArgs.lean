/- Arguments that come in, read as plain data: integers, bools, arrays, structs, slices of these; and the way back to the row's form. Conditions: none. -/
import Derived.Test.YtgkgihnpjgbmhaaGreatDoorKCore2
import Derived.ProofKit
import Derived.OpenShut
import Derived.Deep.Slices
import Derived.Lib.SmallJoins
set_option linter.unusedSimpArgs false
set_option linter.unusedVariables false
namespace Go.Inl
open Go Go.RowKit Go.ChangeShapes Go.WideShapes
def memI (w:World):Imm:=fun b=>w.heap[b]?
theorem memI_sat (w:World):Sat (memI w) w:=fun _ _ h=>h
theorem atI_of_cells {w:World}{base:Nat}{ad:Addr}{k:Nat}{cs:List Value}(h:w.cells? base ad k=some cs)(hk:0 < k):∃b o,ad=⟨b,o,none⟩∧atI (memI w) ⟨b,o,none⟩ cs:=by
 obtain⟨_,hl,hc⟩:=World.cells?_some h;obtain⟨b,o,s⟩:=ad;have h0:=hc 0 hk;obtain⟨v0,hv0⟩:∃v,cs[0]? = some v:=⟨cs[0],vC (by omega)⟩
 rw[hv0]at h0;have hs:s=none:=by
  have:=World.cell?_spot h0;simpa [Addr.add] using this
 subst hs;refine⟨b,o,rfl,rfl,?_⟩;rw[qF]at h0;simp only[World.cell?]at h0;split at h0
 · rename_i c T fz hb
   refine⟨c,T,fz,hb,fun j v hv=>?_⟩;have hj:j < k:=by rw[← hl]; exact(vY.1 hv).1
   have h1:=hc j hj;rw[hv,qF]at h1;simp only[World.cell?,hb]at h1;exact h1
 · cases h0
section
variable {H:Type} {enc:TypeId×Value→H} {P:Program} {w:World}
def Opens (enc:TypeId×Value→H)(P:Program)(w:World)(t:TypeId)(R:List Value→Prop):Prop :=
 ∀fuel cs x,DataW.trod enc P w 0 (fun _=>true) true fuel t cs=some x→R cs
def IsInt (k:IntKind)(n:Int):Prop:=(Lit.int k n).wf=true
theorem opens_int {t:TypeId}{k:IntKind}(ht:P.underlying t=some (.int k)):Opens enc P w t (fun cs=>∃n,cs=[.int k n]∧IsInt k n):=fun _ _ _ h=>by
 obtain⟨n,h1,_,h2⟩:=DataW.trod_int ht h;exact⟨n,h1,h2⟩
theorem opens_slice {α : Type} [Inhabited α] {t e : TypeId} {sz : Nat} (R : List Value → α → Prop) (ht : P.underlying t = some (.slice e)) (hc : P.cellsOf e = sz) (h0 : 0 < sz)
 (h:Opens enc P w e (fun cs=>∃x,R cs x)):Opens enc P w t (fun cs=>∃a len cap xs,cs=[.slice a len cap]∧xs.length=len∧RSl (memI w) sz R (.slice a len cap) xs):=fun _ cs x hx=>by
 rcases Deep.open_slice ht hx with ⟨rfl,_⟩ | ⟨a,len,cap,m,n,D,Pl,rfl,_,hl,hm,hmm,_,hel⟩
 · exact⟨none,0,0,[],rfl,rfl,.inl ⟨⟨none,0,rfl,by simp,fun _=>rfl⟩,rfl⟩⟩
 · simp only [if_true] at hmm
   rw[hc]at hel;have one:∀i:Nat,i < len→∃y:α,∃cs',w.cells? 0 (a.add (i*sz)) sz=some cs'∧R cs' y:=fun i hi=>by
    obtain⟨cs',h1,h2⟩:=hel i (by omega);obtain⟨y,hy⟩:=h _ _ _ h2;exact⟨y,cs',h1,hy⟩
   obtain⟨f,hf⟩:=Deep.choose_lt one;refine⟨some a,len,cap,(List.range len).map f,rfl,by simp,?_⟩;by_cases hz:len=0
   · subst hz
     exact .inl ⟨⟨some a,cap,rfl,hm,by simp⟩,by simp⟩
   · obtain ⟨cs', h1, _⟩ := hf 0 (by omega)
     obtain⟨b',o',e,_⟩:=atI_of_cells h1 h0;obtain⟨b,o,s⟩:=a;have hs:s=none:=by
      simp[Addr.add]at e
      exact e.2.2
     subst hs;refine .inr ⟨b,o,cap,by simp,by simpa using hl,hm,fun i x hi=>?_⟩;have hil:i < len:=by have:=(vY.1 hi).1; simpa using this
     simp only[xN,List.getElem?_range hil,Option.map_some,Option.some.injEq]at hi;subst hi;obtain⟨cs',h1,h2⟩:=hf i hil;obtain⟨b',o',e,h3⟩:=atI_of_cells h1 h0;rw[qF]at e;cases e
     exact⟨cs',(World.cells?_some h1).2.1,by simpa using h3,h2⟩
theorem opens_mono {t:TypeId}{R R':List Value→Prop}(h:Opens enc P w t R)(k:∀cs,R cs→R' cs):Opens enc P w t R':=fun f cs x hx=>k cs (h f cs x hx)
theorem yG {t : TypeId} {v : Value} {d : DataW H} {p : List MemPlace} {base : Nat} {R : List Value → Prop} (hn : ∀ cs, v ≠ .agg cs)
 (h:DataW.Trod enc P w 0 (fun _=>true) true t v d p) (ho:Opens enc P w t R):R [v]:=by
 obtain⟨fuel,hf⟩:=h;have:=ho _ _ _ hf;cases v <;> first | exact absurd rfl (hn _) | exact this
theorem yI {r:Reach}{base:Nat}{t e:TypeId}{v:Value}(ht:P.underlying t=some (.slice e))(h:Value.okWide P w r base t v):∀cs,v≠.agg cs:=by
 obtain⟨a,l,c,rfl⟩:=okWide_slice ht h;exact fun _ h=>by cases h
theorem jW {t:TypeId}{v:Value}{d:DataW H}{p:List MemPlace}(h:DataW.Trod enc P w 0 (fun _=>true) true t v d p):∀x∈p,x.block < w.heap.size:=by
 obtain⟨m,hm⟩:=h;exact DataW.trod_lt m _ _ _ hm
end
theorem Ext.below {w w':World}{I I':Imm}(h:Ext w I w' I'):Below w.heap.size w w':=⟨h.os,h.tape,h.output,h.size,fun k hk=>h.block k hk (by simp)⟩
theorem RSl.part {α:Type}{I:Imm}{sz:Nat}{R:List Value→α→Prop}{q:α→Prop}{v:Value}{xs:List α}(h:RSl I sz (fun cs x=>R cs x∧q x) v xs):RSl I sz R v xs∧∀x∈xs,q x:=by
 refine⟨h.mono (Sub.refl _) fun _ _ h=>h.1,fun x hx=>?_⟩;obtain⟨i,hi,rfl⟩:=List.getElem_of_mem hx;obtain⟨_,_,_,h⟩:=h.at (vC hi);exact h.2
theorem u8_of {n:Int}(h:IsInt .u8 n):0≤n∧n≤255:=by simpa [IsInt,Lit.wf,IntKind.min,IntKind.max,IntKind.signed,IntKind.bits] using h
theorem kP {H : Type} {enc : TypeId × Value → H} {P : Program} {w : World} {t e : TypeId} (ht : P.underlying t = some (.slice e)) (he : P.underlying e = some (.int .u8)) (hc : P.cellsOf e = 1) :
 Opens enc P w t (fun cs=>∃a cap,∃xs:List Int,cs=[.slice a xs.length cap]∧RBytes (memI w) (.slice a xs.length cap) xs∧∀x∈xs,0≤x∧x≤255):=by
 refine opens_mono (opens_slice (α:=Int) (fun cs x=>cs=byteC x∧(0≤x∧x≤255)) ht hc (by decide) (opens_mono (opens_int he) ?_)) ?_
 · rintro cs ⟨n, rfl, hn⟩
   exact⟨n,rfl,u8_of hn⟩
 · rintro cs ⟨a, len, cap, xs, rfl, rfl, h⟩
   exact⟨a,cap,xs,rfl,h.part⟩
end Go.Inl
