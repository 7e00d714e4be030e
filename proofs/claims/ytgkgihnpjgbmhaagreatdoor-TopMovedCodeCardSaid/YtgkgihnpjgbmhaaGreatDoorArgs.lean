/- Arguments that come in, read as plain data: integers, bools, arrays, structs, slices of these; and the way back to the row's form. Conditions: none. -/
import Derived.Test.YtgkgihnpjgbmhaaGreatDoorKCore2
import Derived.ProofKit
import Derived.OpenShut
import Derived.Deep.Slices
import Derived.Lib.SmallJoins
set_option linter.unusedSimpArgs false
set_option linter.unusedVariables false
namespace Go.Inl
open Go Go.RowKit Go.ChangeShapes Go.WideShapes
def memI (w:World):Imm:=fun b=>w.heap[b]?
theorem memI_sat (w:World):Sat (memI w) w:=fun _ _ h=>h
theorem atI_of_cells {w:World}{base:Nat}{ad:Addr}{k:Nat}{cs:List Value}(h:w.cells? base ad k=some cs)(hk:0 < k):∃b o,ad=⟨b,o,none⟩∧atI (memI w) ⟨b,o,none⟩ cs:=by
 obtain⟨_,hl,hc⟩:=World.cells?_some h;obtain⟨b,o,s⟩:=ad;have h0:=hc 0 hk;obtain⟨v0,hv0⟩:∃v,cs[0]? = some v:=⟨cs[0],xI (by omega)⟩
 rw[hv0]at h0;have hs:s=none:=by
  have:=World.cell?_spot h0;simpa [Addr.add] using this
 subst hs;refine⟨b,o,rfl,rfl,?_⟩;rw[qL]at h0;simp only[World.cell?]at h0;split at h0
 · rename_i c T fz hb
   refine⟨c,T,fz,hb,fun j v hv=>?_⟩;have hj:j < k:=by rw[← hl]; exact(xX.1 hv).1
   have h1:=hc j hj;rw[hv,qL]at h1;simp only[World.cell?,hb]at h1;exact h1
 · cases h0
section
variable {H:Type} {enc:TypeId×Value→H} {P:Program} {w:World}
def Opens (enc:TypeId×Value→H)(P:Program)(w:World)(t:TypeId)(R:List Value→Prop):Prop :=
 ∀fuel cs x,DataW.trod enc P w 0 (fun _=>true) true fuel t cs=some x→R cs
def IsInt (k:IntKind)(n:Int):Prop:=(Lit.int k n).wf=true
theorem opens_array {t e : TypeId} {n : Nat} {k : IntKind} (ht : P.underlying t = some (.array n e)) (he : P.underlying e = some (.int k)) (hc : P.cellsOf e = 1) (hn : P.cellsOf t = n) :
 Opens enc P w t (fun cs=>∃l:List Int,cs=l.map (.int k ·)∧l.length=n∧∀x∈l,IsInt k x):=fun _ cs _ h=>by
 obtain⟨xs,m,_,_,hl,hxl,hx⟩:=DataW.trod_array ht h;have one:∀i:Nat,i < n→∃z:Int,cs[i]? = some (Value.int k z)∧IsInt k z:=fun i hi=>by
  have:=hx i hi;rw[hc,Nat.mul_one,xI (by omega:i < xs.length)]at this;obtain⟨z,h1,_,h2⟩:=DataW.trod_int he this;refine⟨z,?_,h2⟩;have:=congrArg (·[0]?) h1;simpa [List.getElem?_take,List.getElem?_drop] using this
 obtain⟨f,hf⟩:=Deep.choose_lt one;refine⟨(List.range n).map f,?_,by simp,?_⟩
 · apply List.ext_getElem?
   intro i;by_cases hi:i < n
   · rw[(hf i hi).1]; simp[hi]
   · rw[List.getElem?_eq_none (by omega),List.getElem?_eq_none (by simp; omega)]
 · intro x hx
   obtain⟨i,hi,rfl⟩:=Qu.1 hx;exact(hf i (List.mem_range.1 hi)).2
theorem opens_slice {α : Type} [Inhabited α] {t e : TypeId} {sz : Nat} (R : List Value → α → Prop) (ht : P.underlying t = some (.slice e)) (hc : P.cellsOf e = sz) (h0 : 0 < sz)
 (h:Opens enc P w e (fun cs=>∃x,R cs x)):Opens enc P w t (fun cs=>∃a len cap xs,cs=[.sg a len cap]∧xs.length=len∧RSl (memI w) sz R (.sg a len cap) xs):=fun _ cs x hx=>by
 rcases Deep.open_slice ht hx with ⟨rfl,_⟩ | ⟨a,len,cap,m,n,D,Pl,rfl,_,hl,hm,hmm,_,hel⟩
 · exact⟨none,0,0,[],rfl,rfl,.inl ⟨⟨none,0,rfl,by simp,fun _=>rfl⟩,rfl⟩⟩
 · simp only [if_true] at hmm
   rw[hc]at hel;have one:∀i:Nat,i < len→∃y:α,∃cs',w.cells? 0 (a.add (i*sz)) sz=some cs'∧R cs' y:=fun i hi=>by
    obtain⟨cs',h1,h2⟩:=hel i (by omega);obtain⟨y,hy⟩:=h _ _ _ h2;exact⟨y,cs',h1,hy⟩
   obtain⟨f,hf⟩:=Deep.choose_lt one;refine⟨some a,len,cap,(List.range len).map f,rfl,by simp,?_⟩;by_cases hz:len=0
   · subst hz
     exact .inl ⟨⟨some a,cap,rfl,hm,by simp⟩,by simp⟩
   · obtain ⟨cs', h1, _⟩ := hf 0 (by omega)
     obtain⟨b',o',e,_⟩:=atI_of_cells h1 h0;obtain⟨b,o,s⟩:=a;have hs:s=none:=by
      simp[Addr.add]at e
      exact e.2.2
     subst hs;refine .inr ⟨b,o,cap,by simp,by simpa using hl,hm,fun i x hi=>?_⟩;have hil:i < len:=by have:=(xX.1 hi).1; simpa using this
     simp only[uW,List.getElem?_range hil,Option.map_some,Option.some.injEq]at hi;subst hi;obtain⟨cs',h1,h2⟩:=hf i hil;obtain⟨b',o',e,h3⟩:=atI_of_cells h1 h0;rw[qL]at e;cases e
     exact⟨cs',(World.cells?_some h1).2.1,by simpa using h3,h2⟩
theorem opens_mono {t:TypeId}{R R':List Value→Prop}(h:Opens enc P w t R)(k:∀cs,R cs→R' cs):Opens enc P w t R':=fun f cs x hx=>k cs (h f cs x hx)
theorem read_one {t : TypeId} {v : Value} {d : DataW H} {p : List MemPlace} {base : Nat} {R : List Value → Prop} (hn : ∀ cs, v ≠ .agg cs)
 (h:DataW.Trod enc P w 0 (fun _=>true) true t v d p) (ho:Opens enc P w t R):R [v]:=by
 obtain⟨fuel,hf⟩:=h;have:=ho _ _ _ hf;cases v <;> first | exact absurd rfl (hn _) | exact this
theorem read_agg {t : TypeId} {v : Value} {d : DataW H} {p : List MemPlace} {R : List Value → Prop} (hn : ∃ cs, v = .agg cs)
 (h:DataW.Trod enc P w 0 (fun _=>true) true t v d p) (ho:Opens enc P w t R):∃l,v = .agg l.toArray∧R l:=by
 obtain⟨fuel,hf⟩:=h;have:=ho _ _ _ hf;obtain⟨cs,rfl⟩:=hn;exact⟨cs.toList,by simp,this⟩
theorem ok_agg {r:Reach}{base:Nat}{t:TypeId}{v:Value}{td:TypeDesc}(ht:P.underlying t=some td)(hd:(∃fs,td = .struct fs)∨∃n e,td = .array n e)(h:Value.okWide P w r base t v):∃cs,v = .agg cs:=by
 rcases hd with ⟨fs,rfl⟩ | ⟨n,e,rfl⟩ <;> simp only[Value.okWide,ht]at h <;> obtain⟨cs,h1,_⟩:=h <;> exact⟨cs,h1⟩
theorem ok_slice {r:Reach}{base:Nat}{t e:TypeId}{v:Value}(ht:P.underlying t=some (.slice e))(h:Value.okWide P w r base t v):∀cs,v≠.agg cs:=by
 obtain⟨a,l,c,rfl⟩:=okWide_slice ht h;exact fun _ h=>by cases h
theorem trod_places_lt {t:TypeId}{v:Value}{d:DataW H}{p:List MemPlace}(h:DataW.Trod enc P w 0 (fun _=>true) true t v d p):∀x∈p,x.block < w.heap.size:=by
 obtain⟨m,hm⟩:=h;exact DataW.trod_lt m _ _ _ hm
end
theorem Ext.below {w w':World}{I I':Imm}(h:Ext w I w' I'):Below w.heap.size w w':=⟨h.os,h.tape,h.output,h.size,fun k hk=>h.block k hk (by simp)⟩
theorem RSl.part {α:Type}{I:Imm}{sz:Nat}{R:List Value→α→Prop}{q:α→Prop}{v:Value}{xs:List α}(h:RSl I sz (fun cs x=>R cs x∧q x) v xs):RSl I sz R v xs∧∀x∈xs,q x:=by
 refine⟨h.mono (Sub.refl _) fun _ _ h=>h.1,fun x hx=>?_⟩;obtain⟨i,hi,rfl⟩:=List.getElem_of_mem hx;obtain⟨_,_,_,h⟩:=h.at (xI hi);exact h.2
theorem u8_of {n:Int}(h:IsInt .u8 n):0≤n∧n≤255:=by simpa [IsInt,Lit.wf,IntKind.min,IntKind.max,IntKind.signed,IntKind.bits] using h
end Go.Inl
