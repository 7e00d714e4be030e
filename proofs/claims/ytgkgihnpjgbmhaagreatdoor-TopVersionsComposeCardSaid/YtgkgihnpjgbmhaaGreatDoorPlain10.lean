/- Plain laws of chapter 10: which byte of the input is kept, and what the symbols turned around do. Conditions: none. -/
import Derived.Test.YtgkgihnpjgbmhaaGreatDoorCommon6
import Derived.Test.YtgkgihnpjgbmhaaGreatDoorKCore3
import Derived.Test.YtgkgihnpjgbmhaaGreatDoorSpec11
set_option linter.unusedSimpArgs false
set_option linter.unusedVariables false
namespace Go.Proofs.YtgkgihnpjgbmhaaGreatDoor
open Go Go.RowKit Go.Inl
theorem sAt_get {l:List Sym}{k:Nat}(h:k < l.length):l[k]? = some (sAt l k):=by
 have e:l[k]? = some l[k]:=vC h;rw[vv e]; exact e
def keptUp (l : List Sym) : Nat → List (Int × Int)
 | 0=>[]
 | k+1=>if (sAt l k).old && (lookI (keptUp l k) (sAt l k).at_).isNone then keptUp l k++[((sAt l k).at_,(k:Int))] else keptUp l k
def hasAt (l:List Sym)(i:Nat)(a:Int):Prop:=(sAt l i).old=true∧(sAt l i).at_=a
theorem yb (l : List Sym) : ∀ (k : Nat) (a : Int), (lookI (keptUp l k) a = none → ∀ i, i < k → ¬ hasAt l i a) ∧ (∀ j, lookI (keptUp l k) a = some j → ∃ i : Nat, j = i ∧ i < k ∧ hasAt l i a ∧ ∀ i', i' < i → ¬ hasAt l i' a)
 | 0,a=>⟨fun _ i h=>by omega,fun j h=>by simp[keptUp,lookI]at h⟩
 | k+1,a=>by
   obtain⟨n1,s1⟩:=yb l k a;unfold keptUp;by_cases hc:((sAt l k).old && (lookI (keptUp l k) (sAt l k).at_).isNone)=true
   · rw [vJ hc, lookI_snoc]
     rw[xf,Option.isNone_iff_eq_none]at hc;cases hl:lookI (keptUp l k) a with
     | some x =>
       refine⟨fun h=>by simp at h,fun j h=>?_⟩;obtain⟨i,h1,h2,h3,h4⟩:=s1 x hl;obtain rfl:x=j:=by simpa using h
       exact⟨i,h1,by omega,h3,h4⟩
     | none =>
       have hno:=n1 hl;by_cases e:a=(sAt l k).at_
       · refine ⟨fun h => by simp [e] at h, fun j h => ?_⟩
         have hj:(k:Int)=j:=by simpa [e] using h
         exact⟨k,hj.symm,by omega,⟨hc.1,e.symm⟩,hno⟩
       · refine ⟨fun _ i hi hh => ?_, fun j h => by simp [e] at h⟩
         rcases Nat.lt_succ_iff_lt_or_eq.1 hi with h | h
         · exact hno i h hh
         · subst h; exact e hh.2.symm
   · rw [vG hc]
     refine⟨fun h i hi hh=>?_,fun j h=>?_⟩
     · rcases Nat.lt_succ_iff_lt_or_eq.1 hi with h' | h'
       · exact n1 h i h' hh
       · subst h'
         refine hc ?_;rw[xf,Option.isNone_iff_eq_none,hh.2];exact⟨hh.1,h⟩
     · obtain ⟨i, h1, h2, h3, h4⟩ := s1 j h
       exact⟨i,h1,by omega,h3,h4⟩
def kept (l:List Sym)(a:Int):Option Int:=lookI (keptUp l l.length) a
theorem vj {l:List Sym}{a j:Int}(h:kept l a=some j):0≤j∧j < (l.length:Int):=by
 obtain⟨i,h1,h2,_⟩:=(yb l l.length a).2 j h;omega
def invAt (l:List Sym)(old:List Int)(i:Nat):Sym :=
 match kept l i with
 | some j=>⟨true,j,Go.IntKind.u8.wrap (-(sAt l j.toNat).b)⟩
 | none=>⟨false,0,old.getD i 0⟩
def invUp (l:List Sym)(old:List Int)(k:Nat):List Sym:=(List.range old.length).map fun i=>if i < k then invAt l old i else ⟨false,0,0⟩
def invS (l:List Sym)(old:List Int):List Sym:=(List.range old.length).map fun i=>invAt l old i
theorem jA (l:List Sym)(old:List Int)(k:Nat):(invUp l old k).length=old.length:=by simp[invUp]
theorem kT (l:List Sym)(old:List Int):(invS l old).length=old.length:=by simp[invS]
theorem invS_at {l:List Sym}{old:List Int}{i:Nat}(h:i < old.length):(invS l old)[i]? = some (invAt l old i):=by
 unfold invS; rw[xN,List.getElem?_range h]; rfl
theorem kS {l:List Sym}{old:List Int}{i k:Nat}(h:i < old.length):(invUp l old k)[i]? = some (if i < k then invAt l old i else ⟨false,0,0⟩):=by
 unfold invUp; rw[xN,List.getElem?_range h]; rfl
theorem invUp_0 (l:List Sym)(old:List Int):invUp l old 0=List.replicate old.length ⟨false,0,0⟩:=by
 apply List.ext_getElem?
 intro i;by_cases h:i < old.length
 · rw[kS h,vG (by omega),List.getElem?_replicate,vJ h]
 · rw[List.getElem?_eq_none (by rw[jA]; omega),List.getElem?_eq_none (by simp; omega)]
theorem invUp_all (l:List Sym)(old:List Int):invUp l old old.length=invS l old:=List.map_congr_left fun i hi=>by rw[vJ (List.mem_range.1 hi)]
theorem invUp_set {l:List Sym}{old:List Int}{k:Nat}(h:k < old.length):(invUp l old k).set k (invAt l old k)=invUp l old (k+1):=by
 apply List.ext_getElem?
 intro i;rw[List.getElem?_set];by_cases hi:i < old.length
 · by_cases e : k = i
   · subst e
     rw[vJ rfl,vJ (by rw[jA]; exact h),kS h,vJ (by omega)]
   · rw [vG e, kS hi, kS hi]
     by_cases h2:i < k
     · rw[vJ h2,vJ (by omega)]
     · rw[vG h2,vG (by omega)]
 · rw[vG (by omega),List.getElem?_eq_none (by rw[jA]; omega),List.getElem?_eq_none (by rw[jA]; omega)]
theorem wrapB (x:Int):0≤IntKind.u8.wrap x∧IntKind.u8.wrap x≤255:=by rw[IntKind.wrap_u8]; omega
theorem invAt_ok (l:List Sym)(old:List Int)(i:Nat):strange l.length (invAt l old i)=false:=by
 unfold invAt;cases h:kept l i with
 | none=>simp[strange]
 | some j=>have:=vj h; simp[strange]; omega
theorem invS_ok (l:List Sym)(old:List Int):okL l.length (invS l old):=fun s hs=>by
 obtain⟨i,_,rfl⟩:=uI.1 hs;exact invAt_ok l old i
theorem invAt_wf {l:List Sym}{old:List Int}(hl:l.length≤1000000)(hb:∀y∈old,0≤y∧y≤255){i:Nat}(hi:i < old.length):(invAt l old i).wf:=by
 unfold invAt;cases h:kept l i with
 | none =>
   have:old.getD i 0=old[i]:=by rw[vQ,vC hi]; rfl
   have h2:=hb _ (List.getElem_mem hi);refine⟨by show _≤(0:Int); omega,by show(0:Int)≤_; omega,?_,?_⟩
   · show 0≤old.getD i 0; omega
   · show old.getD i 0≤255; omega
 | some j =>
   have:=vj h;have hw:=wrapB (-(sAt l j.toNat).b);exact⟨by show _≤j; omega,by show j≤_; omega,hw.1,hw.2⟩
theorem invS_wf {l:List Sym}{old:List Int}(hl:l.length≤1000000)(hb:∀y∈old,0≤y∧y≤255):∀s∈invS l old,s.wf:=fun s hs=>by
 obtain⟨i,hi,rfl⟩:=uI.1 hs;exact invAt_wf hl hb (List.mem_range.1 hi)
theorem inv_run {L:List Sym}{old:List Int}(ok:okL old.length L)(hb:∀y∈old,0≤y∧y≤255):(invS L old).map (runB (L.map (runB old)))=old:=by
 apply List.ext_getElem?
 intro i;by_cases hi:i < old.length
 · rw [xN, invS_at hi]
   obtain⟨o,ho⟩:∃o,old[i]? = some o:=⟨_,vC hi⟩
   have hob:=hb o (vI ho);rw[ho];show some (runB (L.map (runB old)) (invAt L old i))=some o
   congr 1
   unfold invAt;cases h:kept L i with
   | none =>
     show runB (L.map (runB old)) ⟨false,0,old.getD i 0⟩=o
     rw[yE rfl,vQ,ho]; rfl
   | some j =>
     obtain⟨i0,h1,h2,⟨h3,h4⟩,_⟩:=(yb L L.length i).2 j h;have hs:=sAt_get h2;have hx:old[(sAt L i0).at_.toNat]? = some o:=by rw[h4]; simpa using ho
     have hn:(L.map (runB old))[((⟨true,j,Go.IntKind.u8.wrap (-(sAt L j.toNat).b)⟩:Sym).at_).toNat]? = some (runB old (sAt L i0)):=by
      show(L.map (runB old))[j.toNat]? = _
      rw[h1,Int.toNat_natCast,xN,hs]; rfl
     show runB (L.map (runB old)) ⟨true,j,Go.IntKind.u8.wrap (-(sAt L j.toNat).b)⟩=o
     rw[zy rfl hn,zy h3 hx,h1,Int.toNat_natCast];simp only[IntKind.wrap_u8];omega
 · rw[List.getElem?_eq_none (by rw[xM,kT]; omega),List.getElem?_eq_none (by omega)]
structure InvFor (p F : PatL) (old : List Int) : Prop where
 eq:F=formOf false p.out (invS (symsOf p.ops) old)
 cheap:cheapP (invS (symsOf p.ops) old) p.out=(F,0)
 chk:(checkP F).2=0
 wf:F.wf
 lif:F.lifted=false
 in_:F.in_=p.out
 out:F.out=old.length
 syms:symsOf F.ops=invS (symsOf p.ops) old
theorem inv_for {p:PatL}{old:List Int}(hk:(checkP p).2=0)(hl:old.length≤4096)(hb:∀y∈old,0≤y∧y≤255):∃F,InvFor p F old:=by
 obtain⟨k1,k2,k3,k4,k5,k6,k7⟩:=qM hk;have hok:=invS_ok (symsOf p.ops) old;rw[k2]at hok;have hw:=invS_wf (l:=symsOf p.ops) (by omega) hb;have h4:(invS (symsOf p.ops) old).length≤4096:=by rw[kT]; exact hl
 exact⟨_,rfl,yg ⟨k5,k6⟩ h4 hok,formOf_check ⟨k5,k6⟩ h4 hok,formOf_wf ⟨k5,k6⟩ h4 hok hw,rfl,rfl,by show((invS (symsOf p.ops) old).length:Int)=_; rw[kT],(zf hok).1⟩
end Go.Proofs.YtgkgihnpjgbmhaaGreatDoor
