/- Plain laws of chapter 10: which byte of the input is kept, and what the symbols turned around do. Conditions: none. Package inverse: places, and Invert for patches that are not lifted: what they compute. Conditions: numbers within bounds. Package inverse: Lost; SameRanges of inlayref01; Invert where lifted bytes are no code: what they compute. Conditions: numbers within bounds. Lift, Apply and Invert for bytes that are no code; inlaylaw10.sanity is true. Conditions: none. -/
import Derived.Test.YtgkgihnpjgbmhaaGreatDoorKP6
import Derived.Test.YtgkgihnpjgbmhaaGreatDoorKLaw
import Derived.Test.YtgkgihnpjgbmhaaGreatDoorKCore3
import Derived.Test.YtgkgihnpjgbmhaaGreatDoorKSpec
import Derived.Test.YtgkgihnpjgbmhaaGreatDoorPlaces
import Derived.Test.YtgkgihnpjgbmhaaGreatDoorKCut
import Derived.Test.YtgkgihnpjgbmhaaGreatDoorKOpt
import Derived.Test.YtgkgihnpjgbmhaaGreatDoorKRef6
import Derived.Test.YtgkgihnpjgbmhaaGreatDoorKComp
import Derived.Test.YtgkgihnpjgbmhaaGreatDoorSanity9
set_option linter.unusedSimpArgs false
set_option linter.unusedVariables false
namespace Go.Proofs.YtgkgihnpjgbmhaaGreatDoor
open Tryz
open Go Go.RowKit Go.Inl
theorem sAt_get {l:List Sym}{k:Nat}(h:k < l.length):l[k]? = some (sAt l k):=by
 have e:l[k]? = some l[k]:=xI h;rw[sAt_of e]; exact e
def keptUp (l : List Sym) : Nat → List (Int × Int)
 | 0=>[]
 | k+1=>if (sAt l k).old && (lookI (keptUp l k) (sAt l k).at_).isNone then keptUp l k++[((sAt l k).at_,(k:Int))] else keptUp l k
def hasAt (l:List Sym)(i:Nat)(a:Int):Prop:=(sAt l i).old=true∧(sAt l i).at_=a
theorem vR (l : List Sym) : ∀ (k : Nat) (a : Int), (lookI (keptUp l k) a = none → ∀ i, i < k → ¬ hasAt l i a) ∧ (∀ j, lookI (keptUp l k) a = some j → ∃ i : Nat, j = i ∧ i < k ∧ hasAt l i a ∧ ∀ i', i' < i → ¬ hasAt l i' a)
 | 0,a=>⟨fun _ i h=>by omega,fun j h=>by simp[keptUp,lookI]at h⟩
 | k+1,a=>by
   obtain⟨n1,s1⟩:=vR l k a;unfold keptUp;by_cases hc:((sAt l k).old && (lookI (keptUp l k) (sAt l k).at_).isNone)=true
   · rw [xS hc, lookI_snoc]
     rw[uC,Option.isNone_iff_eq_none]at hc;cases hl:lookI (keptUp l k) a with
     | some x =>
       refine⟨fun h=>by simp at h,fun j h=>?_⟩;obtain⟨i,h1,h2,h3,h4⟩:=s1 x hl;obtain rfl:x=j:=by simpa using h
       exact⟨i,h1,by omega,h3,h4⟩
     | none =>
       have hno:=n1 hl;by_cases e:a=(sAt l k).at_
       · refine ⟨fun h => by simp [e] at h, fun j h => ?_⟩
         have hj:(k:Int)=j:=by simpa [e] using h
         exact⟨k,hj.symm,by omega,⟨hc.1,e.symm⟩,hno⟩
       · refine ⟨fun _ i hi hh => ?_, fun j h => by simp [e] at h⟩
         rcases Qd.1 hi with h | h
         · exact hno i h hh
         · subst h; exact e hh.2.symm
   · rw [xP hc]
     refine⟨fun h i hi hh=>?_,fun j h=>?_⟩
     · rcases Qd.1 hi with h' | h'
       · exact n1 h i h' hh
       · subst h'
         refine hc ?_;rw[uC,Option.isNone_iff_eq_none,hh.2];exact⟨hh.1,h⟩
     · obtain ⟨i, h1, h2, h3, h4⟩ := s1 j h
       exact⟨i,h1,by omega,h3,h4⟩
def kept (l:List Sym)(a:Int):Option Int:=lookI (keptUp l l.length) a
theorem kept_bd {l:List Sym}{a j:Int}(h:kept l a=some j):0≤j∧j < (l.length:Int):=by
 obtain⟨i,h1,h2,_⟩:=(vR l l.length a).2 j h;omega
def invAt (l:List Sym)(old:List Int)(i:Nat):Sym :=
 match kept l i with
 | some j=>⟨true,j,Go.IntKind.u8.wrap (-(sAt l j.toNat).b)⟩
 | none=>⟨false,0,old.getD i 0⟩
def invUp (l:List Sym)(old:List Int)(k:Nat):List Sym:=(List.range old.length).map fun i=>if i < k then invAt l old i else ⟨false,0,0⟩
def invS (l:List Sym)(old:List Int):List Sym:=(List.range old.length).map fun i=>invAt l old i
theorem ki (l:List Sym)(old:List Int)(k:Nat):(invUp l old k).length=old.length:=by simp[invUp]
theorem yg (l:List Sym)(old:List Int):(invS l old).length=old.length:=by simp[invS]
theorem invS_at {l:List Sym}{old:List Int}{i:Nat}(h:i < old.length):(invS l old)[i]? = some (invAt l old i):=by
 unfold invS; rw[uW,List.getElem?_range h]; rfl
theorem yf {l:List Sym}{old:List Int}{i k:Nat}(h:i < old.length):(invUp l old k)[i]? = some (if i < k then invAt l old i else ⟨false,0,0⟩):=by
 unfold invUp; rw[uW,List.getElem?_range h]; rfl
theorem invUp_0 (l:List Sym)(old:List Int):invUp l old 0=List.replicate old.length ⟨false,0,0⟩:=by
 apply List.ext_getElem?
 intro i;by_cases h:i < old.length
 · rw[yf h,xP (by omega),List.getElem?_replicate,xS h]
 · rw[List.getElem?_eq_none (by rw[ki]; omega),List.getElem?_eq_none (by simp; omega)]
theorem invUp_all (l:List Sym)(old:List Int):invUp l old old.length=invS l old:=List.map_congr_left fun i hi=>by rw[xS (List.mem_range.1 hi)]
theorem invUp_set {l:List Sym}{old:List Int}{k:Nat}(h:k < old.length):(invUp l old k).set k (invAt l old k)=invUp l old (k+1):=by
 apply List.ext_getElem?
 intro i;rw[List.getElem?_set];by_cases hi:i < old.length
 · by_cases e : k = i
   · subst e
     rw[xS rfl,xS (by rw[ki]; exact h),yf h,xS (by omega)]
   · rw [xP e, yf hi, yf hi]
     by_cases h2:i < k
     · rw[xS h2,xS (by omega)]
     · rw[xP h2,xP (by omega)]
 · rw[xP (by omega),List.getElem?_eq_none (by rw[ki]; omega),List.getElem?_eq_none (by rw[ki]; omega)]
theorem wrapB (x:Int):0≤IntKind.u8.wrap x∧IntKind.u8.wrap x≤255:=by rw[IntKind.wrap_u8]; omega
theorem invAt_ok (l:List Sym)(old:List Int)(i:Nat):strange l.length (invAt l old i)=false:=by
 unfold invAt;cases h:kept l i with
 | none=>simp[strange]
 | some j=>have:=kept_bd h; simp[strange]; omega
theorem invS_ok (l:List Sym)(old:List Int):okL l.length (invS l old):=fun s hs=>by
 obtain⟨i,_,rfl⟩:=Qu.1 hs;exact invAt_ok l old i
theorem invAt_wf {l:List Sym}{old:List Int}(hl:l.length≤1000000)(hb:∀y∈old,0≤y∧y≤255){i:Nat}(hi:i < old.length):(invAt l old i).wf:=by
 unfold invAt;cases h:kept l i with
 | none =>
   have:old.getD i 0=old[i]:=by rw[xT,xI hi]; rfl
   have h2:=hb _ (List.getElem_mem hi);refine⟨by show _≤(0:Int); omega,by show(0:Int)≤_; omega,?_,?_⟩
   · show 0≤old.getD i 0; omega
   · show old.getD i 0≤255; omega
 | some j =>
   have:=kept_bd h;have hw:=wrapB (-(sAt l j.toNat).b);exact⟨by show _≤j; omega,by show j≤_; omega,hw.1,hw.2⟩
theorem invS_wf {l:List Sym}{old:List Int}(hl:l.length≤1000000)(hb:∀y∈old,0≤y∧y≤255):∀s∈invS l old,s.wf:=fun s hs=>by
 obtain⟨i,hi,rfl⟩:=Qu.1 hs;exact invAt_wf hl hb (List.mem_range.1 hi)
theorem inv_run {L:List Sym}{old:List Int}(ok:okL old.length L)(hb:∀y∈old,0≤y∧y≤255):(invS L old).map (runB (L.map (runB old)))=old:=by
 apply List.ext_getElem?
 intro i;by_cases hi:i < old.length
 · rw [uW, invS_at hi]
   obtain⟨o,ho⟩:∃o,old[i]? = some o:=⟨_,xI hi⟩
   have hob:=hb o (xR ho);rw[ho];show some (runB (L.map (runB old)) (invAt L old i))=some o
   congr 1
   unfold invAt;cases h:kept L i with
   | none =>
     show runB (L.map (runB old)) ⟨false,0,old.getD i 0⟩=o
     rw[xE rfl,xT,ho]; rfl
   | some j =>
     obtain⟨i0,h1,h2,⟨h3,h4⟩,_⟩:=(vR L L.length i).2 j h;have hs:=sAt_get h2;have hx:old[(sAt L i0).at_.toNat]? = some o:=by rw[h4]; simpa using ho
     have hn:(L.map (runB old))[((⟨true,j,Go.IntKind.u8.wrap (-(sAt L j.toNat).b)⟩:Sym).at_).toNat]? = some (runB old (sAt L i0)):=by
      show(L.map (runB old))[j.toNat]? = _
      rw[h1,Int.toNat_natCast,uW,hs]; rfl
     show runB (L.map (runB old)) ⟨true,j,Go.IntKind.u8.wrap (-(sAt L j.toNat).b)⟩=o
     rw[vk rfl hn,vk h3 hx,h1,Int.toNat_natCast];simp only[IntKind.wrap_u8];omega
 · rw[List.getElem?_eq_none (by rw[Qb,yg]; omega),List.getElem?_eq_none (by omega)]
structure InvFor (p F : PatL) (old : List Int) : Prop where
 eq:F=formOf false p.out (invS (symsOf p.ops) old)
 cheap:cheapP (invS (symsOf p.ops) old) p.out=(F,0)
 chk:(checkP F).2=0
 wf:F.wf
 lif:F.lifted=false
 in_:F.in_=p.out
 out:F.out=old.length
 syms:symsOf F.ops=invS (symsOf p.ops) old
theorem inv_for {p:PatL}{old:List Int}(hk:(checkP p).2=0)(hl:old.length≤4096)(hb:∀y∈old,0≤y∧y≤255):∃F,InvFor p F old:=by
 obtain⟨k1,k2,k3,k4,k5,k6,k7⟩:=ja hk;have hok:=invS_ok (symsOf p.ops) old;rw[k2]at hok;have hw:=invS_wf (l:=symsOf p.ops) (by omega) hb;have h4:(invS (symsOf p.ops) old).length≤4096:=by rw[yg]; exact hl
 exact⟨_,rfl,vY ⟨k5,k6⟩ h4 hok,formOf_check ⟨k5,k6⟩ h4 hok,formOf_wf ⟨k5,k6⟩ h4 hok hw,rfl,rfl,by show((invS (symsOf p.ops) old).length:Int)=_; rw[yg],(yA hok).1⟩
end Go.Proofs.YtgkgihnpjgbmhaaGreatDoor
namespace Go.Proofs.YtgkgihnpjgbmhaaGreatDoor
open Tryz
open Go Go.RowKit Go.Inl
structure RMap (I : Imm) (b : Nat) (l : List (Int × Int)) : Prop where
 hold:I b=some (mapO l)
theorem RMap.mono {I J:Imm}{b:Nat}{l:List (Int×Int)}(h:RMap I b l)(hs:Inl.Sub I J):RMap J b l:=⟨hs _ _ h.hold⟩
def invertP (old:List Int)(p:PatL):PatL×Int :=
 if (symbolsP p).2≠0 then (PatL.zero,(symbolsP p).2) else if (applyP old p).2≠0 then (PatL.zero,(applyP old p).2) else cheapP (invS (symbolsP p).1 old) p.out
theorem cheap_lif (l:List Sym)(n:Int):(cheapP l n).1.lifted=false:=by
 unfold cheapP;split
 · rfl
 · split <;> rfl
theorem kept_step {l:List Sym}{k:Nat}{s:Sym}(h:l[k]? = some s):keptUp l (k+1)=if s.old && (lookI (keptUp l k) s.at_).isNone then keptUp l k++[(s.at_,(k:Int))] else keptUp l k:=by
 show(if (sAt l k).old && (lookI (keptUp l k) (sAt l k).at_).isNone then keptUp l k++[((sAt l k).at_,(k:Int))] else keptUp l k)=_
 rw[sAt_of h]
set_option maxHeartbeats 1000000 in
theorem places_c (ad : Option Addr) (cap : Nat) (l : List Sym) (w0 : World) (I0 : Imm) (hI : Sat I0 w0) (hl : RSyms I0 (.sg ad l.length cap) l) :
 Ctr prog 35 [.sg ad l.length cap] w0 (fun v w'=>∃I' b,v = .map (some b)∧Ext w0 I0 w' I'∧RMap I' b (keptUp l l.length)):=by
 have hll:=RSl.le hl;simp only[maxLen]at hll;refine fn (n:=35) func35 rfl rfl rfl ?_;have Z:=St.start hI;refine QwR (qq Z (qd _) (QoR (qe (d_makeMap Z) ?_)));clear Z;rintro _ w_1⟨b8,rfl,Z⟩;refine qq Z (qd _) (QoN (xJ (QwR (qq Z (qb _) (qq Z (qo rfl uN hl rfl) (qq Z (Qmi rfl) (QoN (xU (loop (fun(k:Nat) σ w=>okS σ [(3,.map (some b8)),(9,.sg ad l.length cap),(10,.ig l.length),(11,.ig k)]∧St [] w0 I0 I0 w [.obj b8 (mapO (keptUp l k))]∧k≤l.length) (fun k=>l.length - k) (0) ?_ ?_)))))))))
 ·
  exact⟨⟨rfl,rfl,rfl,rfl,trivial⟩,Z.sel [true],by omega⟩
 ·
  rintro k σ w_l⟨hs,Z,hk0⟩;rw[← qj hs]; clear hs
  refine QwR (qq Z (g_lss rfl rfl) (QoN (xJ (qh rfl ?_ ?_))))
  ·
   intro hc12
   try simp only[zA,zO,zN,zI,zF,zM,zT,zU]at hc12
   obtain⟨s,hsi⟩:∃s,l[k]? = some s:=⟨_,xI (by omega)⟩
   have hsA:=hl.at hsi;have hstep:=kept_step hsi;refine xM (xL (xJ (xU (QwR (qq Z (Qmi rfl) (qq Z (g_ixI uN uQ hl rfl rfl (by omega) (by omega)) (qq Z (g_ldE (us:=[.bool _,.ig _,.bg _]) uQ QJ hsA rfl rfl rfl) (qe (qr (cs:=[.bool _,.ig _,.bg _]) Z QD rfl) ?_))))))));clear Z;rintro _ w_2⟨b5,rfl,Z⟩;refine qq Z (Qai rfl) (qe (qf 0 Z uQ rfl rfl rfl (vs:=[.bool _,.ig _,.bg _]) rfl rfl rfl (xH rfl) (cs':=[_,_,_]) rfl) ?_);clear Z;rintro _ w_3⟨rfl,Z⟩;refine QoR (qq Z (qb _) (qq Z (qa (o':=1) uF rfl xK rfl rfl rfl) (qq Z (qc 0 xW rfl rfl rfl) (qq Z (g_lookO 1 underlying77 ut Qe rfl rfl rfl) (qq Z (qb _) (qq Z (Qxi rfl rfl) (qq Z (qk (v:=.bool _) rfl rfl) (qq Z (Qai rfl) (qq Z (Qab rfl) (QoR (qq Z (qa (o':=0) uF rfl uy rfl rfl rfl) (qq Z (qc 0 QA rfl rfl rfl) ?_))))))))))));refine qq Z (Qmb rfl) (qu rfl rfl Z (fun hg=>(Qmb rfl)) ?_);intro u26 hu26 hn26;refine qu rfl rfl Z (fun hg=>(g_not (hu26 hg))) ?_;intro u27 hu27 hn27;refine qq Z (g_and rfl rfl (fun hq=>hu27 hq)) (QoN (qh rfl ?_ ?_))
   ·
    intro hc28;clear hu26 hn26 hu27 hn27;rw[uC]at hc28;have hnone:lookI (keptUp l k) s.at_=none:=by
     cases h:lookI (keptUp l k) s.at_ with
     | none=>rfl
     | some j=>rw[h]at hc28; cases hc28.2
    have hst:keptUp l k++[(s.at_,(k:Int))]=keptUp l (k+1):=by rw[hstep,hc28.1,hnone]; rfl
    refine reg (qq Z (qb _) (qq Z (qa (o':=1) uF rfl xK rfl rfl rfl) (qq Z (qc 0 xW rfl rfl rfl) (qq Z (Qmi rfl) (qe (d_mapPut 1 Z underlying77 ut rfl rfl rfl rfl hnone) ?_)))));clear Z;rintro _ w_4⟨rfl,Z⟩;refine qy (uM (xL (reg (qq Z (g_add rfl rfl (by omega) (by omega)) (qq Z (Qmi rfl) ?_)))))
    first
     | (refine ⟨k + 1, _, rfl, ⟨⟨rfl, rfl, rfl, rfl, trivial⟩, ?_, by omega⟩, by omega⟩
        rw[← hsk];exact Z.sel [false,true])
     | (refine ⟨k + 1, _, rfl, ⟨⟨rfl, rfl, rfl, rfl, trivial⟩, ?_, by omega⟩, by omega⟩
        rw[← hst];exact Z.sel [false,true])
   ·
    intro hc28;clear hu26 hn26 hu27 hn27;have hsk:keptUp l k=keptUp l (k+1):=by
     rw[hstep,xP];intro h;rw[uC]at h;rw[h.1,Option.isNone_iff_eq_none.1 h.2]at hc28;cases hc28
    refine xM (uM (xL (reg (qq Z (g_add rfl rfl (by omega) (by omega)) (qq Z (Qmi rfl) ?_)))))
    first
     | (refine ⟨k + 1, _, rfl, ⟨⟨rfl, rfl, rfl, rfl, trivial⟩, ?_, by omega⟩, by omega⟩
        rw[← hsk];exact Z.sel [false,true])
     | (refine ⟨k + 1, _, rfl, ⟨⟨rfl, rfl, rfl, rfl, trivial⟩, ?_, by omega⟩, by omega⟩
        rw[← hst];exact Z.sel [false,true])
  ·
   intro hc12
   try simp only[zA,zO,zN,zI,zF,zM,zT,zU]at hc12
   obtain rfl:k=l.length:=by omega
   refine ur (um (um (Qi (xL (QwR (qq Z (qb _) (qq Z (qd _) (QoN (xO (ret1 results35 (qg rfl) ?_))))))))));obtain⟨I1,hS1,hI1,hb1⟩:=St.freezeO Z;exact⟨I1,b8,rfl,hS1.nil,⟨hb1⟩⟩
set_option maxHeartbeats 1000000 in
theorem invert_c (p : PatL) (ad bd : Option Addr) (m cap capb : Nat) (old : List Int) (q : PatL) (e : Int) (w0 : World) (I0 : Imm) (hI : Sat I0 w0) (hops : ROps I0 (.sg ad m cap) p.ops) (hp : p.wf) (hl : p.lifted = false) (ho : RBytes I0 (.sg bd old.length capb) old) (hob : ∀ y ∈ old, 0 ≤ y ∧ y ≤ 255) (he : invertP old p = (q, e)) :
 Ctr prog 10 [.sg bd old.length capb,.agg #[.bool p.lifted,.ig p.in_,.ig p.out,.sg ad m cap]] w0 (fun v w'=>∃I' a m c,v = .tuple #[.agg #[.bool q.lifted,.ig q.in_,.ig q.out,.sg a m c],.ig e]∧Ext w0 I0 w' I'∧ROps I' (.sg a m c) q.ops):=by
 obtain⟨plf,pin,pout,pops⟩:=p;dsimp only at *;subst hl;have hwA:=kd hp;have hlA:=ka (⟨false,pin,pout,pops⟩:PatL);have hlo:=RSl.le ho;simp only[maxLen]at hlo;unfold invertP at he;obtain⟨A,eA,hA⟩:∃A e,symbolsP (⟨false,pin,pout,pops⟩:PatL)=(A,e):=⟨_,_,rfl⟩
 obtain⟨R,eR,hR⟩:∃R e,applyP old (⟨false,pin,pout,pops⟩:PatL)=(R,e):=⟨_,_,rfl⟩
 rw[hA,hR]at he;rw[hA]at hwA hlA;dsimp only at he hwA hlA;refine fn (n:=99) func10 rfl rfl rfl ?_;have Z:=St.start hI;refine QwR (qe (d_box (cs:=[.bool _,.ig _,.ig _,.sg _ _ _]) Z rfl) ?_);clear Z;rintro _ w_1⟨b3,rfl,Z⟩;refine qe (qr (cs:=[.bool _,.ig _,.ig _,.sg _ _ _]) Z uK rfl) ?_;clear Z;rintro _ w_2⟨b4,rfl,Z⟩;refine qq Z (Qai rfl) (QoR (qq Z (g_ldO 1 (vs:=[.bool _,.ig _,.ig _,.sg _ _ _]) ug uO rfl rfl rfl rfl) (qe (qi call27 rfl (symbols_L (⟨false,pin,pout,pops⟩:PatL) _ _ _ A eA _ _ Z.imm hops hp hA)) ?_)));rintro _ w_3⟨I_f,a21,c21,rfl,hE,h21⟩;replace Z:=Z.callE hE;replace hops:=hops.mono hE.ext;replace ho:=ho.mono hE.ext;refine qq Z (qb _) (qq Z (qk rfl rfl) (qq Z (Qxi rfl rfl) (qq Z (qd _) (qq Z (Qai rfl) (QoN (xJ (QwR (qq Z (Qmi rfl) (qq Z (g_neq rfl rfl) (QoN (qh rfl ?_ ?_)))))))))))
 ·
  intro hc25
  try simp only[zA,zO,zN,zI,zF,zM,zT,zU]at hc25
  rw[xS hc25]at he;obtain⟨he1,he2⟩:=Prod.mk.inj he;subst he1;subst he2;refine QwR (qq Z (qs (pl:=[(0,1),(1,1),(2,1),(3,1)]) (cs:=[.bool _,.ig _,.ig _,.sg _ _ _]) uK uk (fun w=>by simp[Qm,xK,uy]) mp0 rfl) (qq Z (Qmi rfl) (qe (qf 0 Z ug rfl rfl rfl (vs:=[.bool _,.ig _,.ig _,.sg _ _ _]) rfl rfl rfl (xH rfl) (cs':=[_,_,_,_]) rfl) ?_)));clear Z;rintro _ w_4⟨rfl,Z⟩;refine qq Z (Qai rfl) (QoN (xO (ul (ret2 results10 (qw 0 Z ug uO rfl rfl rfl) (qg (v:=.ig _) rfl) ?_))));exact⟨_,none,0,0,rfl,Z.nil,RSl.nilR⟩
 ·
  intro hc25
  try simp only[zA,zO,zN,zI,zF,zM,zT,zU]at hc25
  rw[xP (by simp[hc25])]at he;refine xM (xL (xJ (QwR (qq Z (qb _) (qq Z (g_ldO 1 (vs:=[.bool _,.ig _,.ig _,.sg _ _ _]) ug uO rfl rfl rfl rfl) (qe (qi call9 rfl (apply_L (⟨false,pin,pout,pops⟩:PatL) _ _ _ _ _ _ old R eR _ _ Z.imm hops hp rfl ho rfl hR)) ?_))))));rintro _ w_5⟨I_f,a31,c31,rfl,hE,h31⟩;replace Z:=Z.callE hE;replace hops:=hops.mono hE.ext;replace ho:=ho.mono hE.ext;replace h21:=h21.mono hE.ext;refine qq Z (qb _) (qq Z (qk rfl rfl) (qq Z (Qxi rfl rfl) (qq Z (qd _) (qq Z (Qai rfl) (QoR (qq Z (Qmi rfl) (qq Z (g_neq rfl rfl) (QoN (qh rfl ?_ ?_)))))))))
  ·
   intro hc35
   try simp only[zA,zO,zN,zI,zF,zM,zT,zU]at hc35
   rw[xS hc35]at he;obtain⟨he1,he2⟩:=Prod.mk.inj he;subst he1;subst he2;refine QwR (qq Z (qs (pl:=[(0,1),(1,1),(2,1),(3,1)]) (cs:=[.bool _,.ig _,.ig _,.sg _ _ _]) uK uk (fun w=>by simp[Qm,xK,uy]) mp0 rfl) (qq Z (Qmi rfl) (qe (qf 0 Z ug rfl rfl rfl (vs:=[.bool _,.ig _,.ig _,.sg _ _ _]) rfl rfl rfl (xH rfl) (cs':=[_,_,_,_]) rfl) ?_)));clear Z;rintro _ w_6⟨rfl,Z⟩;refine qq Z (Qai rfl) (QoN (xO (ul (ret2 results10 (qw 0 Z ug uO rfl rfl rfl) (qg (v:=.ig _) rfl) ?_))));exact⟨_,none,0,0,rfl,Z.nil,RSl.nilR⟩
  ·
   intro hc35
   try simp only[zA,zO,zN,zI,zF,zM,zT,zU]at hc35
   have hck:(checkP (⟨false,pin,pout,pops⟩:PatL)).2=0:=(symbolsP_ok' (by rw[hA]; exact hc25)).1;have hlen:(old.length:Int)=pin:=by
    by_cases h:(old.length:Int)=pin
    · exact h
    · unfold applyP at hR
      rw[hA,xS hc25,xP h]at hR;have:=(Prod.mk.inj hR).2;omega
   have hin4:=(ja hck).2.2.2.1;dsimp only at hin4;rw[xP (by simp[hc35])]at he;have hql:=cheap_lif (invS A old) pout;rw[he]at hql;dsimp only at hql;refine xM (xL (xJ (QwR (qq Z (qa (o':=0) uk rfl uy rfl rfl rfl) (qq Z (qc 1 QA rfl rfl rfl) (QoN (qV (rfl) (xM (xL (QwR (qq Z (qb _) (qe (qi call35 rfl (places_c _ _ A _ _ Z.imm h21)) ?_))))))))))));rintro _ w_7⟨I_f,b48,rfl,hE,h48⟩;replace Z:=Z.callE hE;replace hops:=hops.mono hE.ext;replace ho:=ho.mono hE.ext;replace h21:=h21.mono hE.ext;replace h31:=h31.mono hE.ext;refine qq Z (qd _) (QoR (qq Z (qb _) (qq Z (qo rfl xQ ho rfl) (qe (jS kw ⟨false,0,0⟩ old.length Z uN info80 rfl rfl rfl rfl rfl (by omega) rfl) ?_))));clear Z;rintro _ w_8⟨b51,rfl,Z⟩;refine qq Z (qd _) (QoN (xJ (QwR (qq Z (qb _) (qq Z (qo rfl xQ ho rfl) (qq Z (Qmi rfl) (QoN (xU (loop (fun(i:Nat) σ w=>okS σ [(3,.zg b3),(4,.zg b4),(6,.sg a21 A.length c21),(12,.map (some b48)),(13,.sg (some ⟨b51,0,none⟩) old.length old.length),(52,.sg bd old.length capb),(53,.ig old.length),(54,.ig i)]∧∃I,St [] w0 I0 I w [.row (.sg (some ⟨b51,0,none⟩) old.length old.length) 80 3 old.length (flat symC (invUp A old i)),.cel b4 26 [.bool false,.ig 0,.ig 0,.sg none 0 0],.cel b3 26 [.bool false,.ig pin,.ig pout,.sg ad m cap]]∧i≤old.length∧RBytes I (.sg bd old.length capb) old∧RSyms I (.sg a21 A.length c21) A∧RMap I b48 (keptUp A A.length)∧ROps I (.sg ad m cap) pops) (fun i=>old.length - i) (0) ?_ ?_)))))))))
   ·
    rw[← invUp_0 A old]at Z;exact⟨⟨rfl,rfl,rfl,rfl,rfl,rfl,rfl,rfl,trivial⟩,_,(Z.sel [true,true,true]).celRow 0 (xs:=flat symC (invUp A old 0)) (rest:=[]) (by rw[List.append_nil]; rfl) (by rw[qU kw,ki]) (uc _) (by simp only[maxLen]; omega) (by rw[List.append_nil,qU kw,ki]),by omega,ho,h21,h48,hops⟩
   ·
    rintro i σ w_l⟨hs,I,Z,hi0,ho,h21,h48,hops⟩;rw[← qj hs]; clear hs
    refine QwR (qq Z (g_lss rfl rfl) (QoN (xJ (qh rfl ?_ ?_))))
    ·
     intro hc55
     try simp only[zA,zO,zN,zI,zF,zM,zT,zU]at hc55
     have hlt:i < old.length:=by omega
     obtain⟨y,hyi⟩:∃y,old[i]? = some y:=⟨_,xI hlt⟩
     have hyA:=ho.at hyi;have hyb:=hob y (xR hyi);have hlN:old.length=(invUp A old i).length:=(ki A old i).symm;have hui:(invUp A old i)[i]? = some ⟨false,0,0⟩:=by rw[yf hlt,xP (by omega)]
     have hset:=invUp_set (l:=A) hlt;have hiv:invAt A old i=match kept A i with
      | some j=>⟨true,j,Go.IntKind.u8.wrap (-(sAt A j.toNat).b)⟩
      | none=>⟨false,0,y⟩:=by unfold invAt; rw[xT,hyi]; rfl
     unfold kept at hiv;refine xM (xL (xJ (xU (QwR (qq Z (Qmi rfl) (qq Z (g_ixI xQ un ho rfl rfl (by omega) (by omega)) (qq Z (qt uZ hyA rfl rfl) (qq Z (Qai rfl) (qq Z (qv (v:=.bg _) rfl) (QoR (qq Z (qb _) (qq Z (Qmi rfl) (qq Z (qx (v:=.bg _) rfl) (qq Z (g_ixR 0 uN uQ rfl rfl rfl (by omega) (by omega)) (qq Z (qE (c':=2) uF rfl un rfl rfl rfl) ?_)))))))))))))));refine qe (jd 0 kw ⟨false,0,y⟩ Z hlN hui un rfl rfl rfl (vs:=[.bg _]) rfl rfl rfl rfl rfl) ?_;clear Z;rintro _ w_9⟨rfl,Z⟩;refine QoR (qq Z (qb _) (qq Z (Qmi rfl) (qq Z (g_lookF underlying77 ut Qe h48.hold rfl rfl) (qq Z (qb _) (qq Z (Qxi rfl rfl) (qq Z (qk (v:=.bool _) rfl rfl) (qq Z (Qai rfl) (qq Z (Qab rfl) (QoR (qq Z (Qmb rfl) (QoN (qh rfl ?_ ?_))))))))))))
     ·
      intro hc70
      try simp only[zA,zO,zN,zI,zF,zM,zT,zU]at hc70
      obtain⟨j,hj⟩:=Option.isSome_iff_exists.1 hc70;have hjb:=kept_bd (l:=A) (a:=(i:Int)) hj;rw[hj]at hiv;dsimp only at hiv;have hj0:(lookI (keptUp A A.length) (i:Int)).getD 0=j:=by rw[hj]; rfl
      obtain⟨sj,hsj⟩:∃s,A[j.toNat]? = some s:=⟨_,xI (by omega)⟩
      rw[sAt_of hsj]at hiv;have hjA:atI I (elA (.sg a21 A.length c21) ((lookI (keptUp A A.length) (i:Int)).getD 0).toNat 3 0) [.bool sj.old,.ig sj.at_,.bg sj.b]:=by rw[hj0]; exact h21.at hsj
      have hlN2:old.length=((invUp A old i).set i ⟨false,0,y⟩).length:=by rw[ud]; exact hlN
      have hui2:((invUp A old i).set i ⟨false,0,y⟩)[i]? = some ⟨false,0,y⟩:=by rw[List.getElem?_set,xS rfl,xS (by omega)]
      have hst:((invUp A old i).set i ⟨false,0,y⟩).set i ⟨true,(lookI (keptUp A A.length) (i:Int)).getD 0,IntKind.u8.wrap (-sj.b)⟩=invUp A old (i+1):=by
       rw[List.set_set,hj0,← hset,hiv]
      refine reg (qq Z (qb _) (qq Z (Qmi rfl) (qq Z (Qmi rfl) (qq Z (qb _) (qq Z (Qmi rfl) (qq Z (g_ixI uN uQ h21 rfl rfl (by omega) (by omega)) (qq Z (qE (c':=2) uF rfl un rfl rfl rfl) (qq Z (qt uZ hjA rfl rfl) (qq Z (g_negw rfl) (qq Z (qs (pl:=[(0,1),(1,1),(2,1)]) (cs:=[.bool _,.ig _,.bg _]) QD uF (fun w=>by simp[xK,uy,un]) (mp (v:=.bool _) rfl (mp (v:=.ig _) rfl (mp (v:=.bg _) rfl mp0))) rfl) ?_))))))))));refine qq Z (g_ixR 0 uN uQ rfl rfl rfl (by omega) (by omega)) (qe (jd 0 kw ⟨true,(lookI (keptUp A A.length) (i:Int)).getD 0,IntKind.u8.wrap (-sj.b)⟩ Z hlN2 hui2 uQ rfl rfl rfl (vs:=[.bool _,.ig _,.bg _]) rfl rfl rfl rfl rfl) ?_);clear Z;rintro _ w_10⟨rfl,Z⟩;refine qy (uM (xL (reg (qq Z (g_add rfl rfl (by omega) (by omega)) (qq Z (Qmi rfl) ?_)))))
      first
       | (refine ⟨i + 1, _, rfl, ⟨⟨rfl, rfl, rfl, rfl, rfl, rfl, rfl, rfl, trivial⟩, _, ?_, by omega, ho, h21, h48, hops⟩, by omega⟩
          rw[← hsk];exact Z.sel [true,true,true])
       | (refine ⟨i + 1, _, rfl, ⟨⟨rfl, rfl, rfl, rfl, rfl, rfl, rfl, rfl, trivial⟩, _, ?_, by omega, ho, h21, h48, hops⟩, by omega⟩
          rw[← hst];exact Z.sel [true,true,true])
     ·
      intro hc70
      try simp only[zA,zO,zN,zI,zF,zM,zT,zU]at hc70
      have hj:lookI (keptUp A A.length) (i:Int)=none:=by
       cases h:lookI (keptUp A A.length) (i:Int) with
       | none=>rfl
       | some j=>rw[h]at hc70; cases hc70
      rw[hj]at hiv;dsimp only at hiv;have hsk:(invUp A old i).set i ⟨false,0,y⟩=invUp A old (i+1):=by rw[← hset,hiv]
      refine xM (uM (xL (reg (qq Z (g_add rfl rfl (by omega) (by omega)) (qq Z (Qmi rfl) ?_)))))
      first
       | (refine ⟨i + 1, _, rfl, ⟨⟨rfl, rfl, rfl, rfl, rfl, rfl, rfl, rfl, trivial⟩, _, ?_, by omega, ho, h21, h48, hops⟩, by omega⟩
          rw[← hsk];exact Z.sel [true,true,true])
       | (refine ⟨i + 1, _, rfl, ⟨⟨rfl, rfl, rfl, rfl, rfl, rfl, rfl, rfl, trivial⟩, _, ?_, by omega, ho, h21, h48, hops⟩, by omega⟩
          rw[← hst];exact Z.sel [true,true,true])
    ·
     intro hc55
     try simp only[zA,zO,zN,zI,zF,zM,zT,zU]at hc55
     obtain rfl:i=old.length:=by omega
     rw[invUp_all]at Z;refine ur (um (um (Qi (xL (xJ ?_)))));have hF:=St.freezeRow (u:=.sg (some ⟨b51,0,none⟩) old.length old.length) (m:=old.length) (xs:=invS A old) kw (by exact Z.ord [0,1,2]) ((yg A old).symm);clear Z;obtain⟨I_hsy,Z,hI_hsy,hsy⟩:=hF;replace ho:=ho.mono hI_hsy;replace h21:=h21.mono hI_hsy;replace h48:=h48.mono hI_hsy;replace hops:=hops.mono hI_hsy;refine reg (qq Z (qb _) (qq Z (qa (o':=2) uk rfl xK rfl rfl rfl) (qq Z (qc 1 xW rfl rfl rfl) (qe (qi call29 rfl (cheapest_e _ _ _ (invS A old) pout q e _ _ Z.imm hsy (yg A old).symm (invS_wf (by omega) hob) he)) ?_))));rintro _ w_11⟨I_f,a87,m87,c87,rfl,hE,h87⟩;replace Z:=Z.callE hE;replace ho:=ho.mono hE.ext;replace h21:=h21.mono hE.ext;replace h48:=h48.mono hE.ext;replace hops:=hops.mono hE.ext;replace hsy:=hsy.mono hE.ext;refine qq Z (qb _) (qq Z (qk rfl rfl) (qq Z (Qxi rfl rfl) (qe (qr (cs:=[.bool _,.ig _,.ig _,.sg _ _ _]) Z uK rfl) ?_)));clear Z;rintro _ w_12⟨b18,rfl,Z⟩;refine qe (qf 0 Z ug rfl rfl rfl (vs:=[.bool _,.ig _,.ig _,.sg _ _ _]) rfl rfl rfl (xH rfl) (cs':=[_,_,_,_]) rfl) ?_;clear Z;rintro _ w_13⟨rfl,Z⟩;refine qq Z (Qai rfl) (QoR (qq Z (qa (o':=0) uk rfl uy rfl rfl rfl) (qq Z (qc 2 QA rfl rfl rfl) (qq Z (Qmb rfl) (qsf rfl rfl rfl (qsf rfl rfl rfl (qq Z (g_and (b:=false) rfl rfl (fun h=>by cases h)) (qq Z (qa (o':=0) uk rfl uy rfl rfl rfl) (qe (qf 0 Z uy rfl rfl rfl (vs:=[.bool _]) rfl rfl rfl (xH rfl) (cs':=[_,_,_,_]) rfl) ?_)))))))));clear Z;rintro _ w_14⟨rfl,Z⟩;refine QoR (qq Z (g_ldO 0 (vs:=[.bool _,.ig _,.ig _,.sg _ _ _]) ug uO rfl rfl rfl rfl) (qq Z (Qmi rfl) (qe (qf 1 Z ug rfl rfl rfl (vs:=[.bool _,.ig _,.ig _,.sg _ _ _]) rfl rfl rfl (xH rfl) (cs':=[_,_,_,_]) rfl) ?_)))
     clear Z;rintro _ w_15⟨rfl,Z⟩;refine qq Z (Qai rfl) (QoN (xO (ret2 results10 (qw 1 Z ug uO rfl rfl rfl) (qg (v:=.ig _) rfl) ?_)));exact⟨_,a87,m87,c87,by rw[hql]; rfl,Z.nil,h87⟩
end Go.Proofs.YtgkgihnpjgbmhaaGreatDoor
namespace Go.Proofs.YtgkgihnpjgbmhaaGreatDoor
open Tryz
open Go Go.RowKit Go.Inl
end Go.Proofs.YtgkgihnpjgbmhaaGreatDoor
namespace Go.Proofs.YtgkgihnpjgbmhaaGreatDoor
open Tryz
open Go Go.RowKit Go.Inl
theorem invert_L (p : PatL) (ad bd : Option Addr) (m cap n capb : Nat) (old : List Int) (q : PatL) (e : Int) (w0 : World) (I0 : Imm) (hI : Sat I0 w0) (hops : ROps I0 (.sg ad m cap) p.ops) (hp : p.wf) (hl : p.lifted = false) (ho : RBytes I0 (.sg bd n capb) old) (hn : n = old.length) (hob : ∀ y ∈ old, 0 ≤ y ∧ y ≤ 255) (he : invertP old p = (q, e)) :
 Ctr prog 10 [.sg bd n capb,.agg #[.bool p.lifted,.ig p.in_,.ig p.out,.sg ad m cap]] w0 (fun v w'=>∃I' a m c,v = .tuple #[.agg #[.bool q.lifted,.ig q.in_,.ig q.out,.sg a m c],.ig e]∧Ext w0 I0 w' I'∧ROps I' (.sg a m c) q.ops):=by
 subst hn; exact invert_c p ad bd m cap capb old q e w0 I0 hI hops hp hl ho hob he
end Go.Proofs.YtgkgihnpjgbmhaaGreatDoor
