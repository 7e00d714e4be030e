/- inlayref29: fields, Right, Fits, Find, Valid, Cheaper, All, Path, Reach, Ints: what they compute. Conditions: a valid graph where it is said. -/
import Derived.Test.YtcajgkfgjpfmaaaGreatKSrv
import Derived.Test.YtcajgkfgjpfmaaaGreatFits
set_option linter.unusedSimpArgs false
set_option linter.unusedVariables false
namespace Go.Proofs.YtcajgkfgjpfmaaaGreat
open Tryz
open Go Go.RowKit Go.Inl
theorem jJ {g:GrL}(hg:GrOk g){v:Int}(h:v∈g.vs):indexP g.vs v=(vIx g v:Nat):=xF h
theorem jK (l:List Int)(v:Int):decide (indexP l v < 0) = !decide (v∈l):=by
 unfold indexP;by_cases h:v∈l
 · rw[xF h,un h,Qj (by omega)]; rfl
 · rw[xz h,Qj h]; rfl
def bF (l:List Int)(k:Nat):Int:=if k=0 then 0 else l.getD (k - 1) 0+1
theorem need_get (n:NeedL){k:Nat}(h:k < 5):([.int .i64 n.s,.int .i64 n.u,.int .i64 n.r,.int .i64 n.e,.int .i64 n.o]:List Value)[k]? = some (.int .i64 ((needL n).getD k 0)):=by
 rcases(show k=0∨k=1∨k=2∨k=3∨k=4 by omega) with rfl | rfl | rfl | rfl | rfl <;> rfl
structure RWB (I : Imm) (css : List (List Value)) (D : List WayL) : Prop where
 len:css.length=D.length
 at_:∀j cs,css[j]? = some cs→∃a c,cs=[.slice a (lab D j).l.length c,.int .i64 (lab D j).c,.bool (lab D j).is]∧RFl I 1 intC (.slice a (lab D j).l.length c) (lab D j).l
theorem RWB.mono {I J:Imm}{css:List (List Value)}{D:List WayL}(h:RWB I css D)(hs:Inl.Sub I J):RWB J css D :=
 ⟨h.len,fun j cs hj=>by obtain⟨a,c,h1,h2⟩:=h.at_ j cs hj; exact⟨a,c,h1,h2.mono hs⟩⟩
theorem RWB.cl {I:Imm}{css:List (List Value)}{D:List WayL}(h:RWB I css D):∀cs∈css,cs.length=3:=fun cs hcs=>by
 obtain⟨j,hj⟩:=uA.1 hcs;obtain⟨a,c,rfl,_⟩:=h.at_ j cs hj; rfl
theorem RWB.get {I:Imm}{css:List (List Value)}{D:List WayL}(h:RWB I css D){j:Nat}(hj:j < D.length):∃a c,css[j]? = some [.slice a (lab D j).l.length c,.int .i64 (lab D j).c,.bool (lab D j).is]∧RFl I 1 intC (.slice a (lab D j).l.length c) (lab D j).l:=by
 obtain⟨cs,hcs⟩:∃cs,css[j]? = some cs:=⟨_,xn (by rw[h.len]; exact hj)⟩
 obtain⟨a,c,rfl,h2⟩:=h.at_ j cs hcs;exact⟨a,c,hcs,h2⟩
theorem RWB.setW {I:Imm}{css:List (List Value)}{D:List WayL}(h:RWB I css D){j:Nat}(hj:j < D.length){w:WayL}{a:Option Addr}{c:Nat}(hw:RFl I 1 intC (.slice a w.l.length c) w.l):RWB I (css.set j [.slice a w.l.length c,.int .i64 w.c,.bool w.is]) (D.set j w):=by
 have hjl:j < css.length:=by rw[h.len]; exact hj
 refine⟨by rw[Qm,Qm]; exact h.len,fun i ci hi=>?_⟩;rw[List.getElem?_set]at hi;rw[jr hj];by_cases e:j=i
 · subst e
   rw[xF rfl,xF hjl]at hi;rw[xF rfl];exact⟨a,c,(Option.some.inj hi).symm,hw⟩
 · rw [xz e] at hi ⊢
   exact h.at_ i ci hi
def zWay3:List Value:=[.slice none 0 0,.int .i64 0,.bool false]
theorem yf (I:Imm)(n:Nat):RWB I (List.replicate n zWay3) (zeroD n):=by
 refine⟨by simp[zeroD],fun j cs hj=>?_⟩;rw[kM];have h:=xC hj;rw[List.mem_replicate]at h;exact⟨none,0,h.2,RFl.nil⟩
def RWayB (I:Imm)(cs:List Value)(d:WayL):Prop:=∃a c,cs=[.slice a d.l.length c,.int .i64 d.c,.bool d.is]∧RFl I 1 intC (.slice a d.l.length c) d.l
theorem RWayB.mono {I J:Imm}{cs:List Value}{d:WayL}(h:RWayB I cs d)(hs:Inl.Sub I J):RWayB J cs d:=by
 obtain⟨a,c,h1,h2⟩:=h;exact⟨a,c,h1,h2.mono hs⟩
def RWaysB (I:Imm)(v:Value)(l:List WayL):Prop:=RSl I 3 (RWayB I) v l
theorem RWaysB.mono {I J:Imm}{v:Value}{l:List WayL}(h:RWaysB I v l)(hs:Inl.Sub I J):RWaysB J v l:=RSl.mono h hs fun _ _ h=>h.mono hs
theorem RWB.ways {I:Imm}{css:List (List Value)}{D:List WayL}(h:RWB I css D):All2 (RWayB I) css D:=by
 refine⟨h.len,fun j cs d h1 h2=>?_⟩;obtain⟨a,c,e,h3⟩:=h.at_ j cs h1;have hd:lab D j=d:=by unfold lab; rw[xH,h2]; rfl
 rw[hd]at e h3;exact⟨a,c,e,h3⟩
structure AlW where
 r:Nat
 css:List (List Value)
theorem rndB_succ {g:GrL}{m:NeedL}{D:List WayL}{i:Nat}{k:LnkL}(h:g.ls[i]? = some k):rndB g m D (i+1)=relB g m (rndB g m D i) i k:=by
 show(match g.ls[i]? with | some k=>relB g m (rndB g m D i) i k | none=>rndB g m D i)=_
 rw[h]
theorem yh (g : GrL) (m : NeedL) (D : List WayL) : ∀ i, (rndB g m D i).length = D.length
 | 0=>rfl
 | i+1=>by
   have ih:=yh g m D i;show(match g.ls[i]? with | some k=>relB g m (rndB g m D i) i k | none=>rndB g m D i).length=_
   cases g.ls[i]? with
   | none=>exact ih
   | some k =>
     show(relB g m (rndB g m D i) i k).length=_
     unfold relB;split
     · split
       · rw[Qm]; exact ih
       · exact ih
     · exact ih
theorem yt (g : GrL) (m : NeedL) (D : List WayL) : ∀ r, (bfB g m D r).length = D.length
 | 0=>rfl
 | r+1=>(yh g m _ _).trans (yt g m D r)
theorem vM {g : GrL} (hg : GrB g) {m : NeedL} {D : List WayL} {r : Nat} (hD : D.length = g.vs.length) (h : BdW D r) : ∀ i, BdW (rndB g m D i) (r + i)
 | 0=>h
 | i+1=>by
   have ih:=vM hg (m:=m) hD h i;show BdW (match g.ls[i]? with | some k=>relB g m (rndB g m D i) i k | none=>rndB g m D i) _
   cases hk:g.ls[i]? with
   | none=>exact ih.mono (by omega)
   | some k =>
     have hkm:=xC hk;have hc1:=hg.cost k hkm;have hc2:=hg.cb k hkm;show BdW (relB g m (rndB g m D i) i k) _
     unfold relB;split
     · split
       · refine ⟨fun x => ?_⟩
         rw[jr (by rw[yh,hD]; exact jb (hg.ends k hkm).2)];split
         · have hw := ih.at_ (vIx g k.f)
           refine⟨?_,?_,?_⟩
           · show((lab (rndB g m D i) (vIx g k.f)).l++[(i:Int)]).length≤_; rw[xA]; show _+1≤_; omega
           · show 0≤(lab (rndB g m D i) (vIx g k.f)).c+k.c; omega
           · show(lab (rndB g m D i) (vIx g k.f)).c+k.c≤_; omega
         · exact(ih.mono (show r+i≤r+(i+1) by omega)).at_ x
       · exact ih.mono (by omega)
     · exact ih.mono (by omega)
theorem bfB_bd {g : GrL} (hg : GrB g) {m : NeedL} {s : Int} : ∀ r, BdW (bfB g m (startL g s) r) (r * g.ls.length)
 | 0=>by rw[Nat.zero_mul]; exact yu g s
 | r+1=>by
   have h:=vM hg (m:=m) (by rw[yt,jF]) (bfB_bd hg (m:=m) (s:=s) r) g.ls.length;rw[Nat.add_mul,Nat.one_mul];exact h
theorem qO (n:NeedL)(w0:World)(I0:Imm)(hI:Sat I0 w0):Ctr prog 76 [.agg #[.int .i64 n.s,.int .i64 n.u,.int .i64 n.r,.int .i64 n.e,.int .i64 n.o]] w0 (fun v w'=>v = .agg #[.int .i64 n.s,.int .i64 n.u,.int .i64 n.r,.int .i64 n.e,.int .i64 n.o]∧Ext w0 I0 w' I0):=by
 refine fn (n:=14) func76 rfl rfl rfl ?_;have hS:=St.start hI;refine QwR (qe (d_box (cs:=[.int .i64 _,.int .i64 _,.int .i64 _,.int .i64 _,.int .i64 _]) hS rfl) ?_);clear hS;rintro _ w_1⟨b1,rfl,hS⟩;refine qe (qo (cs:=[.int .i64 _,.int .i64 _,.int .i64 _,.int .i64 _,.int .i64 _]) hS Qw rfl) ?_;clear hS;rintro _ w_2⟨b2,rfl,hS⟩;refine QoR (qq hS (qb (o':=0) QE rfl xq rfl rfl rfl) (qq hS (qf 1 xI rfl rfl rfl) (qq hS (qb (o':=1) QE rfl xq rfl rfl rfl) (qq hS (qf 1 xI rfl rfl rfl) (qq hS (qb (o':=2) QE rfl xq rfl rfl rfl) (qq hS (qf 1 xI rfl rfl rfl) (qq hS (qb (o':=3) QE rfl xq rfl rfl rfl) (qq hS (qf 1 xI rfl rfl rfl) ?_))))))));refine qq hS (qb (o':=4) QE rfl xq rfl rfl rfl) (qq hS (qf 1 xI rfl rfl rfl) (qq hS (zY (cs:=[.int .i64 n.s,.int .i64 n.u,.int .i64 n.r,.int .i64 n.e,.int .i64 n.o]) Qw Jv xq rfl (fill5 _ _ _ _ _ _ _ _ _ _)) (qe (qg 0 hS QA rfl rfl rfl (vs:=[.int .i64 _,.int .i64 _,.int .i64 _,.int .i64 _,.int .i64 _]) rfl rfl rfl (xm rfl) (cs':=[_,_,_,_,_]) rfl) ?_)));clear hS;rintro _ w_3⟨rfl,hS⟩;refine QoN (xx (ret1 results76 (qv 0 hS QA isAgg145 rfl rfl rfl) ?_));exact⟨rfl,hS.nil⟩
set_option maxHeartbeats 1000000 in
theorem rfits29_c (n m:NeedL)(w0:World)(I0:Imm)(hI:Sat I0 w0):Ctr prog 41 [.agg #[.int .i64 n.s,.int .i64 n.u,.int .i64 n.r,.int .i64 n.e,.int .i64 n.o],.agg #[.int .i64 m.s,.int .i64 m.u,.int .i64 m.r,.int .i64 m.e,.int .i64 m.o]] w0 (fun v w'=>v = .bool (fitN n m)∧Ext w0 I0 w' I0):=by
 refine fn (n:=23) func41 rfl rfl rfl ?_;have hS:=St.start hI;refine QwR (qe (d_box (cs:=[.int .i64 _,.int .i64 _,.int .i64 _,.int .i64 _,.int .i64 _]) hS rfl) ?_);clear hS;rintro _ w_1⟨b2,rfl,hS⟩;refine qe (d_box (cs:=[.int .i64 _,.int .i64 _,.int .i64 _,.int .i64 _,.int .i64 _]) hS rfl) ?_;clear hS;rintro _ w_2⟨b3,rfl,hS⟩;refine qq hS (Qab rfl) (QoN (meet (fun σ w=>∃b5 b6,okS σ [(5,.pointer (some ⟨b5,0,none⟩)),(6,.pointer (some ⟨b6,0,none⟩))]∧St [] w0 I0 I0 w [.cel b6 145 [.int .i64 m.s,.int .i64 m.u,.int .i64 m.r,.int .i64 m.e,.int .i64 m.o],.cel b5 145 [.int .i64 n.s,.int .i64 n.u,.int .i64 n.r,.int .i64 n.e,.int .i64 n.o]]) ?_ ?_))
 ·
  refine drawS [true,true] (.cons 0 .held (.cons 2 .held (.fork3 1 (.fork3 3 (.fork 4 (.cons 5 .eff (.cons 6 .eff (.cons 7 .eff .nil))) 5 (.cons 4 .eff (.cons 6 .eff (.cons 7 .eff .nil)))) 4 (.fork 3 (.cons 5 .eff (.cons 6 .eff (.cons 7 .eff .nil))) 5 (.cons 3 .eff (.cons 6 .eff (.cons 7 .eff .nil)))) 5 (.fork 3 (.cons 4 .eff (.cons 6 .eff (.cons 7 .eff .nil))) 4 (.cons 3 .eff (.cons 6 .eff (.cons 7 .eff .nil))))) 4 (.fork 1 (.fork 3 (.cons 5 .eff (.cons 6 .eff (.cons 7 .eff .nil))) 5 (.cons 3 .eff (.cons 6 .eff (.cons 7 .eff .nil)))) 5 (.cons 1 .eff (.cons 3 .eff (.cons 6 .eff (.cons 7 .eff .nil))))) 5 (.fork 1 (.fork 3 (.cons 4 .eff (.cons 6 .eff (.cons 7 .eff .nil))) 4 (.cons 3 .eff (.cons 6 .eff (.cons 7 .eff .nil)))) 4 (.cons 1 .eff (.cons 3 .eff (.cons 6 .eff (.cons 7 .eff .nil)))))))) mixed (by kernel_rfl) hS ?_;intro w_3 hS;refine sh rfl (g_ldO 1 (vs:=[.int .i64 _,.int .i64 _,.int .i64 _,.int .i64 _,.int .i64 _]) uO QJ rfl rfl rfl rfl) (sh rfl (g_ldO 0 (vs:=[.int .i64 _,.int .i64 _,.int .i64 _,.int .i64 _,.int .i64 _]) uO QJ rfl rfl rfl rfl) (sk3 ?_ ?_ ?_))
  ·
   have hS0:=hS;refine se rfl (qi Jm rfl (qO n _ I0 hS.imm)) ?_;rintro _ w_4⟨rfl,hE⟩;replace hS:=hS.call hE;refine⟨_,_,(hS0.sel [true,true]).le hE.ext (xt _),hS.sel [true,true],sk3 ?_ ?_ ?_⟩
   ·
    have hS0:=hS;refine se rfl (qi Jm rfl (qO m _ I0 hS.imm)) ?_;rintro _ w_5⟨rfl,hE⟩;replace hS:=hS.call hE;refine⟨_,_,(hS0.sel [true,true]).le hE.ext (xt _),hS.sel [true,true],sk ?_ ?_⟩
    ·
     have hS0:=hS;refine se rfl (qo (cs:=[.int .i64 _,.int .i64 _,.int .i64 _,.int .i64 _,.int .i64 _]) hS Qw rfl) ?_;rintro _ w_6⟨b5,rfl,hS⟩;refine⟨_,_,fun _ h=>h,hS.sel [false,true,true],?_⟩;have hS0:=hS;refine se rfl (qo (cs:=[.int .i64 _,.int .i64 _,.int .i64 _,.int .i64 _,.int .i64 _]) hS Qw rfl) ?_;rintro _ w_7⟨b6,rfl,hS⟩;refine⟨_,_,fun _ h=>h,hS.sel [false,false,true,true],?_⟩;have hS0:=hS;refine se rfl (qg 1 hS QA rfl rfl rfl (vs:=[.int .i64 _,.int .i64 _,.int .i64 _,.int .i64 _,.int .i64 _]) rfl rfl rfl (xm rfl) (cs':=[_,_,_,_,_]) rfl) ?_;rintro _ w_8⟨rfl,hS⟩;refine⟨_,_,fun _ h=>h,hS.sel [false,false,true,true],?_⟩;have hS0:=hS;refine se rfl (qg 0 hS QA rfl rfl rfl (vs:=[.int .i64 _,.int .i64 _,.int .i64 _,.int .i64 _,.int .i64 _]) rfl rfl rfl (xm rfl) (cs':=[_,_,_,_,_]) rfl) ?_;rintro _ w_9⟨rfl,hS⟩;refine⟨_,_,fun _ h=>h,hS.sel [false,false,true,true],sn (xr ?_)⟩;exact⟨_,rfl,b5,b6,⟨rfl,rfl,trivial⟩,(hS.sel [true,true,false,false])⟩
    ·
     have hS0:=hS;refine se rfl (qo (cs:=[.int .i64 _,.int .i64 _,.int .i64 _,.int .i64 _,.int .i64 _]) hS Qw rfl) ?_;rintro _ w_10⟨b6,rfl,hS⟩;refine⟨_,_,fun _ h=>h,hS.sel [false,true,true],?_⟩;have hS0:=hS;refine se rfl (qo (cs:=[.int .i64 _,.int .i64 _,.int .i64 _,.int .i64 _,.int .i64 _]) hS Qw rfl) ?_;rintro _ w_11⟨b5,rfl,hS⟩;refine⟨_,_,fun _ h=>h,hS.sel [false,false,true,true],?_⟩;have hS0:=hS;refine se rfl (qg 0 hS QA rfl rfl rfl (vs:=[.int .i64 _,.int .i64 _,.int .i64 _,.int .i64 _,.int .i64 _]) rfl rfl rfl (xm rfl) (cs':=[_,_,_,_,_]) rfl) ?_;rintro _ w_12⟨rfl,hS⟩;refine⟨_,_,fun _ h=>h,hS.sel [false,false,true,true],?_⟩;have hS0:=hS;refine se rfl (qg 1 hS QA rfl rfl rfl (vs:=[.int .i64 _,.int .i64 _,.int .i64 _,.int .i64 _,.int .i64 _]) rfl rfl rfl (xm rfl) (cs':=[_,_,_,_,_]) rfl) ?_;rintro _ w_13⟨rfl,hS⟩;refine⟨_,_,fun _ h=>h,hS.sel [false,false,true,true],sn (xr ?_)⟩;exact⟨_,rfl,b5,b6,⟨rfl,rfl,trivial⟩,(hS.ord [1,0])⟩
   ·
    have hS0:=hS;refine se rfl (qo (cs:=[.int .i64 _,.int .i64 _,.int .i64 _,.int .i64 _,.int .i64 _]) hS Qw rfl) ?_;rintro _ w_14⟨b5,rfl,hS⟩;refine⟨_,_,fun _ h=>h,hS.sel [false,true,true],sk ?_ ?_⟩
    ·
     have hS0:=hS;refine se rfl (qi Jm rfl (qO m _ I0 hS.imm)) ?_;rintro _ w_15⟨rfl,hE⟩;replace hS:=hS.call hE;refine⟨_,_,(hS0.sel [false,true,true]).le hE.ext (xt _),hS.sel [false,true,true],?_⟩;have hS0:=hS;refine se rfl (qo (cs:=[.int .i64 _,.int .i64 _,.int .i64 _,.int .i64 _,.int .i64 _]) hS Qw rfl) ?_;rintro _ w_16⟨b6,rfl,hS⟩;refine⟨_,_,fun _ h=>h,hS.sel [false,false,true,true],?_⟩;have hS0:=hS;refine se rfl (qg 1 hS QA rfl rfl rfl (vs:=[.int .i64 _,.int .i64 _,.int .i64 _,.int .i64 _,.int .i64 _]) rfl rfl rfl (xm rfl) (cs':=[_,_,_,_,_]) rfl) ?_;rintro _ w_17⟨rfl,hS⟩;refine⟨_,_,fun _ h=>h,hS.sel [false,false,true,true],?_⟩;have hS0:=hS;refine se rfl (qg 0 hS QA rfl rfl rfl (vs:=[.int .i64 _,.int .i64 _,.int .i64 _,.int .i64 _,.int .i64 _]) rfl rfl rfl (xm rfl) (cs':=[_,_,_,_,_]) rfl) ?_;rintro _ w_18⟨rfl,hS⟩;refine⟨_,_,fun _ h=>h,hS.sel [false,false,true,true],sn (xr ?_)⟩;exact⟨_,rfl,b5,b6,⟨rfl,rfl,trivial⟩,(hS.sel [true,true,false,false])⟩
    ·
     have hS0:=hS;refine se rfl (qo (cs:=[.int .i64 _,.int .i64 _,.int .i64 _,.int .i64 _,.int .i64 _]) hS Qw rfl) ?_;rintro _ w_19⟨b6,rfl,hS⟩;refine⟨_,_,fun _ h=>h,hS.sel [false,false,true,true],?_⟩;have hS0:=hS;refine se rfl (qi Jm rfl (qO m _ I0 hS.imm)) ?_;rintro _ w_20⟨rfl,hE⟩;replace hS:=hS.call hE;refine⟨_,_,(hS0.sel [false,false,true,true]).le hE.ext (xt _),hS.sel [false,false,true,true],?_⟩;have hS0:=hS;refine se rfl (qg 1 hS QA rfl rfl rfl (vs:=[.int .i64 _,.int .i64 _,.int .i64 _,.int .i64 _,.int .i64 _]) rfl rfl rfl (xm rfl) (cs':=[_,_,_,_,_]) rfl) ?_;rintro _ w_21⟨rfl,hS⟩;refine⟨_,_,fun _ h=>h,hS.sel [false,false,true,true],?_⟩;have hS0:=hS;refine se rfl (qg 0 hS QA rfl rfl rfl (vs:=[.int .i64 _,.int .i64 _,.int .i64 _,.int .i64 _,.int .i64 _]) rfl rfl rfl (xm rfl) (cs':=[_,_,_,_,_]) rfl) ?_;rintro _ w_22⟨rfl,hS⟩;refine⟨_,_,fun _ h=>h,hS.sel [false,false,true,true],sn (xr ?_)⟩;exact⟨_,rfl,b5,b6,⟨rfl,rfl,trivial⟩,(hS.sel [true,true,false,false])⟩
   ·
    have hS0:=hS;refine se rfl (qo (cs:=[.int .i64 _,.int .i64 _,.int .i64 _,.int .i64 _,.int .i64 _]) hS Qw rfl) ?_;rintro _ w_23⟨b6,rfl,hS⟩;refine⟨_,_,fun _ h=>h,hS.sel [false,true,true],sk ?_ ?_⟩
    ·
     have hS0:=hS;refine se rfl (qi Jm rfl (qO m _ I0 hS.imm)) ?_;rintro _ w_24⟨rfl,hE⟩;replace hS:=hS.call hE;refine⟨_,_,(hS0.sel [false,true,true]).le hE.ext (xt _),hS.sel [false,true,true],?_⟩;have hS0:=hS;refine se rfl (qo (cs:=[.int .i64 _,.int .i64 _,.int .i64 _,.int .i64 _,.int .i64 _]) hS Qw rfl) ?_;rintro _ w_25⟨b5,rfl,hS⟩;refine⟨_,_,fun _ h=>h,hS.sel [false,false,true,true],?_⟩;have hS0:=hS;refine se rfl (qg 0 hS QA rfl rfl rfl (vs:=[.int .i64 _,.int .i64 _,.int .i64 _,.int .i64 _,.int .i64 _]) rfl rfl rfl (xm rfl) (cs':=[_,_,_,_,_]) rfl) ?_;rintro _ w_26⟨rfl,hS⟩;refine⟨_,_,fun _ h=>h,hS.sel [false,false,true,true],?_⟩;have hS0:=hS;refine se rfl (qg 1 hS QA rfl rfl rfl (vs:=[.int .i64 _,.int .i64 _,.int .i64 _,.int .i64 _,.int .i64 _]) rfl rfl rfl (xm rfl) (cs':=[_,_,_,_,_]) rfl) ?_;rintro _ w_27⟨rfl,hS⟩;refine⟨_,_,fun _ h=>h,hS.sel [false,false,true,true],sn (xr ?_)⟩;exact⟨_,rfl,b5,b6,⟨rfl,rfl,trivial⟩,(hS.ord [1,0])⟩
    ·
     have hS0:=hS;refine se rfl (qo (cs:=[.int .i64 _,.int .i64 _,.int .i64 _,.int .i64 _,.int .i64 _]) hS Qw rfl) ?_;rintro _ w_28⟨b5,rfl,hS⟩;refine⟨_,_,fun _ h=>h,hS.sel [false,false,true,true],?_⟩;have hS0:=hS;refine se rfl (qi Jm rfl (qO m _ I0 hS.imm)) ?_;rintro _ w_29⟨rfl,hE⟩;replace hS:=hS.call hE;refine⟨_,_,(hS0.sel [false,false,true,true]).le hE.ext (xt _),hS.sel [false,false,true,true],?_⟩;have hS0:=hS;refine se rfl (qg 0 hS QA rfl rfl rfl (vs:=[.int .i64 _,.int .i64 _,.int .i64 _,.int .i64 _,.int .i64 _]) rfl rfl rfl (xm rfl) (cs':=[_,_,_,_,_]) rfl) ?_;rintro _ w_30⟨rfl,hS⟩;refine⟨_,_,fun _ h=>h,hS.sel [false,false,true,true],?_⟩;have hS0:=hS;refine se rfl (qg 1 hS QA rfl rfl rfl (vs:=[.int .i64 _,.int .i64 _,.int .i64 _,.int .i64 _,.int .i64 _]) rfl rfl rfl (xm rfl) (cs':=[_,_,_,_,_]) rfl) ?_;rintro _ w_31⟨rfl,hS⟩;refine⟨_,_,fun _ h=>h,hS.sel [false,false,true,true],sn (xr ?_)⟩;exact⟨_,rfl,b5,b6,⟨rfl,rfl,trivial⟩,(hS.ord [1,0])⟩
  ·
   have hS0:=hS;refine se rfl (qo (cs:=[.int .i64 _,.int .i64 _,.int .i64 _,.int .i64 _,.int .i64 _]) hS Qw rfl) ?_;rintro _ w_32⟨b5,rfl,hS⟩;refine⟨_,_,fun _ h=>h,hS.sel [false,true,true],sk ?_ ?_⟩
   ·
    have hS0:=hS;refine se rfl (qi Jm rfl (qO n _ I0 hS.imm)) ?_;rintro _ w_33⟨rfl,hE⟩;replace hS:=hS.call hE;refine⟨_,_,(hS0.sel [false,true,true]).le hE.ext (xt _),hS.sel [false,true,true],sk ?_ ?_⟩
    ·
     have hS0:=hS;refine se rfl (qi Jm rfl (qO m _ I0 hS.imm)) ?_;rintro _ w_34⟨rfl,hE⟩;replace hS:=hS.call hE;refine⟨_,_,(hS0.sel [false,true,true]).le hE.ext (xt _),hS.sel [false,true,true],?_⟩;have hS0:=hS;refine se rfl (qo (cs:=[.int .i64 _,.int .i64 _,.int .i64 _,.int .i64 _,.int .i64 _]) hS Qw rfl) ?_;rintro _ w_35⟨b6,rfl,hS⟩;refine⟨_,_,fun _ h=>h,hS.sel [false,false,true,true],?_⟩;have hS0:=hS;refine se rfl (qg 1 hS QA rfl rfl rfl (vs:=[.int .i64 _,.int .i64 _,.int .i64 _,.int .i64 _,.int .i64 _]) rfl rfl rfl (xm rfl) (cs':=[_,_,_,_,_]) rfl) ?_;rintro _ w_36⟨rfl,hS⟩;refine⟨_,_,fun _ h=>h,hS.sel [false,false,true,true],?_⟩;have hS0:=hS;refine se rfl (qg 0 hS QA rfl rfl rfl (vs:=[.int .i64 _,.int .i64 _,.int .i64 _,.int .i64 _,.int .i64 _]) rfl rfl rfl (xm rfl) (cs':=[_,_,_,_,_]) rfl) ?_;rintro _ w_37⟨rfl,hS⟩;refine⟨_,_,fun _ h=>h,hS.sel [false,false,true,true],sn (xr ?_)⟩;exact⟨_,rfl,b5,b6,⟨rfl,rfl,trivial⟩,(hS.sel [true,true,false,false])⟩
    ·
     have hS0:=hS;refine se rfl (qo (cs:=[.int .i64 _,.int .i64 _,.int .i64 _,.int .i64 _,.int .i64 _]) hS Qw rfl) ?_;rintro _ w_38⟨b6,rfl,hS⟩;refine⟨_,_,fun _ h=>h,hS.sel [false,false,true,true],?_⟩;have hS0:=hS;refine se rfl (qi Jm rfl (qO m _ I0 hS.imm)) ?_;rintro _ w_39⟨rfl,hE⟩;replace hS:=hS.call hE;refine⟨_,_,(hS0.sel [false,false,true,true]).le hE.ext (xt _),hS.sel [false,false,true,true],?_⟩;have hS0:=hS;refine se rfl (qg 1 hS QA rfl rfl rfl (vs:=[.int .i64 _,.int .i64 _,.int .i64 _,.int .i64 _,.int .i64 _]) rfl rfl rfl (xm rfl) (cs':=[_,_,_,_,_]) rfl) ?_;rintro _ w_40⟨rfl,hS⟩;refine⟨_,_,fun _ h=>h,hS.sel [false,false,true,true],?_⟩;have hS0:=hS;refine se rfl (qg 0 hS QA rfl rfl rfl (vs:=[.int .i64 _,.int .i64 _,.int .i64 _,.int .i64 _,.int .i64 _]) rfl rfl rfl (xm rfl) (cs':=[_,_,_,_,_]) rfl) ?_;rintro _ w_41⟨rfl,hS⟩;refine⟨_,_,fun _ h=>h,hS.sel [false,false,true,true],sn (xr ?_)⟩;exact⟨_,rfl,b5,b6,⟨rfl,rfl,trivial⟩,(hS.sel [true,true,false,false])⟩
   ·
    have hS0:=hS;refine se rfl (qo (cs:=[.int .i64 _,.int .i64 _,.int .i64 _,.int .i64 _,.int .i64 _]) hS Qw rfl) ?_;rintro _ w_42⟨b6,rfl,hS⟩;refine⟨_,_,fun _ h=>h,hS.sel [false,false,true,true],?_⟩;have hS0:=hS;refine se rfl (qi Jm rfl (qO n _ I0 hS.imm)) ?_;rintro _ w_43⟨rfl,hE⟩;replace hS:=hS.call hE;refine⟨_,_,(hS0.sel [false,false,true,true]).le hE.ext (xt _),hS.sel [false,false,true,true],?_⟩;have hS0:=hS;refine se rfl (qi Jm rfl (qO m _ I0 hS.imm)) ?_;rintro _ w_44⟨rfl,hE⟩;replace hS:=hS.call hE;refine⟨_,_,(hS0.sel [false,false,true,true]).le hE.ext (xt _),hS.sel [false,false,true,true],?_⟩;have hS0:=hS;refine se rfl (qg 1 hS QA rfl rfl rfl (vs:=[.int .i64 _,.int .i64 _,.int .i64 _,.int .i64 _,.int .i64 _]) rfl rfl rfl (xm rfl) (cs':=[_,_,_,_,_]) rfl) ?_;rintro _ w_45⟨rfl,hS⟩;refine⟨_,_,fun _ h=>h,hS.sel [false,false,true,true],?_⟩;have hS0:=hS;refine se rfl (qg 0 hS QA rfl rfl rfl (vs:=[.int .i64 _,.int .i64 _,.int .i64 _,.int .i64 _,.int .i64 _]) rfl rfl rfl (xm rfl) (cs':=[_,_,_,_,_]) rfl) ?_;rintro _ w_46⟨rfl,hS⟩;refine⟨_,_,fun _ h=>h,hS.sel [false,false,true,true],sn (xr ?_)⟩;exact⟨_,rfl,b5,b6,⟨rfl,rfl,trivial⟩,(hS.sel [true,true,false,false])⟩
  ·
   have hS0:=hS;refine se rfl (qo (cs:=[.int .i64 _,.int .i64 _,.int .i64 _,.int .i64 _,.int .i64 _]) hS Qw rfl) ?_;rintro _ w_47⟨b6,rfl,hS⟩;refine⟨_,_,fun _ h=>h,hS.sel [false,true,true],sk ?_ ?_⟩
   ·
    have hS0:=hS;refine se rfl (qi Jm rfl (qO n _ I0 hS.imm)) ?_;rintro _ w_48⟨rfl,hE⟩;replace hS:=hS.call hE;refine⟨_,_,(hS0.sel [false,true,true]).le hE.ext (xt _),hS.sel [false,true,true],sk ?_ ?_⟩
    ·
     have hS0:=hS;refine se rfl (qi Jm rfl (qO m _ I0 hS.imm)) ?_;rintro _ w_49⟨rfl,hE⟩;replace hS:=hS.call hE;refine⟨_,_,(hS0.sel [false,true,true]).le hE.ext (xt _),hS.sel [false,true,true],?_⟩;have hS0:=hS;refine se rfl (qo (cs:=[.int .i64 _,.int .i64 _,.int .i64 _,.int .i64 _,.int .i64 _]) hS Qw rfl) ?_;rintro _ w_50⟨b5,rfl,hS⟩;refine⟨_,_,fun _ h=>h,hS.sel [false,false,true,true],?_⟩;have hS0:=hS;refine se rfl (qg 0 hS QA rfl rfl rfl (vs:=[.int .i64 _,.int .i64 _,.int .i64 _,.int .i64 _,.int .i64 _]) rfl rfl rfl (xm rfl) (cs':=[_,_,_,_,_]) rfl) ?_;rintro _ w_51⟨rfl,hS⟩;refine⟨_,_,fun _ h=>h,hS.sel [false,false,true,true],?_⟩;have hS0:=hS;refine se rfl (qg 1 hS QA rfl rfl rfl (vs:=[.int .i64 _,.int .i64 _,.int .i64 _,.int .i64 _,.int .i64 _]) rfl rfl rfl (xm rfl) (cs':=[_,_,_,_,_]) rfl) ?_;rintro _ w_52⟨rfl,hS⟩;refine⟨_,_,fun _ h=>h,hS.sel [false,false,true,true],sn (xr ?_)⟩;exact⟨_,rfl,b5,b6,⟨rfl,rfl,trivial⟩,(hS.ord [1,0])⟩
    ·
     have hS0:=hS;refine se rfl (qo (cs:=[.int .i64 _,.int .i64 _,.int .i64 _,.int .i64 _,.int .i64 _]) hS Qw rfl) ?_;rintro _ w_53⟨b5,rfl,hS⟩;refine⟨_,_,fun _ h=>h,hS.sel [false,false,true,true],?_⟩;have hS0:=hS;refine se rfl (qi Jm rfl (qO m _ I0 hS.imm)) ?_;rintro _ w_54⟨rfl,hE⟩;replace hS:=hS.call hE;refine⟨_,_,(hS0.sel [false,false,true,true]).le hE.ext (xt _),hS.sel [false,false,true,true],?_⟩;have hS0:=hS;refine se rfl (qg 0 hS QA rfl rfl rfl (vs:=[.int .i64 _,.int .i64 _,.int .i64 _,.int .i64 _,.int .i64 _]) rfl rfl rfl (xm rfl) (cs':=[_,_,_,_,_]) rfl) ?_;rintro _ w_55⟨rfl,hS⟩;refine⟨_,_,fun _ h=>h,hS.sel [false,false,true,true],?_⟩;have hS0:=hS;refine se rfl (qg 1 hS QA rfl rfl rfl (vs:=[.int .i64 _,.int .i64 _,.int .i64 _,.int .i64 _,.int .i64 _]) rfl rfl rfl (xm rfl) (cs':=[_,_,_,_,_]) rfl) ?_;rintro _ w_56⟨rfl,hS⟩;refine⟨_,_,fun _ h=>h,hS.sel [false,false,true,true],sn (xr ?_)⟩;exact⟨_,rfl,b5,b6,⟨rfl,rfl,trivial⟩,(hS.ord [1,0])⟩
   ·
    have hS0:=hS;refine se rfl (qo (cs:=[.int .i64 _,.int .i64 _,.int .i64 _,.int .i64 _,.int .i64 _]) hS Qw rfl) ?_;rintro _ w_57⟨b5,rfl,hS⟩;refine⟨_,_,fun _ h=>h,hS.sel [false,false,true,true],?_⟩;have hS0:=hS;refine se rfl (qi Jm rfl (qO n _ I0 hS.imm)) ?_;rintro _ w_58⟨rfl,hE⟩;replace hS:=hS.call hE;refine⟨_,_,(hS0.sel [false,false,true,true]).le hE.ext (xt _),hS.sel [false,false,true,true],?_⟩;have hS0:=hS;refine se rfl (qi Jm rfl (qO m _ I0 hS.imm)) ?_;rintro _ w_59⟨rfl,hE⟩;replace hS:=hS.call hE;refine⟨_,_,(hS0.sel [false,false,true,true]).le hE.ext (xt _),hS.sel [false,false,true,true],?_⟩;have hS0:=hS;refine se rfl (qg 0 hS QA rfl rfl rfl (vs:=[.int .i64 _,.int .i64 _,.int .i64 _,.int .i64 _,.int .i64 _]) rfl rfl rfl (xm rfl) (cs':=[_,_,_,_,_]) rfl) ?_;rintro _ w_60⟨rfl,hS⟩;refine⟨_,_,fun _ h=>h,hS.sel [false,false,true,true],?_⟩;have hS0:=hS;refine se rfl (qg 1 hS QA rfl rfl rfl (vs:=[.int .i64 _,.int .i64 _,.int .i64 _,.int .i64 _,.int .i64 _]) rfl rfl rfl (xm rfl) (cs':=[_,_,_,_,_]) rfl) ?_;rintro _ w_61⟨rfl,hS⟩;refine⟨_,_,fun _ h=>h,hS.sel [false,false,true,true],sn (xr ?_)⟩;exact⟨_,rfl,b5,b6,⟨rfl,rfl,trivial⟩,(hS.ord [1,0])⟩
 ·
  rintro σ w_j⟨b5,b6,hs,hS⟩;rw[← qr hs];refine xp (QwR (qq hS (Qai rfl) (QoN (xG (loop (fun(k:Nat) σ w=>okS σ [(5,.pointer (some ⟨b5,0,none⟩)),(6,.pointer (some ⟨b6,0,none⟩)),(7,.int .i64 k)]∧St [] w0 I0 I0 w [.cel b6 145 [.int .i64 m.s,.int .i64 m.u,.int .i64 m.r,.int .i64 m.e,.int .i64 m.o],.cel b5 145 [.int .i64 n.s,.int .i64 n.u,.int .i64 n.r,.int .i64 n.e,.int .i64 n.o]]∧k≤5∧∀i,i < k→(needL n).getD i 0≤(needL m).getD i 0) (fun k=>5 - k) (0) ?_ ?_)))))
  ·
   exact⟨⟨rfl,rfl,rfl,trivial⟩,hS.sel [true,true],by omega,fun i hi=>by omega⟩
  ·
   rintro k σ w_l⟨hs,hS,hk,hall⟩;rw[← qr hs]; clear hs
   refine xp (QwR (qq hS (Qmi rfl) (qq hS (g_lss rfl rfl) (QoN (qk rfl ?_ ?_)))))
   ·
    intro hc13
    try simp only[zA,zO,zN,zI,zF,zM,zT,zU]at hc13
    refine xw (xr (xp (xG (xp (draw (.cons 0 .pure (.cons 1 .pure (.cons 2 .held (.cons 3 .pure (.cons 4 .pure (.cons 5 .held (.cons 6 .pure .nil))))))) mixed (by kernel_rfl) hS ?_)))));intro w_62 hS;refine sp rfl (Qmi rfl) (sp rfl (qC (o':=k) Jv xq rfl rfl (by omega) (by omega) (by omega)) (sh rfl (qf 1 xI rfl rfl (need_get n (k:=k) (by omega))) (sp rfl (Qmi rfl) (sp rfl (qC (o':=k) Jv xq rfl rfl (by omega) (by omega) (by omega)) (sh rfl (qf 0 xI rfl rfl (need_get m (k:=k) (by omega))) ?_)))));refine sp rfl (g_gtr rfl rfl) (sn (xr (qk rfl ?_ ?_)))
    ·
     intro hc22
     try simp only[zA,zO,zN,zI,zF,zM,zT,zU]at hc22
     have e:fitN n m=false:=by
      cases h:fitN n m with
      | false=>rfl
      | true=>have:=yS.1 h k (by omega); omega
     refine QwR (qq hS (Qab rfl) (QoN (xx (uH (xS (xS (uH (xS (ret1 results41 (qj (v:=.bool _) rfl) ?_)))))))));exact⟨by rw[e] <;> rfl,hS.nil⟩
    ·
     intro hc22
     try simp only[zA,zO,zN,zI,zF,zM,zT,zU]at hc22
     have hnx:∀i,i < k+1→(needL n).getD i 0≤(needL m).getD i 0:=fun i hi=>by
      rcases uw.1 hi with h | h
      · exact hall i h
      · subst h; omega
     refine xw (uF (xr (reg (qq hS (Qmi rfl) (qq hS (g_add rfl rfl (by omega) (by omega)) (qq hS (Qai rfl) ?_))))));exact⟨k+1,_,rfl,⟨⟨rfl,rfl,rfl,trivial⟩,hS.sel [true,true],by omega,hnx⟩,by omega⟩
   ·
    intro hc13
    try simp only[zA,zO,zN,zI,zF,zM,zT,zU]at hc13
    have e:fitN n m=true:=yS.2 (fun i hi=>hall i (by omega));refine uc (xZ (xZ (Qd (xr (QwR (qq hS (Qab rfl) (QoN (xx (ret1 results41 (qj (v:=.bool _) rfl) ?_)))))))));exact⟨by rw[e] <;> rfl,hS.nil⟩
theorem jN (g : GrL) (a0 a1 : Option Addr) (c0 c1 : Nat) (v : Int) (w0 : World) (I0 : Imm) (hI : Sat I0 w0) (hG : RGr I0 a0 c0 a1 c1 g) :
 Ctr prog 30 [.agg #[.slice a0 g.vs.length c0,.slice a1 g.ls.length c1],.int .i64 v] w0 (fun u w'=>u = .int .i64 (indexP g.vs v)∧Ext w0 I0 w' I0):=by
 have hle:=RSl.le hG.vs;simp only[maxLen]at hle;refine fn (n:=21) func30 rfl rfl rfl ?_;have hS:=St.start hI;refine QwR (qe (d_box (cs:=[.slice _ _ _,.slice _ _ _]) hS rfl) ?_);clear hS;rintro _ w_1⟨b2,rfl,hS⟩;refine qq hS (Qai rfl) (QoN (xp (QwR (qq hS (Qai rfl) (QoN (xG (loop (fun(k:Nat) σ w=>okS σ [(1,.int .i64 v),(2,.pointer (some ⟨b2,0,none⟩)),(5,.int .i64 k)]∧St [] w0 I0 I0 w [.cel b2 34 [.slice a0 g.vs.length c0,.slice a1 g.ls.length c1]]∧k≤g.vs.length∧∀i,i < k→g.vs[i]? ≠ some v) (fun k=>g.vs.length - k) (0) ?_ ?_)))))))
 ·
  exact⟨⟨rfl,rfl,rfl,trivial⟩,hS.sel [true],by omega,fun i hi=>by omega⟩
 ·
  rintro k σ w_l⟨hs,hS,hk0,hall⟩;rw[← qr hs]; clear hs
  refine xp (QwR (qq hS (Qmi rfl) (qq hS (qb (o':=0) xO rfl xJ rfl rfl rfl) (qq hS (qf 0 ui rfl rfl rfl) (qq hS (qs rfl xu hG.vs rfl) (qq hS (g_lss rfl rfl) (QoN (qk rfl ?_ ?_))))))))
  ·
   intro hc10
   try simp only[zA,zO,zN,zI,zF,zM,zT,zU]at hc10
   obtain⟨x,hxi⟩:∃x,g.vs[k]? = some x:=⟨_,xn (by omega)⟩
   have hxA:=hG.vs.at hxi;refine xw (xr (xp (xG (QwR (qq hS (qb (o':=0) xO rfl xJ rfl rfl rfl) (qq hS (qf 0 ui rfl rfl rfl) (qq hS (Qmi rfl) (qq hS (g_ixI xu xq hG.vs rfl rfl (by omega) (by omega)) (qq hS (qy xI hxA rfl rfl) (qq hS (Qmi rfl) (qq hS (g_eql rfl rfl) (QoN (qk rfl ?_ ?_)))))))))))))
   ·
    intro hc19
    try simp only[zA,zO,zN,zI,zF,zM,zT,zU]at hc19
    subst hc19;have e:indexP g.vs x=k:=indexP_at hxi hall;refine QwR (qq hS (Qmi rfl) (qq hS (Qai rfl) (QoN (xx (uH (xS (xS (uH (xS (ret1 results30 (qj (v:=.int .i64 _) rfl) ?_))))))))));exact⟨by rw[e] <;> rfl,Ext.forget hS.nil⟩
   ·
    intro hc19
    try simp only[zA,zO,zN,zI,zF,zM,zT,zU]at hc19
    have hnx:∀i,i < k+1→g.vs[i]? ≠ some v:=fun i hi h=>by
     rcases uw.1 hi with q | q
     · exact hall i q h
     · subst q; rw[hxi]at h; exact hc19 (Option.some.inj h)
    refine xw (uF (xr (reg (qq hS (Qmi rfl) (qq hS (g_add rfl rfl (by omega) (by omega)) (qq hS (Qai rfl) ?_))))));exact⟨k+1,_,rfl,⟨⟨rfl,rfl,rfl,trivial⟩,hS.sel [true],by omega,hnx⟩,by omega⟩
  ·
   intro hc10
   try simp only[zA,zO,zN,zI,zF,zM,zT,zU]at hc10
   obtain rfl:k=g.vs.length:=by omega
   have e:indexP g.vs v = -1:=indexP_no (vI hall);refine uc (xZ (xZ (Qd (xr (QwR (qq hS (Qai rfl) (QoN (xx (ret1 results30 (qj (v:=.int .i64 _) rfl) ?_)))))))));exact⟨by rw[e] <;> rfl,Ext.forget hS.nil⟩
set_option maxHeartbeats 1000000 in
theorem cheaper_c (d e : WayL) (ad ae : Option Addr) (cd ce : Nat) (w0 : World) (I0 : Imm) (hI : Sat I0 w0) (hd : RFl I0 1 intC (.slice ad d.l.length cd) d.l) (he : RFl I0 1 intC (.slice ae e.l.length ce) e.l) :
 Ctr prog 69 [.agg #[.slice ad d.l.length cd,.int .i64 d.c,.bool d.is],.agg #[.slice ae e.l.length ce,.int .i64 e.c,.bool e.is]] w0 (fun v w'=>v = .bool (ltW d e)∧Ext w0 I0 w' I0):=by
 have hld:=RSl.le hd;have hle:=RSl.le he;simp only[maxLen]at hld hle;refine fn (n:=69) func69 rfl rfl rfl ?_;have hS:=St.start hI;refine QwR (qe (d_box (cs:=[.slice _ _ _,.int .i64 _,.bool _]) hS rfl) ?_);clear hS;rintro _ w_1⟨b2,rfl,hS⟩;refine qe (d_box (cs:=[.slice _ _ _,.int .i64 _,.bool _]) hS rfl) ?_;clear hS;rintro _ w_2⟨b3,rfl,hS⟩;refine qq hS (Qab rfl) (QoN (xp (QwR (qq hS (qb (o':=2) uk rfl xX rfl rfl rfl) (qq hS (qf 1 Qf rfl rfl rfl) (qq hS (g_not rfl) (qq hS (Qmb rfl) (qu rfl rfl hS (fun hg=>(qb (o':=2) uk rfl xX rfl rfl rfl)) ?_))))))));intro u10 hu10 hn10;refine qu rfl rfl hS (fun hg=>(qf 0 Qf rfl (hu10 hg) rfl)) ?_;intro u11 hu11 hn11;refine qu rfl rfl hS (fun hg=>(g_not (hu11 hg))) ?_;intro u12 hu12 hn12;refine qq hS (g_or rfl rfl (fun hq=>hu12 hq)) (QoN (qk rfl ?_ ?_))
 ·
  intro hc13;clear hu10 hn10 hu11 hn11 hu12 hn12;have h13:d.is=false∨e.is=false:=by simpa using hc13
  have q:ltW d e=d.is:=xF h13;refine QwR (qq hS (qb (o':=2) uk rfl xX rfl rfl rfl) (qq hS (qf 1 Qf rfl rfl rfl) (qq hS (Qab rfl) (QoN (xx (xS (ret1 JR (qj (v:=.bool _) rfl) ?_)))))));exact⟨by rw[q] <;> rfl,hS.nil⟩
 ·
  intro hc13;clear hu10 hn10 hu11 hn11 hu12 hn12;have h13:¬(d.is=false∨e.is=false):=by simpa using hc13
  have q0:ltW d e=(if d.c=e.c then (if d.l.length=e.l.length then ltL d.l e.l else decide (d.l.length < e.l.length)) else decide (d.c < e.c)):=xz h13;refine xw (xr (xp (QwR (qq hS (qb (o':=1) uk rfl xq rfl rfl rfl) (qq hS (qf 1 xI rfl rfl rfl) (qq hS (qb (o':=1) uk rfl xq rfl rfl rfl) (qq hS (qf 0 xI rfl rfl rfl) (qq hS (g_neq rfl rfl) (QoN (qk rfl ?_ ?_))))))))))
  ·
   intro hc20
   try simp only[zA,zO,zN,zI,zF,zM,zT,zU]at hc20
   have q:ltW d e=decide (d.c < e.c):=by rw[q0,xz hc20]
   refine QwR (qq hS (qb (o':=1) uk rfl xq rfl rfl rfl) (qq hS (qf 1 xI rfl rfl rfl) (qq hS (qb (o':=1) uk rfl xq rfl rfl rfl) (qq hS (qf 0 xI rfl rfl rfl) (qq hS (g_lss rfl rfl) (qq hS (Qab rfl) (QoN (xx (xS (ret1 JR (qj (v:=.bool _) rfl) ?_))))))))));exact⟨by rw[q] <;> rfl,hS.nil⟩
  ·
   intro hc20
   try simp only[zA,zO,zN,zI,zF,zM,zT,zU]at hc20
   rw[xF (by simpa using hc20)]at q0;refine xw (xr (xp (QwR (qq hS (qb (o':=0) uk rfl xJ rfl rfl rfl) (qq hS (qf 1 ui rfl rfl rfl) (qq hS (qs rfl xu hd rfl) (qq hS (qb (o':=0) uk rfl xJ rfl rfl rfl) (qq hS (qf 0 ui rfl rfl rfl) (qq hS (qs rfl xu he rfl) (qq hS (g_neq rfl rfl) (QoN (qk rfl ?_ ?_))))))))))))
   ·
    intro hc32
    try simp only[zA,zO,zN,zI,zF,zM,zT,zU]at hc32
    have q:ltW d e=decide ((d.l.length:Int) < e.l.length):=by rw[q0,xz (by omega)]; exact decide_eq_decide.2 (by omega)
    refine QwR (qq hS (qb (o':=0) uk rfl xJ rfl rfl rfl) (qq hS (qf 1 ui rfl rfl rfl) (qq hS (qs rfl xu hd rfl) (qq hS (qb (o':=0) uk rfl xJ rfl rfl rfl) (qq hS (qf 0 ui rfl rfl rfl) (qq hS (qs rfl xu he rfl) (qq hS (g_lss rfl rfl) (qq hS (Qab rfl) (QoN (xx (xS (ret1 JR (qj (v:=.bool _) rfl) ?_))))))))))));exact⟨by rw[q] <;> rfl,hS.nil⟩
   ·
    intro hc32
    try simp only[zA,zO,zN,zI,zF,zM,zT,zU]at hc32
    have hll:d.l.length=e.l.length:=by omega
    rw[xF hll]at q0;refine xw (xr (xp (QwR (qq hS (Qai rfl) (QoN (xG (loop (fun(k:Nat) σ w=>okS σ [(2,.pointer (some ⟨b2,0,none⟩)),(3,.pointer (some ⟨b3,0,none⟩)),(5,.int .i64 k)]∧St [] w0 I0 I0 w [.cel b3 78 [.slice ae e.l.length ce,.int .i64 e.c,.bool e.is],.cel b2 78 [.slice ad d.l.length cd,.int .i64 d.c,.bool d.is]]∧k≤d.l.length∧ltL (d.l.drop k) (e.l.drop k)=ltL d.l e.l) (fun k=>d.l.length - k) (0) ?_ ?_)))))))
    ·
     exact⟨⟨rfl,rfl,rfl,trivial⟩,hS.sel [true,true],by omega,rfl⟩
    ·
     rintro k σ w_l⟨hs,hS,hk0,hlt⟩;rw[← qr hs]; clear hs
     refine xp (QwR (qq hS (Qmi rfl) (qq hS (qb (o':=0) uk rfl xJ rfl rfl rfl) (qq hS (qf 1 ui rfl rfl rfl) (qq hS (qs rfl xu hd rfl) (qq hS (g_lss rfl rfl) (QoN (qk rfl ?_ ?_))))))))
     ·
      intro hc44
      try simp only[zA,zO,zN,zI,zF,zM,zT,zU]at hc44
      obtain⟨x,hxi⟩:∃x,d.l[k]? = some x:=⟨_,xn (by omega)⟩
      obtain⟨y,hyi⟩:∃y,e.l[k]? = some y:=⟨_,xn (by omega)⟩
      have hxA:=hd.at hxi;have hyA:=he.at hyi;have hdr:ltL (d.l.drop k) (e.l.drop k)=if x < y then true else if x=y then ltL (d.l.drop (k+1)) (e.l.drop (k+1)) else false:=by rw[jM hxi,jM hyi]; rfl
      refine xw (xr (xp (xG (xp (draw (.cons 0 .pure (.cons 1 .held (.cons 2 .pure (.cons 3 .pure (.cons 4 .held (.cons 5 .pure (.cons 6 .held (.cons 7 .pure (.cons 8 .pure (.cons 9 .held (.cons 10 .pure .nil))))))))))) mixed (by kernel_rfl) hS ?_)))));intro w_3 hS;refine sp rfl (qb (o':=0) uk rfl xJ rfl rfl rfl) (sh rfl (qf 1 ui rfl rfl rfl) (sp rfl (Qmi rfl) (sp rfl (g_ixI xu xq hd rfl rfl (by omega) (by omega)) (sh rfl (qy xI hxA rfl rfl) (sp rfl (qb (o':=0) uk rfl xJ rfl rfl rfl) (sh rfl (qf 0 ui rfl rfl rfl) (sp rfl (Qmi rfl) (sp rfl (g_ixI xu xq he rfl rfl (by omega) (by omega)) ?_))))))));refine sh rfl (qy xI hyA rfl rfl) (sp rfl (g_neq rfl rfl) (sn (xr (qk rfl ?_ ?_))))
      ·
       intro hc57;have hxy:¬x=y:=by simpa using hc57
       have q:ltW d e=decide (x < y):=by
        rw[q0,← hlt,hdr,xz hxy];by_cases h:x < y
        · rw[xF h,un h]
        · rw[xz h,Qj h]
       refine xp (draw (.cons 0 .pure (.cons 1 .held (.cons 2 .pure (.cons 3 .pure (.cons 4 .held (.cons 5 .pure (.cons 6 .held (.cons 7 .pure (.cons 8 .pure (.cons 9 .held (.cons 10 .pure (.cons 11 .pure .nil)))))))))))) mixed (by kernel_rfl) hS ?_);intro w_4 hS;refine sp rfl (qb (o':=0) uk rfl xJ rfl rfl rfl) (sh rfl (qf 1 ui rfl rfl rfl) (sp rfl (Qmi rfl) (sp rfl (g_ixI xu xq hd rfl rfl (by omega) (by omega)) (sh rfl (qy xI hxA rfl rfl) (sp rfl (qb (o':=0) uk rfl xJ rfl rfl rfl) (sh rfl (qf 0 ui rfl rfl rfl) (sp rfl (Qmi rfl) (sp rfl (g_ixI xu xq he rfl rfl (by omega) (by omega)) ?_))))))));refine sh rfl (qy xI hyA rfl rfl) (sp rfl (g_lss rfl rfl) (sp rfl (Qab rfl) (sn (xr (xx (uH (xS (xS (uH (xS (ret1 JR (qj (v:=.bool _) rfl) ?_)))))))))));exact⟨by rw[q] <;> rfl,hS.nil⟩
      ·
       intro hc57;have hxy:x=y:=by simpa using hc57
       rw[xz (by omega),xF hxy]at hdr;rw[hdr]at hlt;refine xw (uF (xr (reg (qq hS (Qmi rfl) (qq hS (g_add rfl rfl (by omega) (by omega)) (qq hS (Qai rfl) ?_))))));exact⟨k+1,_,rfl,⟨⟨rfl,rfl,rfl,trivial⟩,hS.sel [true,true],by omega,hlt⟩,by omega⟩
     ·
      intro hc44
      try simp only[zA,zO,zN,zI,zF,zM,zT,zU]at hc44
      obtain rfl:k=d.l.length:=by omega
      rw[List.drop_length,hll,List.drop_length]at hlt;have q:ltW d e=false:=by rw[q0,← hlt]; rfl
      refine uc (xZ (xZ (Qd (xr (QwR (qq hS (Qab rfl) (QoN (xx (ret1 JR (qj (v:=.bool _) rfl) ?_)))))))));exact⟨by rw[q] <;> rfl,hS.nil⟩
end Go.Proofs.YtcajgkfgjpfmaaaGreat
