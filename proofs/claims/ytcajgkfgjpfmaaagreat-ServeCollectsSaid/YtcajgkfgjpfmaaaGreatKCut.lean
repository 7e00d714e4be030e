/- inlayref08.Op and Cut, patch.Cost: what they compute. Conditions: numbers within bounds. inlaylaw08.NormalCuts: its function answers true; what Cut makes is right and has the same symbols. Conditions: arguments are bytes. inlaylaw08.NormalCuts: its function answers true. Conditions: arguments are bytes. -/
import Derived.Test.YtcajgkfgjpfmaaaGreatKLaw
set_option linter.unusedSimpArgs false
set_option linter.unusedVariables false
namespace Go.Proofs.YtcajgkfgjpfmaaaGreat
open Tryz
open Go Go.RowKit Go.Inl
set_option maxHeartbeats 1000000 in
theorem refOp_c (kind : Int) (vl : Value) (l : List Sym) (w0 : World) (I0 : Imm) (hI : Sat I0 w0) (hl : RSyms I0 vl l) (hk : Mid kind) (hne : 0 < l.length) (hn : l.length ≤ 65536) :
 Ctr prog 179 [.int .i64 kind,vl] w0 (fun v w'=>∃I' ad m cap,v=opV (opS kind l) ad m cap∧Ext w0 I0 w' I'∧RBytes I' (.slice ad m cap) (opS kind l).data):=by
 obtain⟨s0,hs0⟩:∃s,l[0]? = some s:=⟨_,xW hne⟩
 have hs0A:=hl.at hs0;have hhd:l.headD ⟨false,0,0⟩=s0:=by rw[List.headD_eq_head?_getD,List.head?_eq_getElem?,hs0]; rfl
 refine fn (n:=54) func179 rfl rfl rfl ?_;have hS:=St.start hI;refine QwR (qe (qw (cs:=[.int .i64 _,.int .i64 _,.int .i64 _,.int .u8 _,.slice _ _ _]) hS Jp rfl) ?_);clear hS;rintro _ w_1⟨b4,rfl,hS⟩;refine QoR (qq hS (Qmi rfl) (qq hS (qk _) (qq hS (qz rfl uG hl rfl) (qq hS (qv (pl:=[(0,1),(1,1),(2,1),(3,1),(4,1)]) (cs:=[.int .i64 _,.int .i64 _,.int .i64 _,.int .u8 _,.slice _ _ _]) Jp uE (fun w=>by simp[Jf,xX,uJ]) (mp (v:=.int .i64 _) rfl (mp (v:=.int .i64 _) rfl mp0)) rfl) ?_))));refine qe (qw (cs:=[.int .i64 _,.int .i64 _,.int .i64 _,.int .u8 _,.slice _ _ _]) hS Jp rfl) ?_;clear hS;rintro _ w_2⟨b5,rfl,hS⟩;refine qe (qj 0 hS QD rfl rfl rfl (vs:=[.int .i64 _,.int .i64 _,.int .i64 _,.int .u8 _,.slice _ _ _]) rfl rfl rfl (xP rfl) (cs':=[_,_,_,_,_]) rfl) ?_;clear hS;rintro _ w_3⟨rfl,hS⟩;refine QoN (meet (fun σ w=>okS σ [(0,.int .i64 kind),(1,vl),(4,.pointer (some ⟨b4,0,none⟩)),(5,.pointer (some ⟨b5,0,none⟩))]∧St [] w0 I0 I0 w [.cel b5 102 [.int .i64 kind,.int .i64 (if kind=1∨kind=2 then (l.headD ⟨false,0,0⟩).at_ else 0),.int .i64 l.length,.int .u8 0,.slice none 0 0],.cel b4 102 [.int .i64 0,.int .i64 0,.int .i64 0,.int .u8 0,.slice none 0 0]]) ?_ ?_)
 ·
  refine QwR (qq hS (Qmi rfl) (qq hS (g_eql rfl rfl) (qq hS (Qmb rfl) (qu rfl rfl hS (fun hg=>(Qmi rfl)) ?_))));intro u14 hu14 hn14;refine qu rfl rfl hS (fun hg=>(g_eql (hu14 hg) rfl)) ?_;intro u15 hu15 hn15;refine qq hS (g_or rfl rfl (fun hq=>hu15 hq)) (QoN (qo rfl ?_ ?_))
  ·
   intro hc16;clear hu14 hn14 hu15 hn15
   try simp only[zA,zO,zN,zI,zF,zM,zT,zU]at hc16
   have hfr:(if kind=1∨kind=2 then (l.headD ⟨false,0,0⟩).at_ else 0)=s0.at_:=by rw[ui hc16,hhd]
   refine reg (qq hS (qk _) (qq hS (g_ixI uG uN hl rfl rfl (by omega) (by omega)) (qq hS (qF (c':=1) uB rfl xX rfl rfl rfl) (qq hS (qC uj hs0A rfl rfl) (qq hS (qb (o':=1) uE rfl xX rfl rfl rfl) (qe (qj 0 hS xX rfl rfl rfl (vs:=[.int .i64 _]) rfl rfl rfl (xP rfl) (cs':=[_,_,_,_,_]) rfl) ?_))))));clear hS;rintro _ w_4⟨rfl,hS⟩;refine QoN (⟨_,rfl,⟨rfl,rfl,rfl,rfl,trivial⟩,?_⟩);rw[hfr];exact hS.sel [true,true]
  ·
   intro hc16;clear hu14 hn14 hu15 hn15
   try simp only[zA,zO,zN,zI,zF,zM,zT,zU]at hc16
   have hfr:(if kind=1∨kind=2 then (l.headD ⟨false,0,0⟩).at_ else 0)=0:=ud (by omega);refine xZ (xN (⟨_,rfl,⟨rfl,rfl,rfl,rfl,trivial⟩,?_⟩));rw[hfr];exact hS.sel [true,true]
 ·
  rintro σ w⟨hs,hS⟩;rw[← qx hs];refine meet (fun σ w=>okS σ [(0,.int .i64 kind),(1,vl),(4,.pointer (some ⟨b4,0,none⟩)),(5,.pointer (some ⟨b5,0,none⟩))]∧St [] w0 I0 I0 w [.cel b5 102 [.int .i64 kind,.int .i64 (if kind=1∨kind=2 then (l.headD ⟨false,0,0⟩).at_ else 0),.int .i64 l.length,.int .u8 (if kind=3 then (l.headD ⟨false,0,0⟩).b else 0),.slice none 0 0],.cel b4 102 [.int .i64 0,.int .i64 0,.int .i64 0,.int .u8 0,.slice none 0 0]]) ?_ ?_
  ·
   refine QwR (qq hS (Qmi rfl) (qq hS (g_eql rfl rfl) (QoN (qo rfl ?_ ?_))))
   ·
    intro hc23
    try simp only[zA,zO,zN,zI,zF,zM,zT,zU]at hc23
    have hbb:(if kind=3 then (l.headD ⟨false,0,0⟩).b else 0)=s0.b:=by rw[ui hc23,hhd]
    refine reg (qq hS (qk _) (qq hS (g_ixI uG uN hl rfl rfl (by omega) (by omega)) (qq hS (qF (c':=2) uB rfl uJ rfl rfl rfl) (qq hS (qC Qp hs0A rfl rfl) (qq hS (qb (o':=3) uE rfl uJ rfl rfl rfl) (qe (qj 0 hS uJ rfl rfl rfl (vs:=[.int .u8 _]) rfl rfl rfl (xP rfl) (cs':=[_,_,_,_,_]) rfl) ?_))))));clear hS;rintro _ w_5⟨rfl,hS⟩;refine QoN (⟨_,rfl,⟨rfl,rfl,rfl,rfl,trivial⟩,?_⟩);rw[hbb];exact hS.sel [true,true]
   ·
    intro hc23
    try simp only[zA,zO,zN,zI,zF,zM,zT,zU]at hc23
    have hbb:(if kind=3 then (l.headD ⟨false,0,0⟩).b else 0)=0:=ud hc23;refine xZ (xN (⟨_,rfl,⟨rfl,rfl,rfl,rfl,trivial⟩,?_⟩));rw[hbb];exact hS.sel [true,true]
  ·
   rintro σ w⟨hs,hS⟩;rw[← qx hs];refine xL (QwR (qq hS (Qai rfl) (QoN (uk (loop (fun(x:Nat×Option Addr×Nat) σ w=>okS σ [(0,.int .i64 kind),(1,vl),(4,.pointer (some ⟨b4,0,none⟩)),(5,.pointer (some ⟨b5,0,none⟩)),(6,.int .i64 x.1)]∧St [] w0 I0 I0 w [.row (.slice x.2.1 x.1 x.2.2) 5 1 x.1 (flat byteC ((l.take x.1).map (·.b))),.cel b5 102 [.int .i64 kind,.int .i64 (if kind=1∨kind=2 then (l.headD ⟨false,0,0⟩).at_ else 0),.int .i64 l.length,.int .u8 (if kind=3 then (l.headD ⟨false,0,0⟩).b else 0),.slice x.2.1 x.1 x.2.2],.cel b4 102 [.int .i64 0,.int .i64 0,.int .i64 0,.int .u8 0,.slice none 0 0]]∧x.1≤l.length∧(x.1=0∨(kind=2∨kind=4))) (fun x=>l.length - x.1) ((0,none,0)) ?_ ?_)))))
   ·
    exact⟨⟨rfl,rfl,rfl,rfl,rfl,trivial⟩,(hS.sel [true,true]).nilRow _ _,by simp,by simp⟩
   ·
    rintro⟨k,a,c⟩σ w_l⟨hs,hS,hk0,hk1⟩;dsimp only at hs hS hk0 hk1 ⊢;rw[← qx hs]; clear hs
    refine xL (QwR (qq hS (Qmi rfl) (qq hS (qk _) (qq hS (qz rfl uG hl rfl) (qq hS (g_lss rfl rfl) (qq hS (Qmb rfl) (qu rfl rfl hS (fun hg=>(Qmi rfl)) ?_)))))));intro u34 hu34 hn34;refine qu rfl rfl hS (fun hg=>(g_eql (hu34 hg) rfl)) ?_;intro u35 hu35 hn35;refine qu rfl rfl hS (fun hg=>(qf (hu35 hg))) ?_;intro u36 hu36 hn36;refine qn rfl hu36 hn36 hS (fun hg=>(Qmi rfl)) ?_;intro u37 hu37 hn37;refine qn rfl hu36 hn36 hS (fun hg=>(g_eql (hu37 hg) rfl)) ?_;intro u38 hu38 hn38;refine qu rfl rfl hS (fun hg=>(g_or (hu36 hg) rfl (fun hq=>hu38 ⟨hg,hq⟩))) ?_;intro u39 hu39 hn39;refine qq hS (g_and rfl rfl (fun hq=>hu39 hq)) (QoN (qo rfl ?_ ?_))
    ·
     intro hc40;clear hu34 hn34 hu35 hn35 hu36 hn36 hu37 hn37 hu38 hn38 hu39 hn39;simp only[xU,xV,xO]at hc40;obtain⟨s,hsi⟩:∃s,l[k]? = some s:=⟨_,xW (by omega)⟩
     have hsA:=hl.at hsi;refine xZ (xN (xL (uk (draw (.cons 0 .pure (.cons 1 .held (.cons 2 .pure (.cons 3 .pure (.cons 4 .pure (.cons 5 .pure (.cons 6 .held (.cons 7 .eff (.cons 8 .bar (.cons 9 .pure (.cons 10 .bar .nil))))))))))) mixed (by kernel_rfl) hS ?_))));intro w_6 hS;refine sp rfl (qb (o':=4) uE rfl Jf rfl rfl rfl) (sh rfl (qi 1 JM rfl rfl rfl) (sp rfl (qk _) (sp rfl (Qmi rfl) (sp rfl (g_ixI uG uN hl rfl rfl (by omega) (by omega)) (sp rfl (qF (c':=2) uB rfl uJ rfl rfl rfl) (sh rfl (qC Qp hsA rfl rfl) ?_))))));have hS0:=hS;refine se rfl (d_lit (vs:=[.int .u8 _]) (cs:=[.int .u8 _]) hS uU uJ Kz rfl rfl rfl rfl (fun v hv=>by simp only[uq,ur,or_false]at hv; subst hv; rfl) rfl) ?_;rintro _ w_7⟨b_7,rfl,hS⟩;refine⟨_,_,hS0.le (Sub.refl _) (ue _ _),hS,sb rfl (qE 1 0 hS rfl uU info5 rfl rfl rfl rfl rfl rfl rfl rfl (by omega) (by omega)) ?_⟩;rintro _ w_8⟨a51,p51,rfl,hS⟩;refine⟨_,_,hS,sp rfl (qb (o':=4) uE rfl Jf rfl rfl rfl) (sb rfl (qj 2 hS Jf rfl rfl rfl (vs:=[.slice _ _ _]) rfl rfl rfl (xP rfl) (cs':=[_,_,_,_,_]) rfl) ?_)⟩;rintro _ w_9⟨rfl,hS⟩;refine⟨_,_,hS,sn (Qh (xN (reg (qq hS (Qmi rfl) (qq hS (g_add rfl rfl (by omega) (by omega)) (qq hS (Qai rfl) ?_))))))⟩;refine⟨(k+1,a51,p51),_,rfl,⟨⟨rfl,rfl,rfl,rfl,rfl,trivial⟩,?_,by dsimp only; omega,.inr hc40.2⟩,by dsimp only; omega⟩;dsimp only;rw[qL hsi,Qy,qB,QN,List.map_nil,jg];exact hS.sel [false,true,true,true]
    ·
     intro hc40;clear hu34 hn34 hu35 hn35 hu36 hn36 hu37 hn37 hu38 hn38 hu39 hn39;have hdat:(opS kind l).data=(l.take k).map (·.b):=by
      simp only[Bool.and_eq_false_iff,xR,xM]at hc40;show(if kind=2∨kind=4 then _ else _)=_
      by_cases h:kind=2∨kind=4
      · rw[ui h,QJ (by omega)]
      · rw[ud h,show k=0 by omega]; rfl
     refine uD (uA (uA (Qw (xN (QwR (qq hS (g_ldO 1 (vs:=[.int .i64 _,.int .i64 _,.int .i64 _,.int .u8 _,.slice _ _ _]) QD JI rfl rfl rfl rfl) (qe (qj 2 hS QD rfl rfl rfl (vs:=[.int .i64 _,.int .i64 _,.int .i64 _,.int .u8 _,.slice _ _ _]) rfl rfl rfl (xP rfl) (cs':=[_,_,_,_,_]) rfl) ?_)))))));clear hS;rintro _ w_10⟨rfl,hS⟩;refine QoN (ub (ret1 results179 (qD 2 hS QD JI rfl rfl rfl) ?_));have hS1:=hS.sel [true,false,false];obtain⟨I1,hE1,hI1,hd1⟩:=qS kz (xs:=(l.take k).map (·.b)) hS1 (by simp; omega);exact⟨I1,a,k,c,rfl,hE1,by rw[hdat]; exact hd1⟩
end Go.Proofs.YtcajgkfgjpfmaaaGreat
namespace Go.Proofs.YtcajgkfgjpfmaaaGreat
open Tryz
open Go Go.RowKit Go.Inl
theorem symsOf_wf1 {p:PatL}(hp:p.wf)(h:(checkP p).2=0):∀s∈symsOf p.ops,s.wf:=by
 have:=jy hp;rwa [jh h]at this
theorem opRaw_right {q:Q4}{size:Int}(hq:q.wf)(hs:0≤size):1≤(opRaw q size).len∧rightP (opRaw q size) size=true:=by
 have hl:=yC hq hs;obtain⟨⟨a0,a1⟩,⟨b0,b1⟩,⟨c0,c1⟩,⟨d0,d1⟩⟩:=hq;refine⟨hl.1,?_⟩;unfold rightP insideP;show (if kindRaw q size = 1 then (decide (0 ≤ fromRaw q size) && decide (fromRaw q size ≤ size - lenRaw q size)) && decide (bRaw q size = 0) && decide (((if kindRaw q size = 2 ∨ kindRaw q size = 4 then (List.range (lenRaw q size).toNat).map (datRaw q) else []).length : Int) = 0)
  else if kindRaw q size=2 then (decide (0≤fromRaw q size) && decide (fromRaw q size≤size - lenRaw q size)) && decide (bRaw q size=0) && decide (((if kindRaw q size=2∨kindRaw q size=4 then (List.range (lenRaw q size).toNat).map (datRaw q) else []).length:Int)=lenRaw q size)
  else if kindRaw q size=3 then decide (fromRaw q size=0) && decide (((if kindRaw q size=2∨kindRaw q size=4 then (List.range (lenRaw q size).toNat).map (datRaw q) else []).length:Int)=0)
  else if kindRaw q size=4 then decide (fromRaw q size=0) && decide (bRaw q size=0) && decide (((if kindRaw q size=2∨kindRaw q size=4 then (List.range (lenRaw q size).toNat).map (datRaw q) else []).length:Int)=lenRaw q size)
  else false)=true
 have hin:1+q.a % 4≤2∧size≠0→0≤fromRaw q size∧fromRaw q size≤size - lenRaw q size:=by
  intro h;unfold fromRaw lenRaw;rw[ui h,ui h];have e1:=Int.emod_nonneg q.b h.2;have e2:=Int.emod_lt_of_pos q.b (show 0 < size by omega);generalize q.b % size=f at *
  have e3:=Int.emod_nonneg q.c (show size - f≠0 by omega);have e4:=Int.emod_lt_of_pos q.c (show 0 < size - f by omega);omega
 have hout:¬(1+q.a % 4≤2∧size≠0)→fromRaw q size=0:=fun h=>by unfold fromRaw; rw[ud h]
 have hkr:kindRaw q size=if 1+q.a % 4≤2∧size=0 then 4 else 1+q.a % 4:=rfl
 have hb:kindRaw q size≠3→bRaw q size=0:=fun h=>by unfold bRaw; rw[ud h]
 have hcase:kindRaw q size=1∧(1+q.a % 4≤2∧size≠0)∨kindRaw q size=2∧(1+q.a % 4≤2∧size≠0)∨kindRaw q size=3∧¬(1+q.a % 4≤2∧size≠0)∨kindRaw q size=4∧¬(1+q.a % 4≤2∧size≠0):=by
  rw[hkr]; split <;> omega
 rcases hcase with ⟨h,hc⟩ | ⟨h,hc⟩ | ⟨h,hc⟩ | ⟨h,hc⟩
 · have h1 := hin hc; have h2 := hb (by omega)
   simp[h,h1,h2]
 · have h1 := hin hc; have h2 := hb (by omega)
   simp[h,h1,h2]; omega
 · have h1 := hout hc
   simp[h,h1]
 · have h1 := hout hc; have h2 := hb (by omega)
   simp[h,h1,h2]; omega
theorem madeP_ok {l:List Q4}{size:Int}(hq:∀q∈l,q.wf)(hs:0≤size∧size≤65536):(checkP (madeP l size)).2=0∧(madeP l size).out≤30∧(madeP l size).ops.length≤6:=by
 have ho:=madeP_out hq hs.1;have hr:OpsOk size (opsRaw l size):=fun x hx=>by
  obtain⟨q,hq',rfl⟩:=xz hx;exact opRaw_right (hq q hq') hs.1
 have hl:(opsRaw l size).length≤6:=by unfold opsRaw; rw[uR,uT]; omega
 refine⟨jJ (p:=madeP l size) hs hr ?_ (by omega) (by show(opsRaw l size).length≤_; omega),ho.2,hl⟩;exact xq _ fun x hx=>by have:=(hr x hx).1; omega
theorem sameOps_refl {a:List OpL}{k:Nat}:sameOps a a k=true:=by
 unfold sameOps;rw[Qn];intro p hp;obtain⟨i,hi⟩:=Qm.1 (List.mem_of_mem_drop hp);rw[List.getElem?_zip_eq_some]at hi;have:=hi.1.symm.trans hi.2;exact sameOpS_iff.2 (Option.some.inj this)
theorem vp (a:PatL):samePR a a=true:=by
 unfold samePR; simp[sameOps_refl]
end Go.Proofs.YtcajgkfgjpfmaaaGreat
namespace Go.Proofs.YtcajgkfgjpfmaaaGreat
open Tryz
open Go Go.RowKit Go.Inl
end Go.Proofs.YtcajgkfgjpfmaaaGreat
