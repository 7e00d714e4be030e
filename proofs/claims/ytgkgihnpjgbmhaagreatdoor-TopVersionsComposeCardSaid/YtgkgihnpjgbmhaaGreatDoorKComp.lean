/- compose.Through, Compose, fold, All: what they compute. Conditions: numbers within bounds. compose.Compose, fold, All, and those of inlayref09: what they compute. Conditions: numbers within bounds. compose.fold, All, inlayref09.All: what they compute. Conditions: numbers within bounds. Whole, Chain, Run, Input, Same: what they compute. Conditions: numbers within bounds. inlayref09.Chain: what it computes. Conditions: numbers within bounds. -/
import Derived.Test.YtgkgihnpjgbmhaaGreatDoorKSmall
import Derived.Test.YtgkgihnpjgbmhaaGreatDoorKLaw
import Derived.Test.YtgkgihnpjgbmhaaGreatDoorKRef6
import Derived.Test.YtgkgihnpjgbmhaaGreatDoorKSpec
import Derived.Test.YtgkgihnpjgbmhaaGreatDoorKCut
import Derived.Test.YtgkgihnpjgbmhaaGreatDoorKOpt
set_option linter.unusedSimpArgs false
set_option linter.unusedVariables false
namespace Go.Proofs.YtgkgihnpjgbmhaaGreatDoor
open Tryz
open Go Go.RowKit Go.Inl
theorem thr_lit' {a:List Sym}{s:Sym}(h:s.old=false):symC (thr a s)=[.bool false,.int .i64 0,.int .u8 s.b]:=by rw[yn h]; rfl
theorem thr_old' {a:List Sym}{s x:Sym}(h:s.old=true)(hx:a[s.at_.toNat]? = some x):symC (thr a s)=[.bool x.old,.int .i64 x.at_,.int .u8 (IntKind.u8.wrap (x.b+s.b))]:=by
 rw[ym h];have e:a.getD s.at_.toNat z0=x:=by rw[vQ,hx]; rfl
 rw[e]; rfl
theorem throughP_bad {a b:List Sym}{s:Sym}(hs:s∈b)(h:badT a.length s=true):throughP a b=([],61):=by
 unfold throughP; rw[vJ (List.any_eq_true.2 ⟨s,hs,h⟩)]
theorem throughP_good {a b:List Sym}(h:∀s∈b,badT a.length s=false):throughP a b=(b.map (thr a),0):=by
 unfold throughP;rw[vG];intro hb;obtain⟨s,hs,h1⟩:=List.any_eq_true.1 hb;rw[h s hs]at h1; cases h1
theorem throughP_wf {a b:List Sym}(ha:∀s∈a,s.wf)(hb:∀s∈b,s.wf):∀s∈(throughP a b).1,s.wf:=by
 unfold throughP;split
 · simp
 · exact thrL_wf ha hb
theorem composeP_wf {p q:PatL}(hp:p.wf)(hq:q.wf):(composeP p q).1.wf:=by
 unfold composeP;split
 · exact kb
 · split
   · exact kb
   · split
     · exact kb
     · split
       · exact kb
       · split
         · exact kb
         · split
           · exact kb
           · have h := cheapP_wf (n := p.in_) (throughP_wf (jP hp) (jP hq))
             exact⟨h.in_,h.out,h.ops,h.len⟩
set_option maxHeartbeats 1000000 in
theorem through_c (ad bd : Option Addr) (cap capb : Nat) (la lb : List Sym) (w0 : World) (I0 : Imm) (hI : Sat I0 w0) (ha : RSyms I0 (.slice ad la.length cap) la) (hb : RSyms I0 (.slice bd lb.length capb) lb) (hwb : ∀ s ∈ lb, s.wf) (hn : lb.length ≤ 65536) :
 Ctr prog 28 [.slice ad la.length cap,.slice bd lb.length capb] w0 (fun v w'=>∃I' a c,v = .tuple #[.slice a (throughP la lb).1.length c,.int .i64 (throughP la lb).2]∧Ext w0 I0 w' I'∧RSyms I' (.slice a (throughP la lb).1.length c) (throughP la lb).1):=by
 have hll:=RSl.le hb;have hlla:=RSl.le ha;simp only[maxLen]at hll hlla;refine fn (n:=55) func28 rfl rfl rfl ?_;have hS:=St.start hI;refine QwR (qq hS (qc _) (qq hS (Qai rfl) (QoR (qq hS (qb _) (qq hS (qo rfl xo hb rfl) (qe (yu hS xo info80 rfl rfl (by omega) (by omega) (by omega)) ?_))))));clear hS;rintro _ w_1⟨a12,p12,rfl,hS⟩;refine qq hS (qc _) (QoN (vD (QwR (qq hS (qb _) (qq hS (qo rfl xo hb rfl) (qq hS (Qmi rfl) (QoN (vS (loop (fun(x:Nat×Option Addr×Nat) σ w=>okS σ [(0,.slice ad la.length cap),(6,.slice x.2.1 x.1 x.2.2),(13,.slice bd lb.length capb),(14,.int .i64 lb.length),(15,.int .i64 x.1)]∧St [] w0 I0 I0 w [.row (.slice x.2.1 x.1 x.2.2) 80 3 x.1 (flat symC ((lb.take x.1).map (thr la)))]∧x.1≤lb.length∧∀s∈lb.take x.1,badT la.length s=false) (fun x=>lb.length - x.1) ((0,a12,p12)) ?_ ?_)))))))))
 ·
  exact⟨⟨rfl,rfl,rfl,rfl,rfl,trivial⟩,hS.sel [true],by simp,by simp⟩
 ·
  rintro⟨k,a,c⟩σ w_l⟨hs,hS,hk0,hbad⟩;dsimp only at hs hS hk0 hbad ⊢;rw[← qk hs]; clear hs
  refine QwR (qq hS (g_lss rfl rfl) (QoN (vD (qj rfl ?_ ?_))))
  ·
   intro hc16
   try simp only[zA,zO,zN,zI,zF,zM,zT,zU]at hc16
   obtain⟨s,hsi⟩:∃s,lb[k]? = some s:=⟨_,vC (by omega)⟩
   have hsA:=hb.at hsi;have hsm:=vI hsi;obtain⟨sw1,sw2,sw3,sw4⟩:=hwb s hsm;refine vL (vK (vD (vS (QwR (qq hS (g_ixI xo xt hb rfl rfl (by omega) (by omega)) (qq hS (g_ldE (us:=[.bool _,.int .i64 _,.int .u8 _]) xt ud hsA rfl rfl rfl) (qe (qv (cs:=[.bool _,.int .i64 _,.int .u8 _]) hS xU rfl) ?_)))))));clear hS;rintro _ w_2⟨b8,rfl,hS⟩;refine qe (qf 0 hS xt rfl rfl rfl (vs:=[.bool _,.int .i64 _,.int .u8 _]) rfl rfl rfl (vB rfl) (cs':=[_,_,_]) rfl) ?_;clear hS;rintro _ w_3⟨rfl,hS⟩;refine QoN (vD (QwR (qq hS (qa (o':=0) xe rfl xE rfl rfl rfl) (qq hS (qd 0 ut rfl rfl rfl) (qq hS (g_not rfl) (QoN (qj rfl ?_ ?_)))))))
   ·
    intro hc21
    try simp only[zA,zO,zN,zI,zF,zM,zT,zU]at hc21
    have hso:s.old=false:=hc21;have hbd:badT la.length s=false:=by unfold badT; rw[hso]; rfl
    have ht:=thr_lit' (a:=la) hso;refine QwR (qq hS (qb _) (qq hS (qa (o':=2) xe rfl xd rfl rfl rfl) (qq hS (qd 0 xR rfl rfl rfl) (qq hS (qt (pl:=[(0,1),(1,1),(2,1)]) (cs:=[.bool _,.int .i64 _,.int .u8 _]) xU xe (fun w=>by simp[vF,xE,xd]) (mp (v:=.int .u8 _) rfl mp0) rfl) ?_))));refine qe (d_lit (vs:=[.agg #[.bool _,.int .i64 _,.int .u8 _]]) (cs:=[.bool _,.int .i64 _,.int .u8 _]) hS xo xt xU rfl rfl rfl rfl (fun v hv=>by simp only[vN,vP,or_false]at hv; subst hv; rfl) rfl) ?_;clear hS;rintro _ w_4⟨b_4,rfl,hS⟩;refine qe (qV 2 0 hS rfl xo info80 rfl rfl rfl rfl rfl rfl rfl rfl (by omega) (by omega)) ?_;clear hS;rintro _ w_5⟨a27,p27,rfl,hS⟩;refine qq hS (qc _) (QoN (xm (xh (ua (vK (reg (qq hS (g_add rfl rfl (by omega) (by omega)) (qq hS (Qmi rfl) ?_))))))))
    first
     | (refine ⟨(k + 1, a27, p27), _, rfl, ⟨⟨rfl, rfl, rfl, rfl, rfl, trivial⟩, ?_, by dsimp only; omega, kA hsi hbad hbd⟩, by dsimp only; omega⟩
        dsimp only;rw[qy hsi,uf,ql,xS,List.map_nil,ju,ht];exact hS.sel [false,false,true])
     | (refine ⟨(k + 1, a52, p52), _, rfl, ⟨⟨rfl, rfl, rfl, rfl, rfl, trivial⟩, ?_, by dsimp only; omega, kA hsi hbad hbd⟩, by dsimp only; omega⟩
        dsimp only;rw[qy hsi,uf,ql,xS,List.map_nil,ju,ht];exact hS.sel [false,false,true])
   ·
    intro hc21
    try simp only[zA,zO,zN,zI,zF,zM,zT,zU]at hc21
    have hso:s.old=true:=hc21;refine vL (vK (vD (QwR (qq hS (qa (o':=1) xe rfl vF rfl rfl rfl) (qq hS (qd 0 vV rfl rfl rfl) (qq hS (g_lss rfl rfl) (qq hS (Qmb rfl) (qu rfl rfl hS (fun hg=>(qa (o':=1) xe rfl vF rfl rfl rfl)) ?_))))))));intro u32 hu32 hn32;refine qu rfl rfl hS (fun hg=>(qd 0 vV rfl (hu32 hg) rfl)) ?_;intro u33 hu33 hn33;refine qu rfl rfl hS (fun hg=>(qb _)) ?_;intro u34 hu34 hn34;refine qu rfl rfl hS (fun hg=>(qo rfl xo ha (hu34 hg))) ?_;intro u35 hu35 hn35;refine qu rfl rfl hS (fun hg=>(g_geq (hu33 hg) (hu35 hg))) ?_;intro u36 hu36 hn36;refine qq hS (g_or rfl rfl (fun hq=>hu36 hq)) (QoN (qj rfl ?_ ?_))
    ·
     intro hc37;clear hu32 hn32 hu33 hn33 hu34 hn34 hu35 hn35 hu36 hn36;have hbd:badT la.length s=true:=by unfold badT; rw[hso,Bool.true_and]; exact hc37
     have e:=throughP_bad hsm hbd;refine QwR (qq hS (qc _) (qq hS (Qai rfl) (QoN (vM (xF (uJ (xF (xF (uJ (xF (ret2 results28 (qh rfl) (qh (v:=.int .i64 _) rfl) ?_)))))))))));rw[e]; exact⟨_,none,0,rfl,hS.nil,RSl.nilR⟩
    ·
     intro hc37;clear hu32 hn32 hu33 hn33 hu34 hn34 hu35 hn35 hu36 hn36;have hbd:badT la.length s=false:=by unfold badT; rw[hso,Bool.true_and]; exact hc37
     simp only[ue,vW]at hc37;have hin:s.at_.toNat < la.length:=by omega
     obtain⟨x,hxi⟩:∃x,la[s.at_.toNat]? = some x:=⟨_,vC hin⟩
     have hxA:=ha.at hxi;have ht:=thr_old' hso hxi;refine vL (vK (QwR (qq hS (qb _) (qq hS (qa (o':=1) xe rfl vF rfl rfl rfl) (qq hS (qd 0 vV rfl rfl rfl) (qq hS (g_ixI xo xt ha rfl rfl (by omega) (by omega)) (qq hS (g_ldE (us:=[.bool _,.int .i64 _,.int .u8 _]) xt ud hxA rfl rfl rfl) (qe (qv (cs:=[.bool _,.int .i64 _,.int .u8 _]) hS xU rfl) ?_))))))));clear hS;rintro _ w_6⟨b9,rfl,hS⟩;refine qe (qf 0 hS xt rfl rfl rfl (vs:=[.bool _,.int .i64 _,.int .u8 _]) rfl rfl rfl (vB rfl) (cs':=[_,_,_]) rfl) ?_;clear hS;rintro _ w_7⟨rfl,hS⟩;refine QoR (qq hS (qa (o':=2) xe rfl xd rfl rfl rfl) (qq hS (qd 0 xR rfl rfl rfl) (qq hS (qa (o':=2) xe rfl xd rfl rfl rfl) (qq hS (qd 1 xR rfl rfl rfl) (qq hS (kV rfl rfl) (qq hS (qa (o':=2) xe rfl xd rfl rfl rfl) (qe (qf 0 hS xd rfl rfl rfl (vs:=[.int .u8 _]) rfl rfl rfl (vB rfl) (cs':=[_,_,_]) rfl) ?_)))))));clear hS;rintro _ w_8⟨rfl,hS⟩;refine QoN (reg (qq hS (qb _) (qq hS (g_ldO 0 (vs:=[.bool _,.int .i64 _,.int .u8 _]) xt ud rfl rfl rfl rfl) ?_)));refine qe (d_lit (vs:=[.agg #[.bool _,.int .i64 _,.int .u8 _]]) (cs:=[.bool _,.int .i64 _,.int .u8 _]) hS xo xt xU rfl rfl rfl rfl (fun v hv=>by simp only[vN,vP,or_false]at hv; subst hv; rfl) rfl) ?_;clear hS;rintro _ w_9⟨b_9,rfl,hS⟩;refine qe (qV 3 0 hS rfl xo info80 rfl rfl rfl rfl rfl rfl rfl rfl (by omega) (by omega)) ?_;clear hS;rintro _ w_10⟨a52,p52,rfl,hS⟩;refine qq hS (qc _) (qB (xO (vK (reg (qq hS (g_add rfl rfl (by omega) (by omega)) (qq hS (Qmi rfl) ?_))))))
     first
      | (refine ⟨(k + 1, a27, p27), _, rfl, ⟨⟨rfl, rfl, rfl, rfl, rfl, trivial⟩, ?_, by dsimp only; omega, kA hsi hbad hbd⟩, by dsimp only; omega⟩
         dsimp only;rw[qy hsi,uf,ql,xS,List.map_nil,ju,ht];exact hS.sel [false,false,false,true])
      | (refine ⟨(k + 1, a52, p52), _, rfl, ⟨⟨rfl, rfl, rfl, rfl, rfl, trivial⟩, ?_, by dsimp only; omega, kA hsi hbad hbd⟩, by dsimp only; omega⟩
         dsimp only;rw[qy hsi,uf,ql,xS,List.map_nil,ju,ht];exact hS.sel [false,false,false,true])
  ·
   intro hc16
   try simp only[zA,zO,zN,zI,zF,zM,zT,zU]at hc16
   have hk:k=lb.length:=by omega
   subst hk;rw[xB]at hS hbad;have e:=throughP_good hbad;refine xm (xh (xh (ua (vK (QwR (qq hS (qb _) (qq hS (qc _) (qq hS (Qai rfl) (QoN (vM (ret2 results28 (qh rfl) (qh (v:=.int .i64 _) rfl) ?_)))))))))));obtain⟨I1,hE1,hI1,hd1⟩:=kd jF (xs:=lb.map (thr la)) (hS.sel [true]) (by simp);have hlm:(lb.map (thr la)).length=lb.length:=xM _;have hl1:(throughP la lb).1.length=lb.length:=by rw[e]; exact hlm
   rw[hl1];exact⟨I1,a,c,by rw[e]; rfl,hE1,by rw[e]; exact hd1⟩
end Go.Proofs.YtgkgihnpjgbmhaaGreatDoor
namespace Go.Proofs.YtgkgihnpjgbmhaaGreatDoor
open Tryz
open Go Go.RowKit Go.Inl
theorem zc (p : PatL) (ad : Option Addr) (m cap : Nat) (A : List Sym × Int) (w0 : World) (I0 : Imm) (hI : Sat I0 w0) (hops : ROps I0 (.slice ad m cap) p.ops) (hp : p.wf) (he : symbolsP p = A) :
 Ctr prog 27 [.agg #[.bool p.lifted,.int .i64 p.in_,.int .i64 p.out,.slice ad m cap]] w0 (fun v w'=>∃I' a c,v = .tuple #[.slice a A.1.length c,.int .i64 A.2]∧Ext w0 I0 w' I'∧RSyms I' (.slice a A.1.length c) A.1):=by
 subst he; exact symbols_c p ad m cap w0 I0 hI hops hp
theorem through_e (ad bd : Option Addr) (cap capb : Nat) (la lb : List Sym) (T : List Sym × Int) (w0 : World) (I0 : Imm) (hI : Sat I0 w0) (ha : RSyms I0 (.slice ad la.length cap) la) (hb : RSyms I0 (.slice bd lb.length capb) lb) (hwb : ∀ s ∈ lb, s.wf) (hn : lb.length ≤ 65536) (he : throughP la lb = T) :
 Ctr prog 28 [.slice ad la.length cap,.slice bd lb.length capb] w0 (fun v w'=>∃I' a c,v = .tuple #[.slice a T.1.length c,.int .i64 T.2]∧Ext w0 I0 w' I'∧RSyms I' (.slice a T.1.length c) T.1):=by
 subst he; exact through_c ad bd cap capb la lb w0 I0 hI ha hb hwb hn
theorem jN (p:PatL):(symbolsP p).1.length≤65536:=by
 unfold symbolsP;split
 · rename_i h
   obtain⟨h1,h2,h3,h4,h5,h6,h7⟩:=qM h;show(symsOf p.ops).length≤65536
   omega
 · simp
theorem symbolsP_ok' {p:PatL}(h:(symbolsP p).2=0):(checkP p).2=0∧symbolsP p=(symsOf p.ops,0):=by
 by_cases hc:(checkP p).2=0
 · exact⟨hc,jE hc⟩
 · unfold symbolsP at h; rw[vG hc]at h; exact absurd h hc
set_option maxHeartbeats 1000000 in
theorem compose_c (p q : PatL) (ad bd : Option Addr) (m cap mb capb : Nat) (w0 : World) (I0 : Imm) (hI : Sat I0 w0) (hops : ROps I0 (.slice ad m cap) p.ops) (hp : p.wf) (hoq : ROps I0 (.slice bd mb capb) q.ops) (hq : q.wf) :
 Ctr prog 8 [.agg #[.bool p.lifted,.int .i64 p.in_,.int .i64 p.out,.slice ad m cap],.agg #[.bool q.lifted,.int .i64 q.in_,.int .i64 q.out,.slice bd mb capb]] w0 (fun v w'=>∃I' a m c,v = .tuple #[.agg #[.bool (composeP p q).1.lifted,.int .i64 (composeP p q).1.in_,.int .i64 (composeP p q).1.out,.slice a m c],.int .i64 (composeP p q).2]∧Ext w0 I0 w' I'∧ROps I' (.slice a m c) (composeP p q).1.ops):=by
 have hwA:=jP hp;have hwB:=jP hq;have hlB:=jN q;have hlA:=jN p;have hABw:=throughP_wf hwA hwB;have hdef:composeP p q=composeP p q:=rfl;conv at hdef=>rhs; unfold composeP
 obtain⟨A,hA⟩:∃A,symbolsP p=A:=⟨_,rfl⟩
 obtain⟨B,hB⟩:∃B,symbolsP q=B:=⟨_,rfl⟩
 rw[hA]at hdef hwA hABw hlA;rw[hB]at hdef hwB hABw hlB;obtain⟨T,hT⟩:∃T,throughP A.1 B.1=T:=⟨_,rfl⟩
 rw[hT]at hdef hABw;obtain⟨C,hC⟩:∃C,cheapP T.1 p.in_=C:=⟨_,rfl⟩
 rw[hC]at hdef;refine fn (n:=69) func8 rfl rfl rfl ?_;have hS:=St.start hI;refine QwR (qe (d_box (cs:=[.bool _,.int .i64 _,.int .i64 _,.slice _ _ _]) hS rfl) ?_);clear hS;rintro _ w_1⟨b2,rfl,hS⟩;refine qe (d_box (cs:=[.bool _,.int .i64 _,.int .i64 _,.slice _ _ _]) hS rfl) ?_;clear hS;rintro _ w_2⟨b3,rfl,hS⟩;refine qe (qv (cs:=[.bool _,.int .i64 _,.int .i64 _,.slice _ _ _]) hS xw rfl) ?_;clear hS;rintro _ w_3⟨b4,rfl,hS⟩;refine qq hS (Qai rfl) (QoR (qq hS (g_ldO 2 (vs:=[.bool _,.int .i64 _,.int .i64 _,.slice _ _ _]) vZ xy rfl rfl rfl rfl) (qe (qg call27 rfl (zc p ad m cap A _ _ hS.imm hops hp hA)) ?_)));rintro _ w_4⟨I_f,a13,c13,rfl,hE,h13⟩;replace hS:=hS.callE hE;replace hops:=hops.mono hE.ext;replace hoq:=hoq.mono hE.ext;refine qq hS (qb _) (qq hS (qm rfl rfl) (qq hS (Qxi rfl rfl) (qq hS (qc _) (qq hS (Qai rfl) (QoN (vD (QwR (qq hS (Qmi rfl) (qq hS (g_neq rfl rfl) (QoN (qj rfl ?_ ?_)))))))))))
 ·
  intro hc17
  try simp only[zA,zO,zN,zI,zF,zM,zT,zU]at hc17
  rw[vJ hc17]at hdef;refine QwR (qq hS (qt (pl:=[(0,1),(1,1),(2,1),(3,1)]) (cs:=[.bool _,.int .i64 _,.int .i64 _,.slice _ _ _]) xw vT (fun w=>by simp[xD,vF,xE]) mp0 rfl) (qq hS (Qmi rfl) (qe (qf 0 hS vZ rfl rfl rfl (vs:=[.bool _,.int .i64 _,.int .i64 _,.slice _ _ _]) rfl rfl rfl (vB rfl) (cs':=[_,_,_,_]) rfl) ?_)));clear hS;rintro _ w_5⟨rfl,hS⟩;refine qq hS (Qai rfl) (QoN (vM (xF ?_)));rw[hdef];refine ret2 Qe (qD 0 hS vZ xy rfl rfl rfl) (qh (v:=.int .i64 _) rfl) ?_;exact⟨_,none,0,0,rfl,hS.nil,RSl.nilR⟩
 ·
  intro hc17
  try simp only[zA,zO,zN,zI,zF,zM,zT,zU]at hc17
  rw[vG (by rw[hc17]; decide)]at hdef;refine vL (vK (QwR (qq hS (g_ldO 1 (vs:=[.bool _,.int .i64 _,.int .i64 _,.slice _ _ _]) vZ xy rfl rfl rfl rfl) (qe (qg call27 rfl (zc q bd mb capb B _ _ hS.imm hoq hq hB)) ?_))));rintro _ w_6⟨I_f,a22,c22,rfl,hE,h22⟩;replace hS:=hS.callE hE;replace hops:=hops.mono hE.ext;replace hoq:=hoq.mono hE.ext;replace h13:=h13.mono hE.ext;refine qq hS (qb _) (qq hS (qm rfl rfl) (qq hS (Qxi rfl rfl) (qq hS (qc _) (qq hS (Qai rfl) (QoN (vD (vS (QwR (qq hS (Qmi rfl) (qq hS (g_neq rfl rfl) (qq hS (Qab rfl) (QoN (qj rfl ?_ ?_)))))))))))))
  ·
   intro hc25
   try simp only[zA,zO,zN,zI,zF,zM,zT,zU]at hc25
   rw[vJ hc25]at hdef;refine QwR (qq hS (qt (pl:=[(0,1),(1,1),(2,1),(3,1)]) (cs:=[.bool _,.int .i64 _,.int .i64 _,.slice _ _ _]) xw vT (fun w=>by simp[xD,vF,xE]) mp0 rfl) (qq hS (Qmi rfl) (qe (qf 0 hS vZ rfl rfl rfl (vs:=[.bool _,.int .i64 _,.int .i64 _,.slice _ _ _]) rfl rfl rfl (vB rfl) (cs':=[_,_,_,_]) rfl) ?_)));clear hS;rintro _ w_7⟨rfl,hS⟩;refine qq hS (Qai rfl) (QoN (vM (uJ (xF ?_))));rw[hdef];refine ret2 Qe (qD 0 hS vZ xy rfl rfl rfl) (qh (v:=.int .i64 _) rfl) ?_;exact⟨_,none,0,0,rfl,hS.nil,RSl.nilR⟩
  ·
   intro hc25
   try simp only[zA,zO,zN,zI,zF,zM,zT,zU]at hc25
   rw[vG (by rw[hc25]; decide)]at hdef;refine QwR (qq hS (qa (o':=0) vT rfl xE rfl rfl rfl) (qq hS (qd 2 ut rfl rfl rfl) (qq hS (qa (o':=0) vT rfl xE rfl rfl rfl) (qq hS (qd 1 ut rfl rfl rfl) (qq hS (g_neqb underlying4 rfl rfl) (qq hS (Qab rfl) (QoN (qj rfl ?_ ?_))))))))
   ·
    intro hc30;simp only[bne_iff_ne,ne_eq,bne_eq_false_iff_eq]at hc30;rw[vJ hc30]at hdef;refine QwR (qq hS (qt (pl:=[(0,1),(1,1),(2,1),(3,1)]) (cs:=[.bool _,.int .i64 _,.int .i64 _,.slice _ _ _]) xw vT (fun w=>by simp[xD,vF,xE]) mp0 rfl) (qe (qf 0 hS vZ rfl rfl rfl (vs:=[.bool _,.int .i64 _,.int .i64 _,.slice _ _ _]) rfl rfl rfl (vB rfl) (cs':=[_,_,_,_]) rfl) ?_));clear hS;rintro _ w_8⟨rfl,hS⟩;refine qq hS (Qai rfl) (QoN (vM (uJ (xF ?_))));rw[hdef];refine ret2 Qe (qD 0 hS vZ xy rfl rfl rfl) (qh (v:=.int .i64 _) rfl) ?_;exact⟨_,none,0,0,rfl,hS.nil,RSl.nilR⟩
   ·
    intro hc30;simp only[bne_iff_ne,ne_eq,bne_eq_false_iff_eq]at hc30;rw[vG (by rw[hc30]; simp)]at hdef;refine QwR (qq hS (qa (o':=2) vT rfl vF rfl rfl rfl) (qq hS (qd 2 vV rfl rfl rfl) (qq hS (qa (o':=1) vT rfl vF rfl rfl rfl) (qq hS (qd 1 vV rfl rfl rfl) (qq hS (g_neq rfl rfl) (qq hS (Qab rfl) (QoN (qj rfl ?_ ?_))))))))
    ·
     intro hc37
     try simp only[zA,zO,zN,zI,zF,zM,zT,zU]at hc37
     rw[vJ hc37]at hdef;refine QwR (qq hS (qt (pl:=[(0,1),(1,1),(2,1),(3,1)]) (cs:=[.bool _,.int .i64 _,.int .i64 _,.slice _ _ _]) xw vT (fun w=>by simp[xD,vF,xE]) mp0 rfl) (qe (qf 0 hS vZ rfl rfl rfl (vs:=[.bool _,.int .i64 _,.int .i64 _,.slice _ _ _]) rfl rfl rfl (vB rfl) (cs':=[_,_,_,_]) rfl) ?_));clear hS;rintro _ w_9⟨rfl,hS⟩;refine qq hS (Qai rfl) (QoN (vM (uJ (xF ?_))));rw[hdef];refine ret2 Qe (qD 0 hS vZ xy rfl rfl rfl) (qh (v:=.int .i64 _) rfl) ?_;exact⟨_,none,0,0,rfl,hS.nil,RSl.nilR⟩
    ·
     intro hc37
     try simp only[zA,zO,zN,zI,zF,zM,zT,zU]at hc37
     rw[vG (by omega)]at hdef;refine vL (xO (vK (QwR (qq hS (qb _) (qq hS (qb _) (qe (qg call28 rfl (through_e a13 a22 c13 c22 A.1 B.1 T _ _ hS.imm h13 h22 hwB hlB hT)) ?_))))));rintro _ w_10⟨I_f,a47,c47,rfl,hE,h47⟩;replace hS:=hS.callE hE;replace hops:=hops.mono hE.ext;replace hoq:=hoq.mono hE.ext;replace h13:=h13.mono hE.ext;replace h22:=h22.mono hE.ext;refine qq hS (qb _) (qq hS (qm rfl rfl) (qq hS (Qxi rfl rfl) (qq hS (qc _) (qq hS (Qai rfl) (QoN (vD (QwR (qq hS (Qmi rfl) (qq hS (g_neq rfl rfl) (QoN (qj rfl ?_ ?_)))))))))))
     ·
      intro hc51
      try simp only[zA,zO,zN,zI,zF,zM,zT,zU]at hc51
      rw[vJ hc51]at hdef;refine QwR (qq hS (qt (pl:=[(0,1),(1,1),(2,1),(3,1)]) (cs:=[.bool _,.int .i64 _,.int .i64 _,.slice _ _ _]) xw vT (fun w=>by simp[xD,vF,xE]) mp0 rfl) (qq hS (Qmi rfl) (qe (qf 0 hS vZ rfl rfl rfl (vs:=[.bool _,.int .i64 _,.int .i64 _,.slice _ _ _]) rfl rfl rfl (vB rfl) (cs':=[_,_,_,_]) rfl) ?_)));clear hS;rintro _ w_11⟨rfl,hS⟩;refine qq hS (Qai rfl) (QoN (vM (xF ?_)));rw[hdef];refine ret2 Qe (qD 0 hS vZ xy rfl rfl rfl) (qh (v:=.int .i64 _) rfl) ?_;exact⟨_,none,0,0,rfl,hS.nil,RSl.nilR⟩
     ·
      intro hc51
      try simp only[zA,zO,zN,zI,zF,zM,zT,zU]at hc51
      rw[vG (by rw[hc51]; decide)]at hdef;refine vL (vK (QwR (qq hS (qb _) (qq hS (qa (o':=1) vT rfl vF rfl rfl rfl) (qq hS (qd 2 vV rfl rfl rfl) (qe (qg call29 rfl (cheapest_e a47 T.1.length c47 T.1 p.in_ C.1 C.2 _ _ hS.imm h47 rfl hABw hC)) ?_))))));rintro _ w_12⟨I_f,a58,m58,c58,rfl,hE,h58⟩;replace hS:=hS.callE hE;replace hops:=hops.mono hE.ext;replace hoq:=hoq.mono hE.ext;replace h13:=h13.mono hE.ext;replace h22:=h22.mono hE.ext;replace h47:=h47.mono hE.ext;refine qq hS (qb _) (qq hS (qm rfl rfl) (qq hS (Qxi rfl rfl) (qe (qv (cs:=[.bool _,.int .i64 _,.int .i64 _,.slice _ _ _]) hS xw rfl) ?_)));clear hS;rintro _ w_13⟨b10,rfl,hS⟩;refine qe (qf 0 hS vZ rfl rfl rfl (vs:=[.bool _,.int .i64 _,.int .i64 _,.slice _ _ _]) rfl rfl rfl (vB rfl) (cs':=[_,_,_,_]) rfl) ?_;clear hS;rintro _ w_14⟨rfl,hS⟩;refine qq hS (Qai rfl) (QoN (vD (QwR (qq hS (Qmi rfl) (qq hS (g_neq rfl rfl) (QoN (qj rfl ?_ ?_)))))))
      ·
       intro hc62
       try simp only[zA,zO,zN,zI,zF,zM,zT,zU]at hc62
       rw[vJ hc62]at hdef;refine QwR (qq hS (qt (pl:=[(0,1),(1,1),(2,1),(3,1)]) (cs:=[.bool _,.int .i64 _,.int .i64 _,.slice _ _ _]) xw vT (fun w=>by simp[xD,vF,xE]) mp0 rfl) (qq hS (Qmi rfl) (qe (qf 1 hS vZ rfl rfl rfl (vs:=[.bool _,.int .i64 _,.int .i64 _,.slice _ _ _]) rfl rfl rfl (vB rfl) (cs':=[_,_,_,_]) rfl) ?_)));clear hS;rintro _ w_15⟨rfl,hS⟩;refine qq hS (Qai rfl) (QoN (vM (xF ?_)));rw[hdef];refine ret2 Qe (qD 1 hS vZ xy rfl rfl rfl) (qh (v:=.int .i64 _) rfl) ?_;exact⟨_,none,0,0,rfl,hS.nil,RSl.nilR⟩
      ·
       intro hc62
       try simp only[zA,zO,zN,zI,zF,zM,zT,zU]at hc62
       rw[vG (by rw[hc62]; decide)]at hdef;refine vL (vK (QwR (qq hS (qa (o':=0) vT rfl xE rfl rfl rfl) (qq hS (qd 3 ut rfl rfl rfl) (qq hS (qa (o':=0) vT rfl xE rfl rfl rfl) (qe (qf 0 hS xE rfl rfl rfl (vs:=[.bool _]) rfl rfl rfl (vB rfl) (cs':=[_,_,_,_]) rfl) ?_))))));clear hS;rintro _ w_16⟨rfl,hS⟩;refine QoR (qq hS (g_ldO 0 (vs:=[.bool _,.int .i64 _,.int .i64 _,.slice _ _ _]) vZ xy rfl rfl rfl rfl) (qe (qf 1 hS vZ rfl rfl rfl (vs:=[.bool _,.int .i64 _,.int .i64 _,.slice _ _ _]) rfl rfl rfl (vB rfl) (cs':=[_,_,_,_]) rfl) ?_));clear hS;rintro _ w_17⟨rfl,hS⟩;refine qq hS (Qai rfl) (QoN (vM ?_));rw[hdef];refine ret2 Qe (qD 1 hS vZ xy rfl rfl rfl) (qh (v:=.int .i64 _) rfl) ?_;exact⟨_,a58,m58,c58,rfl,hS.nil,h58⟩
end Go.Proofs.YtgkgihnpjgbmhaaGreatDoor
namespace Go.Proofs.YtgkgihnpjgbmhaaGreatDoor
open Tryz
open Go Go.RowKit Go.Inl
end Go.Proofs.YtgkgihnpjgbmhaaGreatDoor
namespace Go.Proofs.YtgkgihnpjgbmhaaGreatDoor
open Tryz
open Go Go.RowKit Go.Inl
/-! ### Bytes -/
def runB (old:List Int)(s:Sym):Int:=if s.old then IntKind.u8.wrap (s.b+old.getD s.at_.toNat 0) else s.b
def runP (old:List Int)(l:List Sym):List Int×Int:=if l.any (badT old.length) then ([],61) else (l.map (runB old),0)
theorem runP_bad {a:List Int}{b:List Sym}{s:Sym}(hs:s∈b)(h:badT a.length s=true):runP a b=([],61):=by
 unfold runP; rw[vJ (List.any_eq_true.2 ⟨s,hs,h⟩)]
theorem runP_good {a:List Int}{b:List Sym}(h:∀s∈b,badT a.length s=false):runP a b=(b.map (runB a),0):=by
 unfold runP;rw[vG];intro hb;obtain⟨s,hs,h1⟩:=List.any_eq_true.1 hb;rw[h s hs]at h1; cases h1
theorem yE {a:List Int}{s:Sym}(h:s.old=false):runB a s=s.b:=by unfold runB; rw[h]; rfl
theorem zy {a:List Int}{s:Sym}{x:Int}(h:s.old=true)(hx:a[s.at_.toNat]? = some x):runB a s=IntKind.u8.wrap (s.b+x):=by
 unfold runB;rw[h,vQ,hx]; rfl
theorem run_thr (old:List Int)(x:List Sym)(s:Sym)(h:s.old=true→s.at_.toNat < x.length):runB (x.map (runB old)) s=runB old (thr x s):=by
 cases ho:s.old with
 | false=>rw[yE ho,yn ho]; rfl
 | true =>
   have hin:=h ho;rw[ym ho];have e:x.getD s.at_.toNat z0=x[s.at_.toNat]:=by rw[vQ,vC hin]; rfl
   have e2:(x.map (runB old))[s.at_.toNat]? = some (runB old x[s.at_.toNat]):=by rw[xN,vC hin]; rfl
   rw[e,zy ho e2];unfold runB;dsimp only;split
   · simp only[wrap8]; omega
   · rw[Int.add_comm]
set_option maxHeartbeats 1000000 in
theorem run_c (ad bd : Option Addr) (cap capb : Nat) (lo : List Int) (l : List Sym) (w0 : World) (I0 : Imm) (hI : Sat I0 w0) (ha : RBytes I0 (.slice ad lo.length cap) lo) (hb : RSyms I0 (.slice bd l.length capb) l) (hwb : ∀ s ∈ l, s.wf) (hn : l.length ≤ 65536) :
 Ctr prog 32 [.slice ad lo.length cap,.slice bd l.length capb] w0 (fun v w'=>∃I' a c,v = .tuple #[.slice a (runP lo l).1.length c,.int .i64 (runP lo l).2]∧Ext w0 I0 w' I'∧RBytes I' (.slice a (runP lo l).1.length c) (runP lo l).1):=by
 have hll:=RSl.le hb;have hlla:=RSl.le ha;simp only[maxLen]at hll hlla;refine fn (n:=46) func32 rfl rfl rfl ?_;have hS:=St.start hI;refine QwR (qq hS (qc _) (qq hS (Qai rfl) (QoR (qq hS (qb _) (qq hS (qo rfl xo hb rfl) (qe (yu hS vH uH rfl rfl (by omega) (by omega) (by omega)) ?_))))));clear hS;rintro _ w_1⟨a11,p11,rfl,hS⟩;refine qq hS (qc _) (QoN (vD (QwR (qq hS (qb _) (qq hS (qo rfl xo hb rfl) (qq hS (Qmi rfl) (QoN (vS (loop (fun(x:Nat×Option Addr×Nat) σ w=>okS σ [(0,.slice ad lo.length cap),(6,.slice x.2.1 x.1 x.2.2),(12,.slice bd l.length capb),(13,.int .i64 l.length),(14,.int .i64 x.1)]∧St [] w0 I0 I0 w [.row (.slice x.2.1 x.1 x.2.2) 5 1 x.1 (flat byteC ((l.take x.1).map (runB lo)))]∧x.1≤l.length∧∀s∈l.take x.1,badT lo.length s=false) (fun x=>l.length - x.1) ((0,a11,p11)) ?_ ?_)))))))))
 ·
  exact⟨⟨rfl,rfl,rfl,rfl,rfl,trivial⟩,hS.sel [true],by simp,by simp⟩
 ·
  rintro⟨k,a,c⟩σ w_l⟨hs,hS,hk0,hbad⟩;dsimp only at hs hS hk0 hbad ⊢;rw[← qk hs]; clear hs
  refine QwR (qq hS (g_lss rfl rfl) (QoN (vD (qj rfl ?_ ?_))))
  ·
   intro hc15
   try simp only[zA,zO,zN,zI,zF,zM,zT,zU]at hc15
   obtain⟨s,hsi⟩:∃s,l[k]? = some s:=⟨_,vC (by omega)⟩
   have hsA:=hb.at hsi;have hsm:=vI hsi;obtain⟨sw1,sw2,sw3,sw4⟩:=hwb s hsm;refine vL (vK (vD (vS (QwR (qq hS (g_ixI xo xt hb rfl rfl (by omega) (by omega)) (qq hS (g_ldE (us:=[.bool _,.int .i64 _,.int .u8 _]) xt ud hsA rfl rfl rfl) (qe (qv (cs:=[.bool _,.int .i64 _,.int .u8 _]) hS xU rfl) ?_)))))));clear hS;rintro _ w_2⟨b8,rfl,hS⟩;refine qe (qf 0 hS xt rfl rfl rfl (vs:=[.bool _,.int .i64 _,.int .u8 _]) rfl rfl rfl (vB rfl) (cs':=[_,_,_]) rfl) ?_;clear hS;rintro _ w_3⟨rfl,hS⟩;refine QoN (meet (fun σ w=>okS σ [(0,.slice ad lo.length cap),(6,.slice a k c),(12,.slice bd l.length capb),(13,.int .i64 l.length),(14,.int .i64 k),(8,.pointer (some ⟨b8,0,none⟩))]∧St [] w0 I0 I0 w [.cel b8 80 [.bool s.old,.int .i64 s.at_,.int .u8 (runB lo s)],.row (.slice a k c) 5 1 k (flat byteC ((l.take k).map (runB lo)))]∧badT lo.length s=false) ?_ ?_)
   ·
    refine QwR (qq hS (qa (o':=0) xe rfl xE rfl rfl rfl) (qq hS (qd 0 ut rfl rfl rfl) (QoN (qj rfl ?_ ?_))))
    ·
     intro hc19
     try simp only[zA,zO,zN,zI,zF,zM,zT,zU]at hc19
     have hso:s.old=true:=hc19;refine vD (QwR (qq hS (qa (o':=1) xe rfl vF rfl rfl rfl) (qq hS (qd 0 vV rfl rfl rfl) (qq hS (g_lss rfl rfl) (qq hS (Qmb rfl) (qu rfl rfl hS (fun hg=>(qa (o':=1) xe rfl vF rfl rfl rfl)) ?_))))));intro u24 hu24 hn24;refine qu rfl rfl hS (fun hg=>(qd 0 vV rfl (hu24 hg) rfl)) ?_;intro u25 hu25 hn25;refine qu rfl rfl hS (fun hg=>(qb _)) ?_;intro u26 hu26 hn26;refine qu rfl rfl hS (fun hg=>(qo rfl vH ha (hu26 hg))) ?_;intro u27 hu27 hn27;refine qu rfl rfl hS (fun hg=>(g_geq (hu25 hg) (hu27 hg))) ?_;intro u28 hu28 hn28;refine qq hS (g_or rfl rfl (fun hq=>hu28 hq)) (QoN (qj rfl ?_ ?_))
     ·
      intro hc29;clear hu24 hn24 hu25 hn25 hu26 hn26 hu27 hn27 hu28 hn28;have hbd:badT lo.length s=true:=by unfold badT; rw[hso,Bool.true_and]; exact hc29
      have e:=runP_bad hsm hbd;refine QwR (qq hS (qc _) (qq hS (Qai rfl) (QoN (vM (xF (xF (uJ (xF (xF (uJ (xF (ret2 results32 (qh rfl) (qh (v:=.int .i64 _) rfl) ?_))))))))))));rw[e]; exact⟨_,none,0,rfl,hS.nil,RFl.nil⟩
     ·
      intro hc29;clear hu24 hn24 hu25 hn25 hu26 hn26 hu27 hn27 hu28 hn28;have hbd:badT lo.length s=false:=by unfold badT; rw[hso,Bool.true_and]; exact hc29
      simp only[ue,vW]at hc29;have hin:s.at_.toNat < lo.length:=by omega
      obtain⟨x,hxi⟩:∃x,lo[s.at_.toNat]? = some x:=⟨_,vC hin⟩
      have hxA:=ha.at hxi;have ht:=zy hso hxi;refine vL (vK (draw (.cons 0 .pure (.cons 1 .held (.cons 2 .pure (.cons 3 .pure (.cons 4 .held (.cons 5 .pure (.cons 6 .held (.cons 7 .pure (.cons 8 .pure (.cons 9 .bar .nil)))))))))) mixed (by kernel_rfl) hS ?_));intro w_4 hS;refine sp rfl (qa (o':=2) xe rfl xd rfl rfl rfl) (sh rfl (qd 0 xR rfl rfl rfl) (sp rfl (qb _) (sp rfl (qa (o':=1) xe rfl vF rfl rfl rfl) (sh rfl (qd 0 vV rfl rfl rfl) (sp rfl (g_ixI vH xd ha rfl rfl (by omega) (by omega)) (sh rfl (qJ xR hxA rfl rfl) (sp rfl (kV rfl rfl) (sp rfl (qa (o':=2) xe rfl xd rfl rfl rfl) ?_))))))));refine sb rfl (qf 0 hS xd rfl rfl rfl (vs:=[.int .u8 _]) rfl rfl rfl (vB rfl) (cs':=[_,_,_]) rfl) ?_;rintro _ w_5⟨rfl,hS⟩;refine⟨_,_,hS,sn (vK (⟨_,rfl,⟨rfl,rfl,rfl,rfl,rfl,rfl,trivial⟩,?_,hbd⟩))⟩;rw[ht];exact hS.sel [true,true]
    ·
     intro hc19
     try simp only[zA,zO,zN,zI,zF,zM,zT,zU]at hc19
     have hso:s.old=false:=hc19;have hbd:badT lo.length s=false:=by unfold badT; rw[hso]; rfl
     have ht:=yE (a:=lo) hso;refine vL (vK (⟨_,rfl,⟨rfl,rfl,rfl,rfl,rfl,rfl,trivial⟩,?_,hbd⟩));rw[ht];exact hS.sel [true,true]
   ·
    rintro σ w⟨hs,hS,hbd⟩;rw[← qk hs];refine reg (qq hS (qb _) (qq hS (qa (o':=2) xe rfl xd rfl rfl rfl) (qq hS (qd 0 xR rfl rfl rfl) ?_)));refine qe (d_lit (vs:=[.int .u8 _]) (cs:=[.int .u8 _]) hS vH xd uR rfl rfl rfl rfl (fun v hv=>by simp only[vN,vP,or_false]at hv; subst hv; rfl) rfl) ?_;clear hS;rintro _ w_6⟨b_6,rfl,hS⟩;refine qe (qV 2 0 hS rfl vH uH rfl rfl rfl rfl rfl rfl rfl rfl (by omega) (by omega)) ?_;clear hS;rintro _ w_7⟨a43,p43,rfl,hS⟩;refine qq hS (qc _) (qB (xO (vK (reg (qq hS (g_add rfl rfl (by omega) (by omega)) (qq hS (Qmi rfl) ?_))))));refine⟨(k+1,a43,p43),_,rfl,⟨⟨rfl,rfl,rfl,rfl,rfl,trivial⟩,?_,by dsimp only; omega,kA hsi hbad hbd⟩,by dsimp only; omega⟩;dsimp only;rw[qy hsi,uf,ql,xS,List.map_nil,ju];exact hS.sel [false,false,true]
  ·
   intro hc15
   try simp only[zA,zO,zN,zI,zF,zM,zT,zU]at hc15
   have hk:k=l.length:=by omega
   subst hk;rw[xB]at hS hbad;have e:=runP_good hbad;refine xm (xh (xh (ua (vK (QwR (qq hS (qb _) (qq hS (qc _) (qq hS (Qai rfl) (QoN (vM (ret2 results32 (qh rfl) (qh (v:=.int .i64 _) rfl) ?_)))))))))));obtain⟨I1,hE1,hI1,hd1⟩:=kd qx (xs:=l.map (runB lo)) (hS.sel [true]) (by simp);have hlm:(l.map (runB lo)).length=l.length:=xM _;have hl1:(runP lo l).1.length=l.length:=by rw[e]; exact hlm
   rw[hl1];exact⟨I1,a,c,by rw[e]; rfl,hE1,by rw[e]; exact hd1⟩
theorem sameB_c (va vb : Value) (a b : List Int) (w0 : World) (I0 : Imm) (hI : Sat I0 w0) (ha : RBytes I0 va a) (hb : RBytes I0 vb b) :
 Ctr prog 11 [va,vb] w0 (fun v w'=>v = .bool (decide (a=b))∧Ext w0 I0 w' I0):=by
 have hla:=RSl.le ha;have hlb:=RSl.le hb;simp only[maxLen]at hla hlb;refine fn (n:=26) func11 rfl rfl rfl ?_;have hS:=St.start hI;refine QwR (qq hS (Qab rfl) (QoN (vD (QwR (qq hS (qb _) (qq hS (qo rfl vH ha rfl) (qq hS (qb _) (qq hS (qo rfl vH hb rfl) (qq hS (g_neq rfl rfl) (QoN (qj rfl ?_ ?_)))))))))))
 ·
  intro hc10
  try simp only[zA,zO,zN,zI,zF,zM,zT,zU]at hc10
  have e:decide (a=b)=false:=xX (fun h=>by rw[h]at hc10; exact hc10 rfl);refine QwR (qq hS (Qab rfl) (QoN (vM (xF (ret1 results11 (qh (v:=.bool _) rfl) ?_)))));rw[e]; exact⟨rfl,hS.nil⟩
 ·
  intro hc10
  try simp only[zA,zO,zN,zI,zF,zM,zT,zU]at hc10
  have hlen:a.length=b.length:=by omega
  refine vL (vK (vD (QwR (qq hS (Qai rfl) (QoN (vS (loop (fun(k:Nat) σ w=>okS σ [(0,va),(1,vb),(5,.int .i64 k)]∧St [] w0 I0 I0 w []∧k≤a.length∧a.take k=b.take k) (fun k=>a.length - k) (0) ?_ ?_)))))))
  ·
   exact⟨⟨rfl,rfl,rfl,trivial⟩,hS.sel [],by omega,by simp⟩
  ·
   rintro k σ w_l⟨hs,hS,hk0,heq⟩;rw[← qk hs]; clear hs
   refine vD (QwR (qq hS (Qmi rfl) (qq hS (qb _) (qq hS (qo rfl vH ha rfl) (qq hS (g_lss rfl rfl) (QoN (qj rfl ?_ ?_)))))))
   ·
    intro hc14
    try simp only[zA,zO,zN,zI,zF,zM,zT,zU]at hc14
    obtain⟨x,hxi⟩:∃x,a[k]? = some x:=⟨_,vC (by omega)⟩
    obtain⟨y,hyi⟩:∃y,b[k]? = some y:=⟨_,vC (by omega)⟩
    have hxA:=ha.at hxi;have hyA:=hb.at hyi;refine vL (vK (vD (vS (vD (draw (.cons 0 .pure (.cons 1 .pure (.cons 2 .pure (.cons 3 .held (.cons 4 .pure (.cons 5 .pure (.cons 6 .pure (.cons 7 .held (.cons 8 .pure .nil))))))))) mixed (by kernel_rfl) hS ?_)))));intro w_1 hS;refine sp rfl (qb _) (sp rfl (Qmi rfl) (sp rfl (g_ixI vH xd ha rfl rfl (by omega) (by omega)) (sh rfl (qJ xR hxA rfl rfl) (sp rfl (qb _) (sp rfl (Qmi rfl) (sp rfl (g_ixI vH xd hb rfl rfl (by omega) (by omega)) (sh rfl (qJ xR hyA rfl rfl) (sp rfl (g_neq rfl rfl) (sn (vK (qj rfl ?_ ?_)))))))))))
    ·
     intro hc25
     try simp only[zA,zO,zN,zI,zF,zM,zT,zU]at hc25
     have e:decide (a=b)=false:=xX (fun h=>by rw[h,hyi]at hxi; exact hc25 (Option.some.inj hxi).symm);refine QwR (qq hS (Qab rfl) (QoN (vM (uJ (xF (xF (uJ (xF (ret1 results11 (qh (v:=.bool _) rfl) ?_)))))))));rw[e]; exact⟨rfl,hS.nil⟩
    ·
     intro hc25
     try simp only[zA,zO,zN,zI,zF,zM,zT,zU]at hc25
     have hnext:a.take (k+1)=b.take (k+1):=by rw[qy hxi,qy hyi,heq,hc25]
     refine vL (xO (vK (reg (qq hS (Qmi rfl) (qq hS (g_add rfl rfl (by omega) (by omega)) (qq hS (Qai rfl) ?_))))));exact⟨k+1,_,rfl,⟨⟨rfl,rfl,rfl,trivial⟩,hS.sel [],by omega,hnext⟩,by omega⟩
   ·
    intro hc14
    try simp only[zA,zO,zN,zI,zF,zM,zT,zU]at hc14
    have e:decide (a=b)=true:=ur (by
     have:=heq;rwa [uh (by omega),uh (by omega)]at this)
    refine xm (xh (xh (ua (vK (QwR (qq hS (Qab rfl) (QoN (vM (ret1 results11 (qh (v:=.bool _) rfl) ?_)))))))));rw[e]; exact⟨rfl,hS.nil⟩
end Go.Proofs.YtgkgihnpjgbmhaaGreatDoor
namespace Go.Proofs.YtgkgihnpjgbmhaaGreatDoor
open Tryz
open Go Go.RowKit Go.Inl
end Go.Proofs.YtgkgihnpjgbmhaaGreatDoor
