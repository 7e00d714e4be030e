/- compose.Through, Compose, fold, All: what they compute. Conditions: numbers within bounds. compose.Compose, fold, All, and those of inlayref09: what they compute. Conditions: numbers within bounds. compose.fold, All, inlayref09.All: what they compute. Conditions: numbers within bounds. Whole, Chain, Run, Input, Same: what they compute. Conditions: numbers within bounds. inlayref09.Chain: what it computes. Conditions: numbers within bounds. -/
import Derived.Test.YtgkgihnpjgbmhaaGreatDoorKSmall
import Derived.Test.YtgkgihnpjgbmhaaGreatDoorKLaw
import Derived.Test.YtgkgihnpjgbmhaaGreatDoorPats
import Derived.Test.YtgkgihnpjgbmhaaGreatDoorKSpec
import Derived.Test.YtgkgihnpjgbmhaaGreatDoorKCut
import Derived.Test.YtgkgihnpjgbmhaaGreatDoorKOpt
set_option linter.unusedSimpArgs false
set_option linter.unusedVariables false
namespace Go.Proofs.YtgkgihnpjgbmhaaGreatDoor
open Tryz
open Go Go.RowKit Go.Inl
theorem thr_lit' {a:List Sym}{s:Sym}(h:s.old=false):symC (thr a s)=[.bool false,.int .i64 0,.int .u8 s.b]:=by rw[yB h]; rfl
theorem thr_old' {a:List Sym}{s x:Sym}(h:s.old=true)(hx:a[s.at_.toNat]? = some x):symC (thr a s)=[.bool x.old,.int .i64 x.at_,.int .u8 (IntKind.u8.wrap (x.b+s.b))]:=by
 rw[yA h];have e:a.getD s.at_.toNat z0=x:=by rw[xb,hx]; rfl
 rw[e]; rfl
theorem throughP_bad {a b:List Sym}{s:Sym}(hs:s∈b)(h:badT a.length s=true):throughP a b=([],61):=by
 unfold throughP; rw[vR (List.any_eq_true.2 ⟨s,hs,h⟩)]
theorem throughP_good {a b:List Sym}(h:∀s∈b,badT a.length s=false):throughP a b=(b.map (thr a),0):=by
 unfold throughP;rw[vO];intro hb;obtain⟨s,hs,h1⟩:=List.any_eq_true.1 hb;rw[h s hs]at h1; cases h1
theorem throughP_wf {a b:List Sym}(ha:∀s∈a,s.wf)(hb:∀s∈b,s.wf):∀s∈(throughP a b).1,s.wf:=by
 unfold throughP;split
 · simp
 · exact thrL_wf ha hb
theorem ze {p q:PatL}(hp:p.wf)(hq:q.wf):(composeP p q).1.wf:=by
 unfold composeP;split
 · exact jC
 · split
   · exact jC
   · split
     · exact jC
     · split
       · exact jC
       · split
         · exact jC
         · split
           · exact jC
           · have h := yu (n := p.in_) (throughP_wf (jz hp) (jz hq))
             exact⟨h.in_,h.out,h.ops,h.len⟩
set_option maxHeartbeats 1000000 in
theorem through_c (ad bd : Option Addr) (cap capb : Nat) (la lb : List Sym) (w0 : World) (I0 : Imm) (hI : Sat I0 w0) (ha : RSyms I0 (.slice ad la.length cap) la) (hb : RSyms I0 (.slice bd lb.length capb) lb) (hwb : ∀ s ∈ lb, s.wf) (hn : lb.length ≤ 65536) :
 Ctr prog 28 [.slice ad la.length cap,.slice bd lb.length capb] w0 (fun v w'=>∃I' a c,v = .tuple #[.slice a (throughP la lb).1.length c,.int .i64 (throughP la lb).2]∧Ext w0 I0 w' I'∧RSyms I' (.slice a (throughP la lb).1.length c) (throughP la lb).1):=by
 have hll:=RSl.le hb;have hlla:=RSl.le ha;simp only[maxLen]at hll hlla;refine fn (n:=55) func28 rfl rfl rfl ?_;have hS:=St.start hI;refine QwR (qq hS (qc _) (qq hS (Qai rfl) (QoR (qq hS (qb _) (qq hS (qr rfl xF hb rfl) (qe (yG hS xF info80 rfl rfl (by omega) (by omega) (by omega)) ?_))))));clear hS;rintro _ w_1⟨a12,p12,rfl,hS⟩;refine qq hS (qc _) (QoN (vL (QwR (qq hS (qb _) (qq hS (qr rfl xF hb rfl) (qq hS (Qmi rfl) (QoN (xa (loop (fun(x:Nat×Option Addr×Nat) σ w=>okS σ [(0,.slice ad la.length cap),(6,.slice x.2.1 x.1 x.2.2),(13,.slice bd lb.length capb),(14,.int .i64 lb.length),(15,.int .i64 x.1)]∧St [] w0 I0 I0 w [.row (.slice x.2.1 x.1 x.2.2) 80 3 x.1 (flat symC ((lb.take x.1).map (thr la)))]∧x.1≤lb.length∧∀s∈lb.take x.1,badT la.length s=false) (fun x=>lb.length - x.1) ((0,a12,p12)) ?_ ?_)))))))))
 ·
  exact⟨⟨rfl,rfl,rfl,rfl,rfl,trivial⟩,hS.sel [true],by simp,by simp⟩
 ·
  rintro⟨k,a,c⟩σ w_l⟨hs,hS,hk0,hbad⟩;dsimp only at hs hS hk0 hbad ⊢;rw[← qk hs]; clear hs
  refine QwR (qq hS (g_lss rfl rfl) (QoN (vL (qi rfl ?_ ?_))))
  ·
   intro hc16
   try simp only[zA,zO,zN,zI,zF,zM,zT,zU]at hc16
   obtain⟨s,hsi⟩:∃s,lb[k]? = some s:=⟨_,vK (by omega)⟩
   have hsA:=hb.at hsi;have hsm:=vP hsi;obtain⟨sw1,sw2,sw3,sw4⟩:=hwb s hsm;refine vT (vS (vL (xa (QwR (qq hS (g_ixI xF xI hb rfl rfl (by omega) (by omega)) (qq hS (g_ldE (us:=[.bool _,.int .i64 _,.int .u8 _]) xI uu hsA rfl rfl rfl) (qe (qv (cs:=[.bool _,.int .i64 _,.int .u8 _]) hS uj rfl) ?_)))))));clear hS;rintro _ w_2⟨b8,rfl,hS⟩;refine qe (qf 0 hS xI rfl rfl rfl (vs:=[.bool _,.int .i64 _,.int .u8 _]) rfl rfl rfl (vJ rfl) (cs':=[_,_,_]) rfl) ?_;clear hS;rintro _ w_3⟨rfl,hS⟩;refine QoN (vL (QwR (qq hS (qa (o':=0) xy rfl xJ rfl rfl rfl) (qq hS (qd 0 uz rfl rfl rfl) (qq hS (g_not rfl) (QoN (qi rfl ?_ ?_)))))))
   ·
    intro hc21
    try simp only[zA,zO,zN,zI,zF,zM,zT,zU]at hc21
    have hso:s.old=false:=hc21;have hbd:badT la.length s=false:=by unfold badT; rw[hso]; rfl
    have ht:=thr_lit' (a:=la) hso;refine QwR (qq hS (qb _) (qq hS (qa (o':=2) xy rfl xj rfl rfl rfl) (qq hS (qd 0 xV rfl rfl rfl) (qq hS (qo (pl:=[(0,1),(1,1),(2,1)]) (cs:=[.bool _,.int .i64 _,.int .u8 _]) uj xy (fun w=>by simp[vM,xJ,xj]) (mp (v:=.int .u8 _) rfl mp0) rfl) ?_))));refine qe (d_lit (vs:=[.agg #[.bool _,.int .i64 _,.int .u8 _]]) (cs:=[.bool _,.int .i64 _,.int .u8 _]) hS xF xI uj rfl rfl rfl rfl (fun v hv=>by simp only[vU,vX,or_false]at hv; subst hv; rfl) rfl) ?_;clear hS;rintro _ w_4⟨b_4,rfl,hS⟩;refine qe (qH 2 0 hS rfl xF info80 rfl rfl rfl rfl rfl rfl rfl rfl (by omega) (by omega)) ?_;clear hS;rintro _ w_5⟨a27,p27,rfl,hS⟩;refine qq hS (qc _) (QoN (xB (xx (ug (vS (reg (qq hS (g_add rfl rfl (by omega) (by omega)) (qq hS (Qmi rfl) ?_))))))))
    first
     | (refine ⟨(k + 1, a27, p27), _, rfl, ⟨⟨rfl, rfl, rfl, rfl, rfl, trivial⟩, ?_, by dsimp only; omega, kF hsi hbad hbd⟩, by dsimp only; omega⟩
        dsimp only;rw[qw hsi,ud,ql,xX,List.map_nil,jg,ht];exact hS.sel [false,false,true])
     | (refine ⟨(k + 1, a52, p52), _, rfl, ⟨⟨rfl, rfl, rfl, rfl, rfl, trivial⟩, ?_, by dsimp only; omega, kF hsi hbad hbd⟩, by dsimp only; omega⟩
        dsimp only;rw[qw hsi,ud,ql,xX,List.map_nil,jg,ht];exact hS.sel [false,false,true])
   ·
    intro hc21
    try simp only[zA,zO,zN,zI,zF,zM,zT,zU]at hc21
    have hso:s.old=true:=hc21;refine vT (vS (vL (QwR (qq hS (qa (o':=1) xy rfl vM rfl rfl rfl) (qq hS (qd 0 xf rfl rfl rfl) (qq hS (g_lss rfl rfl) (qq hS (Qmb rfl) (qu rfl rfl hS (fun hg=>(qa (o':=1) xy rfl vM rfl rfl rfl)) ?_))))))));intro u32 hu32 hn32;refine qu rfl rfl hS (fun hg=>(qd 0 xf rfl (hu32 hg) rfl)) ?_;intro u33 hu33 hn33;refine qu rfl rfl hS (fun hg=>(qb _)) ?_;intro u34 hu34 hn34;refine qu rfl rfl hS (fun hg=>(qr rfl xF ha (hu34 hg))) ?_;intro u35 hu35 hn35;refine qu rfl rfl hS (fun hg=>(g_geq (hu33 hg) (hu35 hg))) ?_;intro u36 hu36 hn36;refine qq hS (g_or rfl rfl (fun hq=>hu36 hq)) (QoN (qi rfl ?_ ?_))
    ·
     intro hc37;clear hu32 hn32 hu33 hn33 hu34 hn34 hu35 hn35 hu36 hn36;have hbd:badT la.length s=true:=by unfold badT; rw[hso,Bool.true_and]; exact hc37
     have e:=throughP_bad hsm hbd;refine QwR (qq hS (qc _) (qq hS (Qai rfl) (QoN (vW (xQ (uW (xQ (xQ (uW (xQ (ret2 results28 (qh rfl) (qh (v:=.int .i64 _) rfl) ?_)))))))))));rw[e]; exact⟨_,none,0,rfl,hS.nil,RSl.nilR⟩
    ·
     intro hc37;clear hu32 hn32 hu33 hn33 hu34 hn34 hu35 hn35 hu36 hn36;have hbd:badT la.length s=false:=by unfold badT; rw[hso,Bool.true_and]; exact hc37
     simp only[uv,xd]at hc37;have hin:s.at_.toNat < la.length:=by omega
     obtain⟨x,hxi⟩:∃x,la[s.at_.toNat]? = some x:=⟨_,vK hin⟩
     have hxA:=ha.at hxi;have ht:=thr_old' hso hxi;refine vT (vS (QwR (qq hS (qb _) (qq hS (qa (o':=1) xy rfl vM rfl rfl rfl) (qq hS (qd 0 xf rfl rfl rfl) (qq hS (g_ixI xF xI ha rfl rfl (by omega) (by omega)) (qq hS (g_ldE (us:=[.bool _,.int .i64 _,.int .u8 _]) xI uu hxA rfl rfl rfl) (qe (qv (cs:=[.bool _,.int .i64 _,.int .u8 _]) hS uj rfl) ?_))))))));clear hS;rintro _ w_6⟨b9,rfl,hS⟩;refine qe (qf 0 hS xI rfl rfl rfl (vs:=[.bool _,.int .i64 _,.int .u8 _]) rfl rfl rfl (vJ rfl) (cs':=[_,_,_]) rfl) ?_;clear hS;rintro _ w_7⟨rfl,hS⟩;refine QoR (qq hS (qa (o':=2) xy rfl xj rfl rfl rfl) (qq hS (qd 0 xV rfl rfl rfl) (qq hS (qa (o':=2) xy rfl xj rfl rfl rfl) (qq hS (qd 1 xV rfl rfl rfl) (qq hS (zc rfl rfl) (qq hS (qa (o':=2) xy rfl xj rfl rfl rfl) (qe (qf 0 hS xj rfl rfl rfl (vs:=[.int .u8 _]) rfl rfl rfl (vJ rfl) (cs':=[_,_,_]) rfl) ?_)))))));clear hS;rintro _ w_8⟨rfl,hS⟩;refine QoN (reg (qq hS (qb _) (qq hS (g_ldO 0 (vs:=[.bool _,.int .i64 _,.int .u8 _]) xI uu rfl rfl rfl rfl) ?_)));refine qe (d_lit (vs:=[.agg #[.bool _,.int .i64 _,.int .u8 _]]) (cs:=[.bool _,.int .i64 _,.int .u8 _]) hS xF xI uj rfl rfl rfl rfl (fun v hv=>by simp only[vU,vX,or_false]at hv; subst hv; rfl) rfl) ?_;clear hS;rintro _ w_9⟨b_9,rfl,hS⟩;refine qe (qH 3 0 hS rfl xF info80 rfl rfl rfl rfl rfl rfl rfl rfl (by omega) (by omega)) ?_;clear hS;rintro _ w_10⟨a52,p52,rfl,hS⟩;refine qq hS (qc _) (qD (xZ (vS (reg (qq hS (g_add rfl rfl (by omega) (by omega)) (qq hS (Qmi rfl) ?_))))))
     first
      | (refine ⟨(k + 1, a27, p27), _, rfl, ⟨⟨rfl, rfl, rfl, rfl, rfl, trivial⟩, ?_, by dsimp only; omega, kF hsi hbad hbd⟩, by dsimp only; omega⟩
         dsimp only;rw[qw hsi,ud,ql,xX,List.map_nil,jg,ht];exact hS.sel [false,false,false,true])
      | (refine ⟨(k + 1, a52, p52), _, rfl, ⟨⟨rfl, rfl, rfl, rfl, rfl, trivial⟩, ?_, by dsimp only; omega, kF hsi hbad hbd⟩, by dsimp only; omega⟩
         dsimp only;rw[qw hsi,ud,ql,xX,List.map_nil,jg,ht];exact hS.sel [false,false,false,true])
  ·
   intro hc16
   try simp only[zA,zO,zN,zI,zF,zM,zT,zU]at hc16
   have hk:k=lb.length:=by omega
   subst hk;rw[xM]at hS hbad;have e:=throughP_good hbad;refine xB (xx (xx (ug (vS (QwR (qq hS (qb _) (qq hS (qc _) (qq hS (Qai rfl) (QoN (vW (ret2 results28 (qh rfl) (qh (v:=.int .i64 _) rfl) ?_)))))))))));obtain⟨I1,hE1,hI1,hd1⟩:=jB jN (xs:=lb.map (thr la)) (hS.sel [true]) (by simp);have hlm:(lb.map (thr la)).length=lb.length:=xP _;have hl1:(throughP la lb).1.length=lb.length:=by rw[e]; exact hlm
   rw[hl1];exact⟨I1,a,c,by rw[e]; rfl,hE1,by rw[e]; exact hd1⟩
end Go.Proofs.YtgkgihnpjgbmhaaGreatDoor
namespace Go.Proofs.YtgkgihnpjgbmhaaGreatDoor
open Tryz
open Go Go.RowKit Go.Inl
theorem zk (p : PatL) (ad : Option Addr) (m cap : Nat) (A : List Sym × Int) (w0 : World) (I0 : Imm) (hI : Sat I0 w0) (hops : ROps I0 (.slice ad m cap) p.ops) (hp : p.wf) (he : symbolsP p = A) :
 Ctr prog 27 [.agg #[.bool p.lifted,.int .i64 p.in_,.int .i64 p.out,.slice ad m cap]] w0 (fun v w'=>∃I' a c,v = .tuple #[.slice a A.1.length c,.int .i64 A.2]∧Ext w0 I0 w' I'∧RSyms I' (.slice a A.1.length c) A.1):=by
 subst he; exact symbols_c p ad m cap w0 I0 hI hops hp
theorem through_e (ad bd : Option Addr) (cap capb : Nat) (la lb : List Sym) (T : List Sym × Int) (w0 : World) (I0 : Imm) (hI : Sat I0 w0) (ha : RSyms I0 (.slice ad la.length cap) la) (hb : RSyms I0 (.slice bd lb.length capb) lb) (hwb : ∀ s ∈ lb, s.wf) (hn : lb.length ≤ 65536) (he : throughP la lb = T) :
 Ctr prog 28 [.slice ad la.length cap,.slice bd lb.length capb] w0 (fun v w'=>∃I' a c,v = .tuple #[.slice a T.1.length c,.int .i64 T.2]∧Ext w0 I0 w' I'∧RSyms I' (.slice a T.1.length c) T.1):=by
 subst he; exact through_c ad bd cap capb la lb w0 I0 hI ha hb hwb hn
theorem jW (p:PatL):(symbolsP p).1.length≤65536:=by
 unfold symbolsP;split
 · rename_i h
   obtain⟨h1,h2,h3,h4,h5,h6,h7⟩:=qI h;show(symsOf p.ops).length≤65536
   omega
 · simp
theorem cheap_zero {l:List Sym}{n:Int}(h:(cheapP l n).2≠0):(cheapP l n).1=PatL.zero:=by
 unfold cheapP at *;split at h
 · rename_i h1; rw[vR h1]
 · split at h
   · rename_i h1 h2; rw[vO h1,vR h2]
   · simp at h
theorem symbolsP_ok' {p:PatL}(h:(symbolsP p).2=0):(checkP p).2=0∧symbolsP p=(symsOf p.ops,0):=by
 by_cases hc:(checkP p).2=0
 · exact⟨hc,jA hc⟩
 · unfold symbolsP at h; rw[vO hc]at h; exact absurd h hc
set_option maxHeartbeats 1000000 in
theorem compose_c (p q : PatL) (ad bd : Option Addr) (m cap mb capb : Nat) (w0 : World) (I0 : Imm) (hI : Sat I0 w0) (hops : ROps I0 (.slice ad m cap) p.ops) (hp : p.wf) (hoq : ROps I0 (.slice bd mb capb) q.ops) (hq : q.wf) :
 Ctr prog 8 [.agg #[.bool p.lifted,.int .i64 p.in_,.int .i64 p.out,.slice ad m cap],.agg #[.bool q.lifted,.int .i64 q.in_,.int .i64 q.out,.slice bd mb capb]] w0 (fun v w'=>∃I' a m c,v = .tuple #[.agg #[.bool (composeP p q).1.lifted,.int .i64 (composeP p q).1.in_,.int .i64 (composeP p q).1.out,.slice a m c],.int .i64 (composeP p q).2]∧Ext w0 I0 w' I'∧ROps I' (.slice a m c) (composeP p q).1.ops):=by
 have hwA:=jz hp;have hwB:=jz hq;have hlB:=jW q;have hlA:=jW p;have hABw:=throughP_wf hwA hwB;have hdef:composeP p q=composeP p q:=rfl;conv at hdef=>rhs; unfold composeP
 obtain⟨A,hA⟩:∃A,symbolsP p=A:=⟨_,rfl⟩
 obtain⟨B,hB⟩:∃B,symbolsP q=B:=⟨_,rfl⟩
 rw[hA]at hdef hwA hABw hlA;rw[hB]at hdef hwB hABw hlB;obtain⟨T,hT⟩:∃T,throughP A.1 B.1=T:=⟨_,rfl⟩
 rw[hT]at hdef hABw;obtain⟨C,hC⟩:∃C,cheapP T.1 p.in_=C:=⟨_,rfl⟩
 rw[hC]at hdef;refine fn (n:=69) func8 rfl rfl rfl ?_;have hS:=St.start hI;refine QwR (qe (d_box (cs:=[.bool _,.int .i64 _,.int .i64 _,.slice _ _ _]) hS rfl) ?_);clear hS;rintro _ w_1⟨b2,rfl,hS⟩;refine qe (d_box (cs:=[.bool _,.int .i64 _,.int .i64 _,.slice _ _ _]) hS rfl) ?_;clear hS;rintro _ w_2⟨b3,rfl,hS⟩;refine qe (qv (cs:=[.bool _,.int .i64 _,.int .i64 _,.slice _ _ _]) hS xt rfl) ?_;clear hS;rintro _ w_3⟨b4,rfl,hS⟩;refine qq hS (Qai rfl) (QoR (qq hS (g_ldO 2 (vs:=[.bool _,.int .i64 _,.int .i64 _,.slice _ _ _]) vY xz rfl rfl rfl rfl) (qe (qg call27 rfl (zk p ad m cap A _ _ hS.imm hops hp hA)) ?_)));rintro _ w_4⟨I_f,a13,c13,rfl,hE,h13⟩;replace hS:=hS.callE hE;replace hops:=hops.mono hE.ext;replace hoq:=hoq.mono hE.ext;refine qq hS (qb _) (qq hS (qm rfl rfl) (qq hS (Qxi rfl rfl) (qq hS (qc _) (qq hS (Qai rfl) (QoN (vL (QwR (qq hS (Qmi rfl) (qq hS (g_neq rfl rfl) (QoN (qi rfl ?_ ?_)))))))))))
 ·
  intro hc17
  try simp only[zA,zO,zN,zI,zF,zM,zT,zU]at hc17
  rw[vR hc17]at hdef;refine QwR (qq hS (qo (pl:=[(0,1),(1,1),(2,1),(3,1)]) (cs:=[.bool _,.int .i64 _,.int .i64 _,.slice _ _ _]) xt vZ (fun w=>by simp[xL,vM,xJ]) mp0 rfl) (qq hS (Qmi rfl) (qe (qf 0 hS vY rfl rfl rfl (vs:=[.bool _,.int .i64 _,.int .i64 _,.slice _ _ _]) rfl rfl rfl (vJ rfl) (cs':=[_,_,_,_]) rfl) ?_)));clear hS;rintro _ w_5⟨rfl,hS⟩;refine qq hS (Qai rfl) (QoN (vW (xQ ?_)));rw[hdef];refine ret2 Qs (qz 0 hS vY xz rfl rfl rfl) (qh (v:=.int .i64 _) rfl) ?_;exact⟨_,none,0,0,rfl,hS.nil,RSl.nilR⟩
 ·
  intro hc17
  try simp only[zA,zO,zN,zI,zF,zM,zT,zU]at hc17
  rw[vO (by rw[hc17]; decide)]at hdef;refine vT (vS (QwR (qq hS (g_ldO 1 (vs:=[.bool _,.int .i64 _,.int .i64 _,.slice _ _ _]) vY xz rfl rfl rfl rfl) (qe (qg call27 rfl (zk q bd mb capb B _ _ hS.imm hoq hq hB)) ?_))));rintro _ w_6⟨I_f,a22,c22,rfl,hE,h22⟩;replace hS:=hS.callE hE;replace hops:=hops.mono hE.ext;replace hoq:=hoq.mono hE.ext;replace h13:=h13.mono hE.ext;refine qq hS (qb _) (qq hS (qm rfl rfl) (qq hS (Qxi rfl rfl) (qq hS (qc _) (qq hS (Qai rfl) (QoN (vL (xa (QwR (qq hS (Qmi rfl) (qq hS (g_neq rfl rfl) (qq hS (Qab rfl) (QoN (qi rfl ?_ ?_)))))))))))))
  ·
   intro hc25
   try simp only[zA,zO,zN,zI,zF,zM,zT,zU]at hc25
   rw[vR hc25]at hdef;refine QwR (qq hS (qo (pl:=[(0,1),(1,1),(2,1),(3,1)]) (cs:=[.bool _,.int .i64 _,.int .i64 _,.slice _ _ _]) xt vZ (fun w=>by simp[xL,vM,xJ]) mp0 rfl) (qq hS (Qmi rfl) (qe (qf 0 hS vY rfl rfl rfl (vs:=[.bool _,.int .i64 _,.int .i64 _,.slice _ _ _]) rfl rfl rfl (vJ rfl) (cs':=[_,_,_,_]) rfl) ?_)));clear hS;rintro _ w_7⟨rfl,hS⟩;refine qq hS (Qai rfl) (QoN (vW (uW (xQ ?_))));rw[hdef];refine ret2 Qs (qz 0 hS vY xz rfl rfl rfl) (qh (v:=.int .i64 _) rfl) ?_;exact⟨_,none,0,0,rfl,hS.nil,RSl.nilR⟩
  ·
   intro hc25
   try simp only[zA,zO,zN,zI,zF,zM,zT,zU]at hc25
   rw[vO (by rw[hc25]; decide)]at hdef;refine QwR (qq hS (qa (o':=0) vZ rfl xJ rfl rfl rfl) (qq hS (qd 2 uz rfl rfl rfl) (qq hS (qa (o':=0) vZ rfl xJ rfl rfl rfl) (qq hS (qd 1 uz rfl rfl rfl) (qq hS (g_neqb underlying4 rfl rfl) (qq hS (Qab rfl) (QoN (qi rfl ?_ ?_))))))))
   ·
    intro hc30;simp only[bne_iff_ne,ne_eq,bne_eq_false_iff_eq]at hc30;rw[vR hc30]at hdef;refine QwR (qq hS (qo (pl:=[(0,1),(1,1),(2,1),(3,1)]) (cs:=[.bool _,.int .i64 _,.int .i64 _,.slice _ _ _]) xt vZ (fun w=>by simp[xL,vM,xJ]) mp0 rfl) (qe (qf 0 hS vY rfl rfl rfl (vs:=[.bool _,.int .i64 _,.int .i64 _,.slice _ _ _]) rfl rfl rfl (vJ rfl) (cs':=[_,_,_,_]) rfl) ?_));clear hS;rintro _ w_8⟨rfl,hS⟩;refine qq hS (Qai rfl) (QoN (vW (uW (xQ ?_))));rw[hdef];refine ret2 Qs (qz 0 hS vY xz rfl rfl rfl) (qh (v:=.int .i64 _) rfl) ?_;exact⟨_,none,0,0,rfl,hS.nil,RSl.nilR⟩
   ·
    intro hc30;simp only[bne_iff_ne,ne_eq,bne_eq_false_iff_eq]at hc30;rw[vO (by rw[hc30]; simp)]at hdef;refine QwR (qq hS (qa (o':=2) vZ rfl vM rfl rfl rfl) (qq hS (qd 2 xf rfl rfl rfl) (qq hS (qa (o':=1) vZ rfl vM rfl rfl rfl) (qq hS (qd 1 xf rfl rfl rfl) (qq hS (g_neq rfl rfl) (qq hS (Qab rfl) (QoN (qi rfl ?_ ?_))))))))
    ·
     intro hc37
     try simp only[zA,zO,zN,zI,zF,zM,zT,zU]at hc37
     rw[vR hc37]at hdef;refine QwR (qq hS (qo (pl:=[(0,1),(1,1),(2,1),(3,1)]) (cs:=[.bool _,.int .i64 _,.int .i64 _,.slice _ _ _]) xt vZ (fun w=>by simp[xL,vM,xJ]) mp0 rfl) (qe (qf 0 hS vY rfl rfl rfl (vs:=[.bool _,.int .i64 _,.int .i64 _,.slice _ _ _]) rfl rfl rfl (vJ rfl) (cs':=[_,_,_,_]) rfl) ?_));clear hS;rintro _ w_9⟨rfl,hS⟩;refine qq hS (Qai rfl) (QoN (vW (uW (xQ ?_))));rw[hdef];refine ret2 Qs (qz 0 hS vY xz rfl rfl rfl) (qh (v:=.int .i64 _) rfl) ?_;exact⟨_,none,0,0,rfl,hS.nil,RSl.nilR⟩
    ·
     intro hc37
     try simp only[zA,zO,zN,zI,zF,zM,zT,zU]at hc37
     rw[vO (by omega)]at hdef;refine vT (xZ (vS (QwR (qq hS (qb _) (qq hS (qb _) (qe (qg call28 rfl (through_e a13 a22 c13 c22 A.1 B.1 T _ _ hS.imm h13 h22 hwB hlB hT)) ?_))))));rintro _ w_10⟨I_f,a47,c47,rfl,hE,h47⟩;replace hS:=hS.callE hE;replace hops:=hops.mono hE.ext;replace hoq:=hoq.mono hE.ext;replace h13:=h13.mono hE.ext;replace h22:=h22.mono hE.ext;refine qq hS (qb _) (qq hS (qm rfl rfl) (qq hS (Qxi rfl rfl) (qq hS (qc _) (qq hS (Qai rfl) (QoN (vL (QwR (qq hS (Qmi rfl) (qq hS (g_neq rfl rfl) (QoN (qi rfl ?_ ?_)))))))))))
     ·
      intro hc51
      try simp only[zA,zO,zN,zI,zF,zM,zT,zU]at hc51
      rw[vR hc51]at hdef;refine QwR (qq hS (qo (pl:=[(0,1),(1,1),(2,1),(3,1)]) (cs:=[.bool _,.int .i64 _,.int .i64 _,.slice _ _ _]) xt vZ (fun w=>by simp[xL,vM,xJ]) mp0 rfl) (qq hS (Qmi rfl) (qe (qf 0 hS vY rfl rfl rfl (vs:=[.bool _,.int .i64 _,.int .i64 _,.slice _ _ _]) rfl rfl rfl (vJ rfl) (cs':=[_,_,_,_]) rfl) ?_)));clear hS;rintro _ w_11⟨rfl,hS⟩;refine qq hS (Qai rfl) (QoN (vW (xQ ?_)));rw[hdef];refine ret2 Qs (qz 0 hS vY xz rfl rfl rfl) (qh (v:=.int .i64 _) rfl) ?_;exact⟨_,none,0,0,rfl,hS.nil,RSl.nilR⟩
     ·
      intro hc51
      try simp only[zA,zO,zN,zI,zF,zM,zT,zU]at hc51
      rw[vO (by rw[hc51]; decide)]at hdef;refine vT (vS (QwR (qq hS (qb _) (qq hS (qa (o':=1) vZ rfl vM rfl rfl rfl) (qq hS (qd 2 xf rfl rfl rfl) (qe (qg call29 rfl (cheapest_e a47 T.1.length c47 T.1 p.in_ C.1 C.2 _ _ hS.imm h47 rfl hABw hC)) ?_))))));rintro _ w_12⟨I_f,a58,m58,c58,rfl,hE,h58⟩;replace hS:=hS.callE hE;replace hops:=hops.mono hE.ext;replace hoq:=hoq.mono hE.ext;replace h13:=h13.mono hE.ext;replace h22:=h22.mono hE.ext;replace h47:=h47.mono hE.ext;refine qq hS (qb _) (qq hS (qm rfl rfl) (qq hS (Qxi rfl rfl) (qe (qv (cs:=[.bool _,.int .i64 _,.int .i64 _,.slice _ _ _]) hS xt rfl) ?_)));clear hS;rintro _ w_13⟨b10,rfl,hS⟩;refine qe (qf 0 hS vY rfl rfl rfl (vs:=[.bool _,.int .i64 _,.int .i64 _,.slice _ _ _]) rfl rfl rfl (vJ rfl) (cs':=[_,_,_,_]) rfl) ?_;clear hS;rintro _ w_14⟨rfl,hS⟩;refine qq hS (Qai rfl) (QoN (vL (QwR (qq hS (Qmi rfl) (qq hS (g_neq rfl rfl) (QoN (qi rfl ?_ ?_)))))))
      ·
       intro hc62
       try simp only[zA,zO,zN,zI,zF,zM,zT,zU]at hc62
       rw[vR hc62]at hdef;refine QwR (qq hS (qo (pl:=[(0,1),(1,1),(2,1),(3,1)]) (cs:=[.bool _,.int .i64 _,.int .i64 _,.slice _ _ _]) xt vZ (fun w=>by simp[xL,vM,xJ]) mp0 rfl) (qq hS (Qmi rfl) (qe (qf 1 hS vY rfl rfl rfl (vs:=[.bool _,.int .i64 _,.int .i64 _,.slice _ _ _]) rfl rfl rfl (vJ rfl) (cs':=[_,_,_,_]) rfl) ?_)));clear hS;rintro _ w_15⟨rfl,hS⟩;refine qq hS (Qai rfl) (QoN (vW (xQ ?_)));rw[hdef];refine ret2 Qs (qz 1 hS vY xz rfl rfl rfl) (qh (v:=.int .i64 _) rfl) ?_;exact⟨_,none,0,0,rfl,hS.nil,RSl.nilR⟩
      ·
       intro hc62
       try simp only[zA,zO,zN,zI,zF,zM,zT,zU]at hc62
       rw[vO (by rw[hc62]; decide)]at hdef;refine vT (vS (QwR (qq hS (qa (o':=0) vZ rfl xJ rfl rfl rfl) (qq hS (qd 3 uz rfl rfl rfl) (qq hS (qa (o':=0) vZ rfl xJ rfl rfl rfl) (qe (qf 0 hS xJ rfl rfl rfl (vs:=[.bool _]) rfl rfl rfl (vJ rfl) (cs':=[_,_,_,_]) rfl) ?_))))));clear hS;rintro _ w_16⟨rfl,hS⟩;refine QoR (qq hS (g_ldO 0 (vs:=[.bool _,.int .i64 _,.int .i64 _,.slice _ _ _]) vY xz rfl rfl rfl rfl) (qe (qf 1 hS vY rfl rfl rfl (vs:=[.bool _,.int .i64 _,.int .i64 _,.slice _ _ _]) rfl rfl rfl (vJ rfl) (cs':=[_,_,_,_]) rfl) ?_));clear hS;rintro _ w_17⟨rfl,hS⟩;refine qq hS (Qai rfl) (QoN (vW ?_));rw[hdef];refine ret2 Qs (qz 1 hS vY xz rfl rfl rfl) (qh (v:=.int .i64 _) rfl) ?_;exact⟨_,a58,m58,c58,rfl,hS.nil,h58⟩
end Go.Proofs.YtgkgihnpjgbmhaaGreatDoor
namespace Go.Proofs.YtgkgihnpjgbmhaaGreatDoor
open Tryz
open Go Go.RowKit Go.Inl
theorem formP_zero {p:PatL}(h:(formP p).2≠0):(formP p).1=PatL.zero:=by
 unfold formP at *;split
 · rename_i h1
   rw[vR h1]at h;by_cases h2:(cheapP (symbolsP p).1 p.in_).2=0
   · simp[h2]at h
   · simp only [h2, if_false]
     exact cheap_zero h2
 · rfl
structure FoldS where
 k:Nat
 out:PatL
 a:Option Addr
 m:Nat
 c:Nat
theorem foldC_cons (out p:PatL)(r:List PatL):foldC out (p::r)=if (composeP out p).2≠0 then composeP out p else foldC (composeP out p).1 r:=rfl
theorem allP_cons (p:PatL)(r:List PatL):allP (p::r)=if (formP p).2≠0 then (PatL.zero,(formP p).2) else foldC (formP p).1 r:=rfl
theorem form_F (p : PatL) (ad : Option Addr) (m cap : Nat) (F : PatL × Int) (w0 : World) (I0 : Imm) (hI : Sat I0 w0) (hops : ROps I0 (.slice ad m cap) p.ops) (hp : p.wf) (he : formP p = F) :
 Ctr prog 54 [.agg #[.bool p.lifted,.int .i64 p.in_,.int .i64 p.out,.slice ad m cap]] w0 (fun v w'=>∃I' a m c,v = .tuple #[.agg #[.bool F.1.lifted,.int .i64 F.1.in_,.int .i64 F.1.out,.slice a m c],.int .i64 F.2]∧Ext w0 I0 w' I'∧ROps I' (.slice a m c) F.1.ops):=by
 subst he; exact form_c p ad m cap w0 I0 hI hops hp
theorem RPats.slL {I:Imm}{ad:Option Addr}{len cap:Nat}{xs:List PatL}(hr:RPats I (.slice ad len cap) xs)(l:Nat)(hl:l≤xs.length):RPats I (.slice (if cap=l then ad else ad.map (·.add (l*4))) (len - l) (cap - l)) (xs.drop l):=RSl.slL hr l hl
theorem all1_c (out p : PatL) (b : Nat) (ao ad : Option Addr) (mo co m cap : Nat) (w0 : World) (I0 : Imm) (hI : Sat I0 w0) (hb : w0.heap[b]? = some (.cells ([.bool out.lifted, .int .i64 out.in_, .int .i64 out.out, .slice ao mo co] : List Value).toArray 26 (0, 0))) (hn : I0 b = none) (hout : ROps I0 (.slice ao mo co) out.ops) (how : out.wf) (hops : ROps I0 (.slice ad m cap) p.ops) (hp : p.wf) :
 Ctr prog 56 [.agg #[.bool p.lifted,.int .i64 p.in_,.int .i64 p.out,.slice ad m cap],.pointer (some ⟨b,0,none⟩)] w0 (fun v w'=>∃I' a m c,v = .int .i64 (composeP out p).2∧St [b] w0 I0 I' w' [.cel b 26 [.bool (composeP out p).1.lifted,.int .i64 (composeP out p).1.in_,.int .i64 (composeP out p).1.out,.slice a m c]]∧ROps I' (.slice a m c) (composeP out p).1.ops):=by
 refine fn (n:=14) func56 rfl rfl rfl ?_;have hS:=St.startX hI hb hn;refine QwR (qe (d_box (cs:=[.bool _,.int .i64 _,.int .i64 _,.slice _ _ _]) hS rfl) ?_);clear hS;rintro _ w_1⟨b2,rfl,hS⟩;refine qq hS (Qai rfl) (QoR (qq hS (g_ldO 1 (vs:=[.bool _,.int .i64 _,.int .i64 _,.slice _ _ _]) vY xz rfl rfl rfl rfl) (qq hS (g_ldO 0 (vs:=[.bool _,.int .i64 _,.int .i64 _,.slice _ _ _]) vY xz rfl rfl rfl rfl) (qe (qg call8 rfl (compose_c out p ao ad mo co m cap _ _ hS.imm hout how hops hp)) ?_))));rintro _ w_2⟨I_f,a9,m9,c9,rfl,hE,h9⟩;replace hS:=hS.callE hE;replace hops:=hops.mono hE.ext;replace hout:=hout.mono hE.ext;refine qq hS (qb _) (qq hS (qm rfl rfl) (qq hS (Qxi rfl rfl) (qe (qv (cs:=[.bool _,.int .i64 _,.int .i64 _,.slice _ _ _]) hS xt rfl) ?_)));clear hS;rintro _ w_3⟨b4,rfl,hS⟩;refine qe (qf 0 hS vY rfl rfl rfl (vs:=[.bool _,.int .i64 _,.int .i64 _,.slice _ _ _]) rfl rfl rfl (vJ rfl) (cs':=[_,_,_,_]) rfl) ?_;clear hS;rintro _ w_4⟨rfl,hS⟩;refine qq hS (Qai rfl) (QoR (qq hS (g_ldO 0 (vs:=[.bool _,.int .i64 _,.int .i64 _,.slice _ _ _]) vY xz rfl rfl rfl rfl) (qe (qf 2 hS vY rfl rfl rfl (vs:=[.bool _,.int .i64 _,.int .i64 _,.slice _ _ _]) rfl rfl rfl (vJ rfl) (cs':=[_,_,_,_]) rfl) ?_)));clear hS;rintro _ w_5⟨rfl,hS⟩;refine QoR (qq hS (Qmi rfl) (qq hS (Qai rfl) (QoN (vW (ret1 results56 (qh (v:=.int .i64 _) rfl) ?_)))));exact⟨_,a9,m9,c9,rfl,hS.sel [false,false,true],h9⟩
set_option maxHeartbeats 1000000 in
theorem fold_c (out : PatL) (b : Nat) (ao ad : Option Addr) (mo co m cap : Nat) (l : List PatL) (w0 : World) (I0 : Imm) (hI : Sat I0 w0) (hb : w0.heap[b]? = some (.cells ([.bool out.lifted, .int .i64 out.in_, .int .i64 out.out, .slice ao mo co] : List Value).toArray 26 (0, 0))) (hn : I0 b = none) (hout : ROps I0 (.slice ao mo co) out.ops) (how : out.wf) (hl : RPats I0 (.slice ad m cap) l) (hm : m = l.length) (hw : ∀ p ∈ l, p.wf) (hnl : l.length ≤ 65536) :
 Ctr prog 55 [.func (.func 56) #[] #[.pointer (some ⟨b,0,none⟩)],.slice ad m cap] w0 (fun v w'=>∃I' a m c,v = .int .i64 (foldC out l).2∧St [b] w0 I0 I' w' [.cel b 26 [.bool (foldC out l).1.lifted,.int .i64 (foldC out l).1.in_,.int .i64 (foldC out l).1.out,.slice a m c]]∧ROps I' (.slice a m c) (foldC out l).1.ops):=by
 subst hm;refine fn (n:=21) func55 rfl rfl rfl ?_;have hS:=St.startX hI hb hn;refine QwR (qq hS (Qai rfl) (QoN (vL (QwR (qq hS (qb _) (qq hS (qr rfl ue hl rfl) (qq hS (Qmi rfl) (QoN (xa (loop (fun(x:FoldS) σ w=>okS σ [(0,.func (.func 56) #[] #[.pointer (some ⟨b,0,none⟩)]),(8,.slice ad l.length cap),(9,.int .i64 l.length),(10,.int .i64 x.k)]∧∃I,St [b] w0 I0 I w [.cel b 26 [.bool x.out.lifted,.int .i64 x.out.in_,.int .i64 x.out.out,.slice x.a x.m x.c]]∧x.k≤l.length∧foldC x.out (l.drop x.k)=foldC out l∧ROps I (.slice x.a x.m x.c) x.out.ops∧x.out.wf) (fun x=>l.length - x.k) (⟨0,out,ao,mo,co⟩) ?_ ?_))))))))))
 ·
  exact⟨⟨rfl,rfl,rfl,rfl,trivial⟩,_,hS.sel [true],by simp,by simp,hout,how⟩
 ·
  rintro⟨k,xo,a,m,c⟩σ w_l⟨hs,I,hS,hk0,hgo,ho,how'⟩;dsimp only at hs hS hk0 hgo ho how' ⊢;rw[← qk hs]; clear hs
  refine QwR (qq hS (g_lss rfl rfl) (QoN (vL (qi rfl ?_ ?_))))
  ·
   intro hc11
   try simp only[zA,zO,zN,zI,zF,zM,zT,zU]at hc11
   obtain⟨p,hpi⟩:∃p,l[k]? = some p:=⟨_,vK (by omega)⟩
   obtain⟨cs,hcl,hpA,hpc⟩:=RSl.at (hl.mono hS.ext) hpi;obtain⟨adp,mq,cq,rfl,hpo⟩:=hpc;have hpw:=hw p (vP hpi);rw[jH hpi,foldC_cons]at hgo;refine vT (vS (vL (xa (QwR (qq hS (g_ixI ue vY hl rfl rfl (by omega) (by omega)) (qq hS (g_ldE (us:=[.bool _,.int .i64 _,.int .i64 _,.slice _ _ _]) vY xz hpA rfl rfl rfl) (qe (qv (cs:=[.bool _,.int .i64 _,.int .i64 _,.slice _ _ _]) hS xt rfl) ?_)))))));clear hS;rintro _ w_1⟨b6,rfl,hS⟩;refine qe (qf 0 hS vY rfl rfl rfl (vs:=[.bool _,.int .i64 _,.int .i64 _,.slice _ _ _]) rfl rfl rfl (vJ rfl) (cs':=[_,_,_,_]) rfl) ?_;clear hS;rintro _ w_2⟨rfl,hS⟩;refine QoR (qq hS (qb _) (qq hS (g_ldO 0 (vs:=[.bool _,.int .i64 _,.int .i64 _,.slice _ _ _]) vY xz rfl rfl rfl rfl) (qe (zX call56 rfl rfl (all1_c xo p b a adp m c mq cq _ _ hS.imm (qB (k:=1) hS rfl) (qA (k:=1) hS rfl) ho how' hpo hpw)) ?_)));rintro _ w_3⟨I2,a2,m2,c2,rfl,hE,h2⟩;replace hS:=hS.callXI (k:=1) rfl hE;refine qq hS (Qai rfl) (QoR (qq hS (Qmi rfl) (qq hS (g_neq rfl rfl) (QoN (qi rfl ?_ ?_)))))
   ·
    intro hc18
    try simp only[zA,zO,zN,zI,zF,zM,zT,zU]at hc18
    rw[vR hc18]at hgo;refine QwR (qq hS (Qmi rfl) (qq hS (Qai rfl) (QoN (vW (uW (xQ (xQ (uW (xQ (ret1 results55 (qh (v:=.int .i64 _) rfl) ?_))))))))));rw[← hgo]; exact⟨_,a2,m2,c2,rfl,hS.sel [false,true],h2⟩
   ·
    intro hc18
    try simp only[zA,zO,zN,zI,zF,zM,zT,zU]at hc18
    rw[vO (by rw[hc18]; decide)]at hgo;refine vT (xZ (vS (reg (qq hS (g_add rfl rfl (by omega) (by omega)) (qq hS (Qmi rfl) ?_)))));exact⟨⟨k+1,(composeP xo p).1,a2,m2,c2⟩,_,rfl,⟨⟨rfl,rfl,rfl,rfl,trivial⟩,_,hS.sel [false,true],by dsimp only; omega,hgo,h2,ze how' hpw⟩,by dsimp only; omega⟩
  ·
   intro hc11
   try simp only[zA,zO,zN,zI,zF,zM,zT,zU]at hc11
   rw[uB (by omega)]at hgo;refine xB (xx (xx (ug (vS (QwR (qq hS (Qai rfl) (QoN (vW (ret1 results55 (qh (v:=.int .i64 _) rfl) ?_)))))))));rw[← hgo]; exact⟨_,a,m,c,rfl,hS.sel [true],ho⟩
set_option maxHeartbeats 1000000 in
theorem all_c (ad : Option Addr) (cap : Nat) (l : List PatL) (w0 : World) (I0 : Imm) (hI : Sat I0 w0) (hl : RPats I0 (.slice ad l.length cap) l) (hw : ∀ p ∈ l, p.wf) (hn : l.length ≤ 65536) :
 Ctr prog 22 [.slice ad l.length cap] w0 (fun v w'=>∃I' a m c,v = .tuple #[.agg #[.bool (allP l).1.lifted,.int .i64 (allP l).1.in_,.int .i64 (allP l).1.out,.slice a m c],.int .i64 (allP l).2]∧Ext w0 I0 w' I'∧ROps I' (.slice a m c) (allP l).1.ops):=by
 refine fn (n:=27) func22 rfl rfl rfl ?_;have hS:=St.start hI;refine QwR (qe (qv (cs:=[.bool _,.int .i64 _,.int .i64 _,.slice _ _ _]) hS xt rfl) ?_);clear hS;rintro _ w_1⟨b2,rfl,hS⟩;refine qq hS (Qai rfl) (QoN (vL (QwR (qq hS (qb _) (qq hS (qr rfl ue hl rfl) (qq hS (g_eql rfl rfl) (QoN (qi rfl ?_ ?_))))))))
 ·
  intro hc8
  try simp only[zA,zO,zN,zI,zF,zM,zT,zU]at hc8
  have hnil:l=[]:=uq.1 (by omega);have e:allP l=(PatL.zero,1):=by rw[hnil]; rfl
  refine QwR (qq hS (qo (pl:=[(0,1),(1,1),(2,1),(3,1)]) (cs:=[.bool _,.int .i64 _,.int .i64 _,.slice _ _ _]) xt vZ (fun w=>by simp[xL,vM,xJ]) mp0 rfl) (qe (qf 0 hS vY rfl rfl rfl (vs:=[.bool _,.int .i64 _,.int .i64 _,.slice _ _ _]) rfl rfl rfl (vJ rfl) (cs':=[_,_,_,_]) rfl) ?_));clear hS;rintro _ w_2⟨rfl,hS⟩;refine qq hS (Qai rfl) (QoN (vW (xQ (ret2 results22 (qz 0 hS vY xz rfl rfl rfl) (qh (v:=.int .i64 _) rfl) ?_))));rw[e]; exact⟨_,none,0,0,rfl,hS.nil,RSl.nilR⟩
 ·
  intro hc8
  try simp only[zA,zO,zN,zI,zF,zM,zT,zU]at hc8
  obtain⟨p,hpi⟩:∃p,l[0]? = some p:=⟨_,vK (by omega)⟩
  obtain⟨cs,hcl,hpA,hpc⟩:=RSl.at hl hpi;obtain⟨adp,mq,cq,rfl,hpo⟩:=hpc;have hpw:=hw p (vP hpi);have hlc:l=p::l.drop 1:=by have:=jH hpi; rwa [List.drop_zero]at this
  have hdef:allP l=if (formP p).2≠0 then (PatL.zero,(formP p).2) else foldC (formP p).1 (l.drop 1):=by conv=>lhs; rw[hlc,allP_cons]
  have hFw:=formP_wf hpw;have hFz:=formP_zero (p:=p);obtain⟨F,hF⟩:∃F,formP p=F:=⟨_,rfl⟩
  rw[hF]at hdef hFw hFz;refine vT (vS (QwR (qq hS (qb _) (qq hS (g_ixI ue vY hl rfl rfl (by decide) (by omega)) (qq hS (g_ldE (us:=[.bool _,.int .i64 _,.int .i64 _,.slice _ _ _]) vY xz hpA rfl rfl rfl) (qe (qg call54 rfl (form_F p adp mq cq F _ _ hS.imm hpo hpw hF)) ?_))))));rintro _ w_3⟨I_f,a14,m14,c14,rfl,hE,h14⟩;replace hS:=hS.callE hE;replace hl:=hl.mono hE.ext;refine qq hS (qb _) (qq hS (qm rfl rfl) (qq hS (Qxi rfl rfl) (qe (qv (cs:=[.bool _,.int .i64 _,.int .i64 _,.slice _ _ _]) hS xt rfl) ?_)));clear hS;rintro _ w_4⟨b4,rfl,hS⟩;refine qe (qf 0 hS vY rfl rfl rfl (vs:=[.bool _,.int .i64 _,.int .i64 _,.slice _ _ _]) rfl rfl rfl (vJ rfl) (cs':=[_,_,_,_]) rfl) ?_;clear hS;rintro _ w_5⟨rfl,hS⟩;refine qq hS (Qai rfl) (QoN (vL (QwR (qq hS (Qmi rfl) (qq hS (g_neq rfl rfl) (QoN (qi rfl ?_ ?_)))))))
  ·
   intro hc18
   try simp only[zA,zO,zN,zI,zF,zM,zT,zU]at hc18
   rw[vR hc18]at hdef;refine QwR (qq hS (qo (pl:=[(0,1),(1,1),(2,1),(3,1)]) (cs:=[.bool _,.int .i64 _,.int .i64 _,.slice _ _ _]) xt vZ (fun w=>by simp[xL,vM,xJ]) mp0 rfl) (qq hS (Qmi rfl) (qe (qf 1 hS vY rfl rfl rfl (vs:=[.bool _,.int .i64 _,.int .i64 _,.slice _ _ _]) rfl rfl rfl (vJ rfl) (cs':=[_,_,_,_]) rfl) ?_)));clear hS;rintro _ w_6⟨rfl,hS⟩;refine qq hS (Qai rfl) (QoN (vW (xQ (ret2 results22 (qz 1 hS vY xz rfl rfl rfl) (qh (v:=.int .i64 _) rfl) ?_))));rw[hdef]; exact⟨_,none,0,0,rfl,hS.nil,RSl.nilR⟩
  ·
   intro hc18
   try simp only[zA,zO,zN,zI,zF,zM,zT,zU]at hc18
   rw[vO (by rw[hc18]; decide)]at hdef;refine vT (vS (QwR (qq hS (za ml0 (ml rfl ml0)) (qq hS (qb _) (qq hS (zo (l0:=1) ue vY rfl rfl (by decide) (by omega) rfl) ?_)))));refine qe (qg call55 rfl (fold_c F.1 b4 a14 _ m14 c14 _ _ (l.drop 1) _ _ hS.imm (qB (k:=0) hS rfl) (qA (k:=0) hS rfl) h14 hFw (hl.slL 1 (by omega)) (by rw[un]) (fun p hp=>hw p (List.mem_of_mem_drop hp)) (by rw[un]; omega))) ?_;rintro _ w_7⟨I2,a24,m24,c24,rfl,hE,h24⟩;replace hS:=hS.callXI (k:=0) rfl hE;refine qq hS (Qai rfl) (QoR (qq hS (g_ldO 0 (vs:=[.bool _,.int .i64 _,.int .i64 _,.slice _ _ _]) vY xz rfl rfl rfl rfl) (qq hS (Qmi rfl) (qe (qf 1 hS vY rfl rfl rfl (vs:=[.bool _,.int .i64 _,.int .i64 _,.slice _ _ _]) rfl rfl rfl (vJ rfl) (cs':=[_,_,_,_]) rfl) ?_))));clear hS;rintro _ w_8⟨rfl,hS⟩;refine qq hS (Qai rfl) (QoN (vW (ret2 results22 (qz 1 hS vY xz rfl rfl rfl) (qh (v:=.int .i64 _) rfl) ?_)));rw[hdef]; exact⟨_,a24,m24,c24,rfl,hS.nil,h24⟩
end Go.Proofs.YtgkgihnpjgbmhaaGreatDoor
namespace Go.Proofs.YtgkgihnpjgbmhaaGreatDoor
open Tryz
open Go Go.RowKit Go.Inl
def wholeP (n:Int):PatL:=⟨false,n,n,if 0 < n then [⟨1,0,n,0,[]⟩] else []⟩
theorem wholeP_pos {n:Int}(h:0 < n):wholeP n=⟨false,n,n,[⟨1,0,n,0,[]⟩]⟩:=by unfold wholeP; rw[vR h]
theorem wholeP_zero {n:Int}(h:¬0 < n):wholeP n=⟨false,n,n,[]⟩:=by unfold wholeP; rw[vO h]
theorem wholeP_wf {n:Int}(h:0≤n∧n≤65536):(wholeP n).wf:=by
 refine⟨⟨by show _≤n; omega,by show n≤_; omega⟩,⟨by show _≤n; omega,by show n≤_; omega⟩,?_,?_⟩
 · intro x hx
   unfold wholeP at hx;split at hx
   · simp only [xr] at hx; subst hx
     exact⟨⟨by dsimp only; omega,by dsimp only; omega⟩,⟨by dsimp only; omega,by dsimp only; omega⟩,⟨by dsimp only; omega,by dsimp only; omega⟩,⟨by dsimp only; omega,by dsimp only; omega⟩,by simp⟩
   · simp at hx
 · unfold wholeP; split <;> simp
theorem wholeP_check {n:Int}(h:0≤n∧n≤65536):(checkP (wholeP n)).2=0:=by
 by_cases h0:0 < n
 · rw [wholeP_pos h0]
   refine jE h ?_ ?_ h.2 (by simp)
   · intro x hx
     simp only[xr]at hx; subst hx
     refine⟨by dsimp only; omega,?_⟩;simp[rightP,insideP]
   · simp[symsOf,symsOp]; omega
 · rw [wholeP_zero h0]
   exact jE h (fun x hx=>by simp at hx) (by simp[symsOf]; omega) h.2 (by simp)
/-! ### Chains of raw patches -/
def chainF (size : Int) : List RawL → List PatL
 | []=>[]
 | x::r=>madeP x.l size::chainF (madeP x.l size).out r
def lastO (size : Int) : List PatL → Int
 | []=>size
 | p::r=>lastO p.out r
theorem chainF_snoc (x : RawL) : ∀ (l : List RawL) (size : Int), chainF size (l ++ [x]) = chainF size l ++ [madeP x.l (lastO size (chainF size l))]
 | [],size=>rfl
 | y::l,size=>by rw[List.cons_append,chainF,chainF_snoc x l]; rfl
theorem jL : ∀ (l : List RawL) (size : Int), (chainF size l).length = l.length
 | [],_=>rfl
 | y::l,size=>by rw[chainF,List.length_cons,jL l,List.length_cons]
theorem lastO_get : ∀ (l : List PatL) (size : Int) (k : Nat) (p : PatL), l.length = k + 1 → l[k]? = some p → lastO size l = p.out
 | [],_,_,_,h,_=>by simp at h
 | [q],size,0,p,_,h=>by simp at h; subst h; rfl
 | q::r::l,size,k+1,p,hl,h=>by
   rw[lastO];exact lastO_get (r::l) q.out k p (by simpa using hl) (by simpa using h)
 | [q],size,k+1,p,hl,h=>by simp at hl
 | q::r::l,size,0,p,hl,h=>by simp at hl
theorem yv : ∀ (l : List RawL) (size : Int), 0 ≤ size ∧ size ≤ 65536 → (∀ x ∈ l, x.wf) → ChainOk size (chainF size l) ∧ (∀ p ∈ chainF size l, p.wf ∧ p.out ≤ 30 ∧ 0 ≤ p.out)
 | [],size,_,_=>⟨trivial,by simp[chainF]⟩
 | x::l,size,h0,hw=>by
   have hx:=hw x (by simp);obtain⟨h1,h2,h3⟩:=madeP_ok (l:=x.l) (size:=size) hx.l h0;have h4:=(qI h1).2.2.2.2.1;obtain⟨k1,k2⟩:=yv l (madeP x.l size).out ⟨h4,by omega⟩ (fun y hy=>hw y (by simp[hy]));refine⟨⟨rfl,h1,rfl,by omega,k1⟩,fun p hp=>?_⟩;rw[chainF]at hp;rcases vU.1 hp with rfl | hp
   · exact⟨madeP_wf hx.l h0,h2,h4⟩
   · exact k2 p hp
def chainL (l:List RawL)(n:Nat):List PatL:=chainF ((l.headD ⟨0,[]⟩).r % 13) (l.take n)
def chainP (l:List RawL)(n:Nat):List PatL:=if chainL l n=[] then [wholeP 3] else chainL l n
theorem chainP_ok {l:List RawL}{n:Nat}(hw:∀x∈l,x.wf)(hn:n≤4):∃m p r,chainP l n=p::r∧0≤m∧m≤12∧ChainOk m (p::r)∧(∀q∈chainP l n,q.wf∧q.out≤30∧0≤q.out)∧(chainP l n).length≤4:=by
 unfold chainP;split
 · refine ⟨3, wholeP 3, [], rfl, by decide, by decide, ⟨rfl, wholeP_check (by decide), rfl, by decide, trivial⟩, ?_, by simp⟩
   intro q hq;simp only[xr]at hq; subst hq
   exact⟨wholeP_wf (by decide),by decide,by decide⟩
 · rename_i hne
   have hr:0≤(l.headD ⟨0,[]⟩).r % 13∧(l.headD ⟨0,[]⟩).r % 13≤65536:=by omega
   obtain⟨h1,h2⟩:=yv (l.take n) _ hr (fun x hx=>hw x (List.mem_of_mem_take hx));have hlen:=jL (l.take n) ((l.headD ⟨0,[]⟩).r % 13);rw[xi]at hlen;cases hc:chainL l n with
   | nil=>exact absurd hc hne
   | cons p r =>
     have hc':chainF ((l.headD ⟨0,[]⟩).r % 13) (l.take n)=p::r:=hc;rw[hc']at h1 h2 hlen;exact⟨_,p,r,rfl,hr.1,by omega,h1,h2,by omega⟩
/-! ### Bytes -/
def runB (old:List Int)(s:Sym):Int:=if s.old then IntKind.u8.wrap (s.b+old.getD s.at_.toNat 0) else s.b
def runP (old:List Int)(l:List Sym):List Int×Int:=if l.any (badT old.length) then ([],61) else (l.map (runB old),0)
theorem runP_bad {a:List Int}{b:List Sym}{s:Sym}(hs:s∈b)(h:badT a.length s=true):runP a b=([],61):=by
 unfold runP; rw[vR (List.any_eq_true.2 ⟨s,hs,h⟩)]
theorem runP_good {a:List Int}{b:List Sym}(h:∀s∈b,badT a.length s=false):runP a b=(b.map (runB a),0):=by
 unfold runP;rw[vO];intro hb;obtain⟨s,hs,h1⟩:=List.any_eq_true.1 hb;rw[h s hs]at h1; cases h1
theorem yO {a:List Int}{s:Sym}(h:s.old=false):runB a s=s.b:=by unfold runB; rw[h]; rfl
theorem zL {a:List Int}{s:Sym}{x:Int}(h:s.old=true)(hx:a[s.at_.toNat]? = some x):runB a s=IntKind.u8.wrap (s.b+x):=by
 unfold runB;rw[h,xb,hx]; rfl
theorem run_thr (old:List Int)(x:List Sym)(s:Sym)(h:s.old=true→s.at_.toNat < x.length):runB (x.map (runB old)) s=runB old (thr x s):=by
 cases ho:s.old with
 | false=>rw[yO ho,yB ho]; rfl
 | true =>
   have hin:=h ho;rw[yA ho];have e:x.getD s.at_.toNat z0=x[s.at_.toNat]:=by rw[xb,vK hin]; rfl
   have e2:(x.map (runB old))[s.at_.toNat]? = some (runB old x[s.at_.toNat]):=by rw[xY,vK hin]; rfl
   rw[e,zL ho e2];unfold runB;dsimp only;split
   · simp only[wrap8]; omega
   · rw[Int.add_comm]
def inputB (b:List Int)(j:Nat):Int:=if j < b.length then b.getD j 0 else IntKind.u8.wrap (7*(j:Int))
def inputP (b:List Int)(n:Nat):List Int:=(List.range n).map (inputB b)
theorem zD (b:List Int)(n:Nat):(inputP b n).length=n:=by simp[inputP]
theorem refWhole_c (n : Int) (w0 : World) (I0 : Imm) (hI : Sat I0 w0) (h0 : 0 ≤ n ∧ n ≤ 65536) :
 Ctr prog 53 [.int .i64 n] w0 (fun v w'=>∃I' a m c,v = .agg #[.bool (wholeP n).lifted,.int .i64 (wholeP n).in_,.int .i64 (wholeP n).out,.slice a m c]∧Ext w0 I0 w' I'∧ROps I' (.slice a m c) (wholeP n).ops):=by
 refine fn (n:=12) func53 rfl rfl rfl ?_;have hS:=St.start hI;refine QwR (qe (qv (cs:=[.bool _,.int .i64 _,.int .i64 _,.slice _ _ _]) hS xt rfl) ?_);clear hS;rintro _ w_1⟨b2,rfl,hS⟩;refine QoN (vL (QwR (qq hS (Qmi rfl) (qq hS (g_eql rfl rfl) (QoN (qi rfl ?_ ?_))))))
 ·
  intro hc4
  try simp only[zA,zO,zN,zI,zF,zM,zT,zU]at hc4
  have hn0:n=0:=hc4;subst hn0;have e:wholeP 0=⟨false,0,0,[]⟩:=rfl;refine QwR (qq hS (qo (pl:=[(0,1),(1,1),(2,1),(3,1)]) (cs:=[.bool _,.int .i64 _,.int .i64 _,.slice _ _ _]) xt vZ (fun w=>by simp[xL,vM,xJ]) mp0 rfl) (qe (qf 0 hS vY rfl rfl rfl (vs:=[.bool _,.int .i64 _,.int .i64 _,.slice _ _ _]) rfl rfl rfl (vJ rfl) (cs':=[_,_,_,_]) rfl) ?_));clear hS;rintro _ w_2⟨rfl,hS⟩;refine QoN (vW (xQ (ret1 results53 (qz 0 hS vY xz rfl rfl rfl) ?_)));rw[e]; exact⟨_,none,0,0,rfl,hS.nil,RSl.nilR⟩
 ·
  intro hc4
  try simp only[zA,zO,zN,zI,zF,zM,zT,zU]at hc4
  have e:=wholeP_pos (n:=n) (by omega);refine vT (vS (QwR (qq hS (Qmi rfl) (qq hS (Qmi rfl) (qq hS (Qmi rfl) (qq hS (qo (pl:=[(0,1),(1,1),(2,1),(3,1),(4,1)]) (cs:=[.int .i64 _,.int .i64 _,.int .i64 _,.int .u8 _,.slice _ _ _]) xW vV (fun w=>by simp[xA,vM,xj]) (mp (v:=.int .i64 _) rfl (mp (v:=.int .i64 _) rfl mp0)) rfl) ?_))))));refine qe (d_lit (vs:=[.agg #[.int .i64 _,.int .i64 _,.int .i64 _,.int .u8 _,.slice _ _ _]]) (cs:=[.int .i64 _,.int .i64 _,.int .i64 _,.int .u8 _,.slice _ _ _]) hS xN xk xW rfl rfl rfl rfl (fun v hv=>by simp only[vU,vX,or_false]at hv; subst hv; rfl) rfl) ?_;clear hS;rintro _ w_3⟨b10,rfl,hS⟩;refine qq hS (qo (pl:=[(0,1),(1,1),(2,1),(3,1)]) (cs:=[.bool _,.int .i64 _,.int .i64 _,.slice _ _ _]) xt vZ (fun w=>by simp[xL,vM,xJ]) (mp (v:=.int .i64 _) rfl (mp (v:=.int .i64 _) rfl (mp rfl mp0))) rfl) (qe (qf 1 hS vY rfl rfl rfl (vs:=[.bool _,.int .i64 _,.int .i64 _,.slice _ _ _]) rfl rfl rfl (vJ rfl) (cs':=[_,_,_,_]) rfl) ?_);clear hS;rintro _ w_4⟨rfl,hS⟩;refine QoN (vW (ret1 results53 (qz 1 hS vY xz rfl rfl rfl) ?_));obtain⟨I3,hS,hI3,hb3⟩:=hS.freezeAt 0 rfl;have ho:ROps I3 (.slice (some ⟨b10,0,none⟩) 1 1) [⟨1,0,n,0,[]⟩]:=RSl.ofAt (css:=[[.int .i64 1,.int .i64 0,.int .i64 n,.int .u8 0,.slice none 0 0]]) hb3 rfl (by simp) (All2.one ⟨none,0,0,rfl,RFl.nil⟩) rfl (by show 1≤maxLen; decide);rw[e]; exact⟨_,_,1,1,rfl,hS.nil,ho⟩
set_option maxHeartbeats 1000000 in
theorem run_c (ad bd : Option Addr) (cap capb : Nat) (lo : List Int) (l : List Sym) (w0 : World) (I0 : Imm) (hI : Sat I0 w0) (ha : RBytes I0 (.slice ad lo.length cap) lo) (hb : RSyms I0 (.slice bd l.length capb) l) (hwb : ∀ s ∈ l, s.wf) (hn : l.length ≤ 65536) :
 Ctr prog 32 [.slice ad lo.length cap,.slice bd l.length capb] w0 (fun v w'=>∃I' a c,v = .tuple #[.slice a (runP lo l).1.length c,.int .i64 (runP lo l).2]∧Ext w0 I0 w' I'∧RBytes I' (.slice a (runP lo l).1.length c) (runP lo l).1):=by
 have hll:=RSl.le hb;have hlla:=RSl.le ha;simp only[maxLen]at hll hlla;refine fn (n:=46) func32 rfl rfl rfl ?_;have hS:=St.start hI;refine QwR (qq hS (qc _) (qq hS (Qai rfl) (QoR (qq hS (qb _) (qq hS (qr rfl xF hb rfl) (qe (yG hS vQ uM rfl rfl (by omega) (by omega) (by omega)) ?_))))));clear hS;rintro _ w_1⟨a11,p11,rfl,hS⟩;refine qq hS (qc _) (QoN (vL (QwR (qq hS (qb _) (qq hS (qr rfl xF hb rfl) (qq hS (Qmi rfl) (QoN (xa (loop (fun(x:Nat×Option Addr×Nat) σ w=>okS σ [(0,.slice ad lo.length cap),(6,.slice x.2.1 x.1 x.2.2),(12,.slice bd l.length capb),(13,.int .i64 l.length),(14,.int .i64 x.1)]∧St [] w0 I0 I0 w [.row (.slice x.2.1 x.1 x.2.2) 5 1 x.1 (flat byteC ((l.take x.1).map (runB lo)))]∧x.1≤l.length∧∀s∈l.take x.1,badT lo.length s=false) (fun x=>l.length - x.1) ((0,a11,p11)) ?_ ?_)))))))))
 ·
  exact⟨⟨rfl,rfl,rfl,rfl,rfl,trivial⟩,hS.sel [true],by simp,by simp⟩
 ·
  rintro⟨k,a,c⟩σ w_l⟨hs,hS,hk0,hbad⟩;dsimp only at hs hS hk0 hbad ⊢;rw[← qk hs]; clear hs
  refine QwR (qq hS (g_lss rfl rfl) (QoN (vL (qi rfl ?_ ?_))))
  ·
   intro hc15
   try simp only[zA,zO,zN,zI,zF,zM,zT,zU]at hc15
   obtain⟨s,hsi⟩:∃s,l[k]? = some s:=⟨_,vK (by omega)⟩
   have hsA:=hb.at hsi;have hsm:=vP hsi;obtain⟨sw1,sw2,sw3,sw4⟩:=hwb s hsm;refine vT (vS (vL (xa (QwR (qq hS (g_ixI xF xI hb rfl rfl (by omega) (by omega)) (qq hS (g_ldE (us:=[.bool _,.int .i64 _,.int .u8 _]) xI uu hsA rfl rfl rfl) (qe (qv (cs:=[.bool _,.int .i64 _,.int .u8 _]) hS uj rfl) ?_)))))));clear hS;rintro _ w_2⟨b8,rfl,hS⟩;refine qe (qf 0 hS xI rfl rfl rfl (vs:=[.bool _,.int .i64 _,.int .u8 _]) rfl rfl rfl (vJ rfl) (cs':=[_,_,_]) rfl) ?_;clear hS;rintro _ w_3⟨rfl,hS⟩;refine QoN (meet (fun σ w=>okS σ [(0,.slice ad lo.length cap),(6,.slice a k c),(12,.slice bd l.length capb),(13,.int .i64 l.length),(14,.int .i64 k),(8,.pointer (some ⟨b8,0,none⟩))]∧St [] w0 I0 I0 w [.cel b8 80 [.bool s.old,.int .i64 s.at_,.int .u8 (runB lo s)],.row (.slice a k c) 5 1 k (flat byteC ((l.take k).map (runB lo)))]∧badT lo.length s=false) ?_ ?_)
   ·
    refine QwR (qq hS (qa (o':=0) xy rfl xJ rfl rfl rfl) (qq hS (qd 0 uz rfl rfl rfl) (QoN (qi rfl ?_ ?_))))
    ·
     intro hc19
     try simp only[zA,zO,zN,zI,zF,zM,zT,zU]at hc19
     have hso:s.old=true:=hc19;refine vL (QwR (qq hS (qa (o':=1) xy rfl vM rfl rfl rfl) (qq hS (qd 0 xf rfl rfl rfl) (qq hS (g_lss rfl rfl) (qq hS (Qmb rfl) (qu rfl rfl hS (fun hg=>(qa (o':=1) xy rfl vM rfl rfl rfl)) ?_))))));intro u24 hu24 hn24;refine qu rfl rfl hS (fun hg=>(qd 0 xf rfl (hu24 hg) rfl)) ?_;intro u25 hu25 hn25;refine qu rfl rfl hS (fun hg=>(qb _)) ?_;intro u26 hu26 hn26;refine qu rfl rfl hS (fun hg=>(qr rfl vQ ha (hu26 hg))) ?_;intro u27 hu27 hn27;refine qu rfl rfl hS (fun hg=>(g_geq (hu25 hg) (hu27 hg))) ?_;intro u28 hu28 hn28;refine qq hS (g_or rfl rfl (fun hq=>hu28 hq)) (QoN (qi rfl ?_ ?_))
     ·
      intro hc29;clear hu24 hn24 hu25 hn25 hu26 hn26 hu27 hn27 hu28 hn28;have hbd:badT lo.length s=true:=by unfold badT; rw[hso,Bool.true_and]; exact hc29
      have e:=runP_bad hsm hbd;refine QwR (qq hS (qc _) (qq hS (Qai rfl) (QoN (vW (xQ (xQ (uW (xQ (xQ (uW (xQ (ret2 results32 (qh rfl) (qh (v:=.int .i64 _) rfl) ?_))))))))))));rw[e]; exact⟨_,none,0,rfl,hS.nil,RFl.nil⟩
     ·
      intro hc29;clear hu24 hn24 hu25 hn25 hu26 hn26 hu27 hn27 hu28 hn28;have hbd:badT lo.length s=false:=by unfold badT; rw[hso,Bool.true_and]; exact hc29
      simp only[uv,xd]at hc29;have hin:s.at_.toNat < lo.length:=by omega
      obtain⟨x,hxi⟩:∃x,lo[s.at_.toNat]? = some x:=⟨_,vK hin⟩
      have hxA:=ha.at hxi;have ht:=zL hso hxi;refine vT (vS (draw (.cons 0 .pure (.cons 1 .held (.cons 2 .pure (.cons 3 .pure (.cons 4 .held (.cons 5 .pure (.cons 6 .held (.cons 7 .pure (.cons 8 .pure (.cons 9 .bar .nil)))))))))) mixed (by kernel_rfl) hS ?_));intro w_4 hS;refine sp rfl (qa (o':=2) xy rfl xj rfl rfl rfl) (sh rfl (qd 0 xV rfl rfl rfl) (sp rfl (qb _) (sp rfl (qa (o':=1) xy rfl vM rfl rfl rfl) (sh rfl (qd 0 xf rfl rfl rfl) (sp rfl (g_ixI vQ xj ha rfl rfl (by omega) (by omega)) (sh rfl (qK xV hxA rfl rfl) (sp rfl (zc rfl rfl) (sp rfl (qa (o':=2) xy rfl xj rfl rfl rfl) ?_))))))));refine sb rfl (qf 0 hS xj rfl rfl rfl (vs:=[.int .u8 _]) rfl rfl rfl (vJ rfl) (cs':=[_,_,_]) rfl) ?_;rintro _ w_5⟨rfl,hS⟩;refine⟨_,_,hS,sn (vS (⟨_,rfl,⟨rfl,rfl,rfl,rfl,rfl,rfl,trivial⟩,?_,hbd⟩))⟩;rw[ht];exact hS.sel [true,true]
    ·
     intro hc19
     try simp only[zA,zO,zN,zI,zF,zM,zT,zU]at hc19
     have hso:s.old=false:=hc19;have hbd:badT lo.length s=false:=by unfold badT; rw[hso]; rfl
     have ht:=yO (a:=lo) hso;refine vT (vS (⟨_,rfl,⟨rfl,rfl,rfl,rfl,rfl,rfl,trivial⟩,?_,hbd⟩));rw[ht];exact hS.sel [true,true]
   ·
    rintro σ w⟨hs,hS,hbd⟩;rw[← qk hs];refine reg (qq hS (qb _) (qq hS (qa (o':=2) xy rfl xj rfl rfl rfl) (qq hS (qd 0 xV rfl rfl rfl) ?_)));refine qe (d_lit (vs:=[.int .u8 _]) (cs:=[.int .u8 _]) hS vQ xj uX rfl rfl rfl rfl (fun v hv=>by simp only[vU,vX,or_false]at hv; subst hv; rfl) rfl) ?_;clear hS;rintro _ w_6⟨b_6,rfl,hS⟩;refine qe (qH 2 0 hS rfl vQ uM rfl rfl rfl rfl rfl rfl rfl rfl (by omega) (by omega)) ?_;clear hS;rintro _ w_7⟨a43,p43,rfl,hS⟩;refine qq hS (qc _) (qD (xZ (vS (reg (qq hS (g_add rfl rfl (by omega) (by omega)) (qq hS (Qmi rfl) ?_))))));refine⟨(k+1,a43,p43),_,rfl,⟨⟨rfl,rfl,rfl,rfl,rfl,trivial⟩,?_,by dsimp only; omega,kF hsi hbad hbd⟩,by dsimp only; omega⟩;dsimp only;rw[qw hsi,ud,ql,xX,List.map_nil,jg];exact hS.sel [false,false,true]
  ·
   intro hc15
   try simp only[zA,zO,zN,zI,zF,zM,zT,zU]at hc15
   have hk:k=l.length:=by omega
   subst hk;rw[xM]at hS hbad;have e:=runP_good hbad;refine xB (xx (xx (ug (vS (QwR (qq hS (qb _) (qq hS (qc _) (qq hS (Qai rfl) (QoN (vW (ret2 results32 (qh rfl) (qh (v:=.int .i64 _) rfl) ?_)))))))))));obtain⟨I1,hE1,hI1,hd1⟩:=jB qx (xs:=l.map (runB lo)) (hS.sel [true]) (by simp);have hlm:(l.map (runB lo)).length=l.length:=xP _;have hl1:(runP lo l).1.length=l.length:=by rw[e]; exact hlm
   rw[hl1];exact⟨I1,a,c,by rw[e]; rfl,hE1,by rw[e]; exact hd1⟩
set_option maxHeartbeats 1000000 in
theorem input_c (ad : Option Addr) (cap : Nat) (b : List Int) (n : Nat) (w0 : World) (I0 : Imm) (hI : Sat I0 w0) (hl : RBytes I0 (.slice ad b.length cap) b) (hb : ∀ y ∈ b, 0 ≤ y ∧ y ≤ 255) (hn : n ≤ 65536) :
 Ctr prog 21 [.slice ad b.length cap,.int .i64 n] w0 (fun v w'=>∃I' a c,v = .slice a n c∧Ext w0 I0 w' I'∧RBytes I' (.slice a n c) (inputP b n)):=by
 have hll:=RSl.le hl;simp only[maxLen]at hll;refine fn (n:=30) func21 rfl rfl rfl ?_;have hS:=St.start hI;refine QwR (qq hS (qc _) (QoR (qe (jw hS vQ xj) ?_)));clear hS;rintro _ w_1⟨hS,b8_,rfl⟩;refine qq hS (qc _) (QoN (vL (QwR (qq hS (Qai rfl) (QoN (xa (loop (fun(x:Nat×Option Addr×Nat) σ w=>okS σ [(0,.slice ad b.length cap),(1,.int .i64 n),(5,.slice x.2.1 x.1 x.2.2),(6,.int .i64 x.1)]∧St [] w0 I0 I0 w [.row (.slice x.2.1 x.1 x.2.2) 5 1 x.1 (flat byteC (inputP b x.1))]∧x.1≤n) (fun x=>n - x.1) ((0,some ⟨b8_,0,none⟩,0)) ?_ ?_)))))))
 ·
  exact⟨⟨rfl,rfl,rfl,rfl,trivial⟩,hS.sel [true],by simp⟩
 ·
  rintro⟨k,a,c⟩σ w_l⟨hs,hS,hk0⟩;dsimp only at hs hS hk0 ⊢;rw[← qk hs]; clear hs
  refine vL (QwR (qq hS (Qmi rfl) (qq hS (Qmi rfl) (qq hS (g_lss rfl rfl) (QoN (qi rfl ?_ ?_))))))
  ·
   intro hc11
   try simp only[zA,zO,zN,zI,zF,zM,zT,zU]at hc11
   refine vT (vS (vL (xa (QwR (qq hS (Qmi rfl) (qq hS (g_mul rfl rfl (by omega) (by omega)) (qq hS (yq ui xH rfl) (qq hS (qs (v:=.int .u8 _) rfl) (QoN (meet (fun σ w=>okS σ [(0,.slice ad b.length cap),(1,.int .i64 n),(5,.slice a k c),(6,.int .i64 k),(7,.int .u8 (inputB b k))]∧St [] w0 I0 I0 w [.row (.slice a k c) 5 1 k (flat byteC (inputP b k))]) ?_ ?_))))))))))
   ·
    refine QwR (qq hS (Qmi rfl) (qq hS (qb _) (qq hS (qr rfl vQ hl rfl) (qq hS (g_lss rfl rfl) (QoN (qi rfl ?_ ?_))))))
    ·
     intro hc20
     try simp only[zA,zO,zN,zI,zF,zM,zT,zU]at hc20
     obtain⟨y,hyi⟩:∃y,b[k]? = some y:=⟨_,vK (by omega)⟩
     have hyA:=hl.at hyi;have ht:inputB b k=y:=by unfold inputB; rw[vR (by omega),xb,hyi]; rfl
     refine reg (qq hS (qb _) (qq hS (Qmi rfl) (qq hS (g_ixI vQ xj hl rfl rfl (by omega) (by omega)) (qq hS (qK xV hyA rfl rfl) (qq hS (qs (v:=.int .u8 _) rfl) (QoN ?_))))));exact⟨_,rfl,⟨rfl,rfl,rfl,rfl,by rw[ht]; rfl,trivial⟩,hS.sel [true]⟩
    ·
     intro hc20
     try simp only[zA,zO,zN,zI,zF,zM,zT,zU]at hc20
     have ht:inputB b k=IntKind.u8.wrap (7*(k:Int)):=vO (by omega);refine vT (vS ?_);exact⟨_,rfl,⟨rfl,rfl,rfl,rfl,by rw[ht]; rfl,trivial⟩,hS.sel [true]⟩
   ·
    rintro σ w⟨hs,hS⟩;rw[← qk hs];refine reg (qq hS (qb _) (qq hS (qt (v:=.int .u8 _) rfl) ?_));refine qe (d_lit (vs:=[.int .u8 _]) (cs:=[.int .u8 _]) hS vQ xj uX rfl rfl rfl rfl (fun v hv=>by simp only[vU,vX,or_false]at hv; subst hv; rfl) rfl) ?_;clear hS;rintro _ w_2⟨b_2,rfl,hS⟩;refine qe (qH 1 0 hS rfl vQ uM rfl rfl rfl rfl rfl rfl rfl rfl (by omega) (by omega)) ?_;clear hS;rintro _ w_3⟨a28,p28,rfl,hS⟩;refine qq hS (qc _) (qD (xZ (vS (reg (qq hS (Qmi rfl) (qq hS (g_add rfl rfl (by omega) (by omega)) (qq hS (Qai rfl) ?_)))))));refine⟨(k+1,a28,p28),_,rfl,⟨⟨rfl,rfl,rfl,rfl,trivial⟩,?_,by dsimp only; omega⟩,by dsimp only; omega⟩;dsimp only;rw[show inputP b (k+1)=inputP b k++[inputB b k] by unfold inputP; rw[List.range_succ,ud]; rfl,ql,jg];exact hS.sel [false,true]
  ·
   intro hc11
   try simp only[zA,zO,zN,zI,zF,zM,zT,zU]at hc11
   have hk:k=n:=by omega
   subst hk;refine xB (xx (xx (ug (vS (QwR (qq hS (qb _) (qq hS (qc _) (QoN (vW (ret1 results21 (qh rfl) ?_))))))))));obtain⟨I1,hE1,hI1,hd1⟩:=jB qx (xs:=inputP b k) (hS.sel [true]) (zD b k).symm;exact⟨I1,a,c,rfl,hE1,hd1⟩
theorem sameB_c (va vb : Value) (a b : List Int) (w0 : World) (I0 : Imm) (hI : Sat I0 w0) (ha : RBytes I0 va a) (hb : RBytes I0 vb b) :
 Ctr prog 11 [va,vb] w0 (fun v w'=>v = .bool (decide (a=b))∧Ext w0 I0 w' I0):=by
 have hla:=RSl.le ha;have hlb:=RSl.le hb;simp only[maxLen]at hla hlb;refine fn (n:=26) func11 rfl rfl rfl ?_;have hS:=St.start hI;refine QwR (qq hS (Qab rfl) (QoN (vL (QwR (qq hS (qb _) (qq hS (qr rfl vQ ha rfl) (qq hS (qb _) (qq hS (qr rfl vQ hb rfl) (qq hS (g_neq rfl rfl) (QoN (qi rfl ?_ ?_)))))))))))
 ·
  intro hc10
  try simp only[zA,zO,zN,zI,zF,zM,zT,zU]at hc10
  have e:decide (a=b)=false:=um (fun h=>by rw[h]at hc10; exact hc10 rfl);refine QwR (qq hS (Qab rfl) (QoN (vW (xQ (ret1 results11 (qh (v:=.bool _) rfl) ?_)))));rw[e]; exact⟨rfl,hS.nil⟩
 ·
  intro hc10
  try simp only[zA,zO,zN,zI,zF,zM,zT,zU]at hc10
  have hlen:a.length=b.length:=by omega
  refine vT (vS (vL (QwR (qq hS (Qai rfl) (QoN (xa (loop (fun(k:Nat) σ w=>okS σ [(0,va),(1,vb),(5,.int .i64 k)]∧St [] w0 I0 I0 w []∧k≤a.length∧a.take k=b.take k) (fun k=>a.length - k) (0) ?_ ?_)))))))
  ·
   exact⟨⟨rfl,rfl,rfl,trivial⟩,hS.sel [],by omega,by simp⟩
  ·
   rintro k σ w_l⟨hs,hS,hk0,heq⟩;rw[← qk hs]; clear hs
   refine vL (QwR (qq hS (Qmi rfl) (qq hS (qb _) (qq hS (qr rfl vQ ha rfl) (qq hS (g_lss rfl rfl) (QoN (qi rfl ?_ ?_)))))))
   ·
    intro hc14
    try simp only[zA,zO,zN,zI,zF,zM,zT,zU]at hc14
    obtain⟨x,hxi⟩:∃x,a[k]? = some x:=⟨_,vK (by omega)⟩
    obtain⟨y,hyi⟩:∃y,b[k]? = some y:=⟨_,vK (by omega)⟩
    have hxA:=ha.at hxi;have hyA:=hb.at hyi;refine vT (vS (vL (xa (vL (draw (.cons 0 .pure (.cons 1 .pure (.cons 2 .pure (.cons 3 .held (.cons 4 .pure (.cons 5 .pure (.cons 6 .pure (.cons 7 .held (.cons 8 .pure .nil))))))))) mixed (by kernel_rfl) hS ?_)))));intro w_1 hS;refine sp rfl (qb _) (sp rfl (Qmi rfl) (sp rfl (g_ixI vQ xj ha rfl rfl (by omega) (by omega)) (sh rfl (qK xV hxA rfl rfl) (sp rfl (qb _) (sp rfl (Qmi rfl) (sp rfl (g_ixI vQ xj hb rfl rfl (by omega) (by omega)) (sh rfl (qK xV hyA rfl rfl) (sp rfl (g_neq rfl rfl) (sn (vS (qi rfl ?_ ?_)))))))))))
    ·
     intro hc25
     try simp only[zA,zO,zN,zI,zF,zM,zT,zU]at hc25
     have e:decide (a=b)=false:=um (fun h=>by rw[h,hyi]at hxi; exact hc25 (Option.some.inj hxi).symm);refine QwR (qq hS (Qab rfl) (QoN (vW (uW (xQ (xQ (uW (xQ (ret1 results11 (qh (v:=.bool _) rfl) ?_)))))))));rw[e]; exact⟨rfl,hS.nil⟩
    ·
     intro hc25
     try simp only[zA,zO,zN,zI,zF,zM,zT,zU]at hc25
     have hnext:a.take (k+1)=b.take (k+1):=by rw[qw hxi,qw hyi,heq,hc25]
     refine vT (xZ (vS (reg (qq hS (Qmi rfl) (qq hS (g_add rfl rfl (by omega) (by omega)) (qq hS (Qai rfl) ?_))))));exact⟨k+1,_,rfl,⟨⟨rfl,rfl,rfl,trivial⟩,hS.sel [],by omega,hnext⟩,by omega⟩
   ·
    intro hc14
    try simp only[zA,zO,zN,zI,zF,zM,zT,zU]at hc14
    have e:decide (a=b)=true:=uL (by
     have:=heq;rwa [ub (by omega),ub (by omega)]at this)
    refine xB (xx (xx (ug (vS (QwR (qq hS (Qab rfl) (QoN (vW (ret1 results11 (qh (v:=.bool _) rfl) ?_)))))))));rw[e]; exact⟨rfl,hS.nil⟩
end Go.Proofs.YtgkgihnpjgbmhaaGreatDoor
namespace Go.Proofs.YtgkgihnpjgbmhaaGreatDoor
open Tryz
open Go Go.RowKit Go.Inl
structure ChS where
 k:Nat
 css:List (List Value)
 a:Option Addr
 c:Nat
theorem chainP_nil {l:List RawL}{n:Nat}(h:chainL l n=[]):chainP l n=[wholeP 3]:=by unfold chainP; rw[vR h]
theorem chainP_cons {l:List RawL}{n:Nat}(h:chainL l n≠[]):chainP l n=chainL l n:=by unfold chainP; rw[vO h]
set_option maxHeartbeats 1000000 in
theorem chain_c (ad : Option Addr) (cap : Nat) (l : List RawL) (n : Nat) (w0 : World) (I0 : Imm) (hI : Sat I0 w0) (hl : RRaws I0 (.slice ad l.length cap) l) (hw : ∀ x ∈ l, x.wf) (hn : n ≤ 4) :
 Ctr prog 20 [.slice ad l.length cap,.int .i64 n] w0 (fun v w'=>∃I' a c,v = .slice a (chainP l n).length c∧Ext w0 I0 w' I'∧RPats I' (.slice a (chainP l n).length c) (chainP l n)):=by
 have hll:=RSl.le hl;simp only[maxLen]at hll;refine fn (n:=49) func20 rfl rfl rfl ?_;have hS:=St.start hI;refine QwR (qq hS (qc _) (QoR (qe (jw hS ue vY) ?_)));clear hS;rintro _ w_1⟨hS,b7_,rfl⟩;refine qq hS (qc _) (QoN (vL (QwR (qq hS (Qai rfl) (QoN (xa (loop (fun(x:ChS) σ w=>okS σ [(0,.slice ad l.length cap),(1,.int .i64 n),(5,.slice x.a x.k x.c),(6,.int .i64 x.k)]∧∃I,St [] w0 I0 I w [.row (.slice x.a x.k x.c) 26 4 x.k x.css.flatten]∧x.k≤l.length∧x.k≤n∧All2 (RPatC I) x.css (chainF ((l.headD ⟨0,[]⟩).r % 13) (l.take x.k))∧(∀cs∈x.css,cs.length=4)) (fun x=>l.length - x.k) (⟨0,[],some ⟨b7_,0,none⟩,0⟩) ?_ ?_)))))))
 ·
  exact⟨⟨rfl,rfl,rfl,rfl,trivial⟩,_,hS.sel [true],by simp,by simp,All2.nil _,by simp⟩
 ·
  rintro⟨k,css,a,c⟩σ w_l⟨hs,I,hS,hk0,hkn,hall,hcl4⟩;dsimp only at hs hS hk0 hkn hall hcl4 ⊢;rw[← qk hs]; clear hs
  refine vL (QwR (qq hS (Qmi rfl) (qq hS (qb _) (qq hS (qr rfl Qz hl rfl) (qq hS (g_lss rfl rfl) (qq hS (Qmb rfl) (qu rfl rfl hS (fun hg=>(Qmi rfl)) ?_)))))));intro u13 hu13 hn13;refine qu rfl rfl hS (fun hg=>(Qmi rfl)) ?_;intro u14 hu14 hn14;refine qu rfl rfl hS (fun hg=>(g_lss (hu13 hg) (hu14 hg))) ?_;intro u15 hu15 hn15;refine qq hS (g_and rfl rfl (fun hq=>hu15 hq)) (QoN (qi rfl ?_ ?_))
  ·
   intro hc16;clear hu13 hn13 hu14 hn14 hu15 hn15;simp only[xw,Bool.and_eq_false_iff,xe,xd]at hc16;obtain⟨x,hxi⟩:∃x,l[k]? = some x:=⟨_,vK (by omega)⟩
   obtain⟨cs,hcs4,hxA,hxc⟩:=RSl.at (hl.mono hS.ext) hxi;obtain⟨adx,capx,rfl,hxl⟩:=hxc;have hxw:=hw x (vP hxi);have hlenk:(chainF ((l.headD ⟨0,[]⟩).r % 13) (l.take k)).length=k:=by rw[jL,xi]; omega
   have hsn:=chainF_snoc x (l.take k) ((l.headD ⟨0,[]⟩).r % 13);rw[← qw hxi]at hsn;refine vT (vS (vL (xa (QwR (qq hS (Qmi rfl) (qq hS (g_eql rfl rfl) (QoN (qi rfl ?_ ?_))))))))
   ·
    intro hc20
    try simp only[zA,zO,zN,zI,zF,zM,zT,zU]at hc20
    have hk:k=0:=by omega
    subst hk;have hr0:lastO ((l.headD ⟨0,[]⟩).r % 13) (chainF ((l.headD ⟨0,[]⟩).r % 13) (l.take 0))=x.r % 13:=by
     rw[List.take_zero];show(l.headD ⟨0,[]⟩).r % 13=_
     rw[List.headD_eq_head?_getD,List.head?_eq_getElem?,hxi]; rfl
    rw[hr0]at hsn;refine reg (qq hS (qb _) (qq hS (qb _) (qq hS (Qmi rfl) (qq hS (g_ixI Qz QC hl rfl rfl (by omega) (by omega)) (qq hS (g_ldE (us:=[.int .u8 _,.slice _ _ _]) QC isAgg109 hxA rfl rfl rfl) (qe (qg call51 rfl (made_c x.r adx capx x.l _ _ hS.imm hxl hxw.l hxw.r.1 hxw.r.2)) ?_))))));rintro _ w_2⟨I2,a2,m2,c2,rfl,hE,h2⟩;replace hS:=hS.callE hE;have hPat:RPatC I2 [.bool (madeP x.l (x.r % 13)).lifted,.int .i64 (madeP x.l (x.r % 13)).in_,.int .i64 (madeP x.l (x.r % 13)).out,.slice a2 m2 c2] (madeP x.l (x.r % 13)):=⟨a2,m2,c2,rfl,h2⟩
    refine qe (d_lit (vs:=[.agg #[.bool _,.int .i64 _,.int .i64 _,.slice _ _ _]]) (cs:=[.bool _,.int .i64 _,.int .i64 _,.slice _ _ _]) hS ue vY xt rfl rfl rfl rfl (fun v hv=>by simp only[vU,vX,or_false]at hv; subst hv; rfl) rfl) ?_;clear hS;rintro _ w_3⟨b_3,rfl,hS⟩;refine qe (qH 1 0 hS rfl ue info26 rfl rfl rfl rfl rfl rfl rfl rfl (by omega) (by omega)) ?_;clear hS;rintro _ w_4⟨a28,p28,rfl,hS⟩;refine qq hS (qc _) (qD (xZ (vS (reg (qq hS (Qmi rfl) (qq hS (g_add rfl rfl (by omega) (by omega)) (qq hS (Qai rfl) ?_)))))))
    first
     | (refine ⟨⟨0 + 1, css ++ [[.bool (madeP x.l (x.r % 13)).lifted, .int .i64 (madeP x.l (x.r % 13)).in_, .int .i64 (madeP x.l (x.r % 13)).out, .slice a2 m2 c2]], a28, p28⟩, _, rfl, ⟨⟨rfl, rfl, rfl, rfl, trivial⟩, I2, ?_, by dsimp only; omega, by dsimp only; omega, ?_, ?_⟩, by dsimp only; omega⟩
        · dsimp only
          rw[ux,List.flatten_singleton];exact hS.sel [false,true]
        · dsimp only
          rw[hsn];exact All2.snoc (hall.mono fun _ _ h=>h.mono hE.ext) ⟨_,_,_,rfl,h2⟩
        · intro cs hcs
          rcases xD.1 hcs with h | h
          · exact hcl4 cs h
          · simp only[xr]at h; subst h; rfl)
     | (refine ⟨⟨k + 1, css ++ [[.bool (madeP x.l pv.out).lifted, .int .i64 (madeP x.l pv.out).in_, .int .i64 (madeP x.l pv.out).out, .slice a2 m2 c2]], a42, p42⟩, _, rfl, ⟨⟨rfl, rfl, rfl, rfl, trivial⟩, I2, ?_, by dsimp only; omega, by dsimp only; omega, ?_, ?_⟩, by dsimp only; omega⟩
        · dsimp only
          rw[ux,List.flatten_singleton];exact hS.sel [false,true]
        · dsimp only
          rw[hsn];exact All2.snoc (hall.mono fun _ _ h=>h.mono hE.ext) ⟨_,_,_,rfl,h2⟩
        · intro cs hcs
          rcases xD.1 hcs with h | h
          · exact hcl4 cs h
          · simp only[xr]at h; subst h; rfl)
   ·
    intro hc20
    try simp only[zA,zO,zN,zI,zF,zM,zT,zU]at hc20
    obtain⟨pv,hpvi⟩:∃p,(chainF ((l.headD ⟨0,[]⟩).r % 13) (l.take k))[k - 1]? = some p:=⟨_,vK (by omega)⟩
    obtain⟨csk,hcsk0⟩:∃c,css[k - 1]? = some c:=⟨_,vK (by rw[hall.1]; omega)⟩
    obtain⟨adp,mq,cq,rfl,_⟩:=hall.2 _ _ _ hcsk0 hpvi;have hcsk:css[((k:Int) - 1).toNat]? = some [.bool pv.lifted,.int .i64 pv.in_,.int .i64 pv.out,.slice adp mq cq]:=by rw[show((k:Int) - 1).toNat=k - 1 by omega]; exact hcsk0
    have hr0:lastO ((l.headD ⟨0,[]⟩).r % 13) (chainF ((l.headD ⟨0,[]⟩).r % 13) (l.take k))=pv.out:=lastO_get _ _ (k - 1) pv (by omega) hpvi;rw[hr0]at hsn;have hpv:0≤pv.out∧pv.out≤65536:=by
     obtain⟨h1,h2⟩:=yv (l.take k) ((l.headD ⟨0,[]⟩).r % 13) (by omega) (fun x hx=>hw x (List.mem_of_mem_take hx));have:=(h2 pv (vP hpvi)).2;omega
    refine draw (.cons 0 .pure (.cons 1 .pure (.cons 2 .pure (.cons 3 .pure (.cons 4 .held (.cons 5 .pure (.cons 6 .pure (.cons 7 .pure (.cons 8 .held (.cons 9 .pure (.cons 10 .held (.cons 11 .eff (.cons 12 .eff (.cons 13 .bar (.cons 14 .pure .nil))))))))))))))) mixed (by kernel_rfl) hS ?_;intro w_5 hS;refine sp rfl (qb _) (sp rfl (qb _) (sp rfl (Qmi rfl) (sp rfl (g_ixI Qz QC hl rfl rfl (by omega) (by omega)) (sh rfl (g_ldE (us:=[.int .u8 _,.slice _ _ _]) QC isAgg109 hxA rfl rfl rfl) (sp rfl (qb _) (sp rfl (Qmi rfl) (sp rfl (g_sub rfl rfl (by omega) (by omega)) (sh rfl (g_ixR 0 ue vY rfl rfl rfl (by omega) (by omega)) ?_))))))));refine sp rfl (qy (c':=2) vZ rfl vM rfl rfl rfl) (sh rfl (qX 0 xf rfl rfl (jS css hcl4 _ _ hcsk 2 _ rfl)) ?_);have hS0:=hS;refine se rfl (qg call52 rfl (sized_c x.r adx capx x.l pv.out _ _ hS.imm hxl hxw.l hpv.1 hpv.2)) ?_;rintro _ w_6⟨I2,a2,m2,c2,rfl,hE,h2⟩;replace hS:=hS.call hE;refine⟨_,_,hS0.le hE.ext (uh _),hS,?_⟩;have hS0:=hS;refine se rfl (d_lit (vs:=[.agg #[.bool _,.int .i64 _,.int .i64 _,.slice _ _ _]]) (cs:=[.bool _,.int .i64 _,.int .i64 _,.slice _ _ _]) hS ue vY xt rfl rfl rfl rfl (fun v hv=>by simp only[vU,vX,or_false]at hv; subst hv; rfl) rfl) ?_;rintro _ w_7⟨b_7,rfl,hS⟩;refine⟨_,_,hS0.le (Sub.refl _) (ua _ _),hS,sb rfl (qH 1 0 hS rfl ue info26 rfl rfl rfl rfl rfl rfl rfl rfl (by omega) (by omega)) ?_⟩;rintro _ w_8⟨a42,p42,rfl,hS⟩;refine⟨_,_,hS,sp rfl (qc _) (sn (xZ (vS (reg (qq hS (Qmi rfl) (qq hS (g_add rfl rfl (by omega) (by omega)) (qq hS (Qai rfl) ?_)))))))⟩
    first
     | (refine ⟨⟨0 + 1, css ++ [[.bool (madeP x.l (x.r % 13)).lifted, .int .i64 (madeP x.l (x.r % 13)).in_, .int .i64 (madeP x.l (x.r % 13)).out, .slice a2 m2 c2]], a28, p28⟩, _, rfl, ⟨⟨rfl, rfl, rfl, rfl, trivial⟩, I2, ?_, by dsimp only; omega, by dsimp only; omega, ?_, ?_⟩, by dsimp only; omega⟩
        · dsimp only
          rw[ux,List.flatten_singleton];exact hS.sel [false,true]
        · dsimp only
          rw[hsn];exact All2.snoc (hall.mono fun _ _ h=>h.mono hE.ext) ⟨_,_,_,rfl,h2⟩
        · intro cs hcs
          rcases xD.1 hcs with h | h
          · exact hcl4 cs h
          · simp only[xr]at h; subst h; rfl)
     | (refine ⟨⟨k + 1, css ++ [[.bool (madeP x.l pv.out).lifted, .int .i64 (madeP x.l pv.out).in_, .int .i64 (madeP x.l pv.out).out, .slice a2 m2 c2]], a42, p42⟩, _, rfl, ⟨⟨rfl, rfl, rfl, rfl, trivial⟩, I2, ?_, by dsimp only; omega, by dsimp only; omega, ?_, ?_⟩, by dsimp only; omega⟩
        · dsimp only
          rw[ux,List.flatten_singleton];exact hS.sel [false,true]
        · dsimp only
          rw[hsn];exact All2.snoc (hall.mono fun _ _ h=>h.mono hE.ext) ⟨_,_,_,rfl,h2⟩
        · intro cs hcs
          rcases xD.1 hcs with h | h
          · exact hcl4 cs h
          · simp only[xr]at h; subst h; rfl)
  ·
   intro hc16;clear hu13 hn13 hu14 hn14 hu15 hn15;simp only[xw,Bool.and_eq_false_iff,xe,xd]at hc16;have htk:l.take n=l.take k:=by
    by_cases h:k=n
    · rw[h]
    · rw[ub (by omega),ub (by omega)]
   have hCL:chainL l n=(chainF ((l.headD ⟨0,[]⟩).r % 13) (l.take k)):=by unfold chainL; rw[htk]
   have hlenk:(chainF ((l.headD ⟨0,[]⟩).r % 13) (l.take k)).length=k:=by rw[jL,xi]; omega
   refine xB (xx (xx (ug (vS (vL (QwR (qq hS (qb _) (qq hS (yp 0 rfl ue rfl rfl) (qq hS (g_eql rfl rfl) (QoN (qi rfl ?_ ?_)))))))))))
   ·
    intro hc45
    try simp only[zA,zO,zN,zI,zF,zM,zT,zU]at hc45
    have e:=chainP_nil (l:=l) (n:=n) (by rw[hCL]; exact uq.1 (by omega));refine QwR (qe (qg call53 rfl (refWhole_c 3 _ _ hS.imm (by decide))) ?_);rintro _ w_9⟨I_f,a46,m46,c46,rfl,hE,h46⟩;replace hS:=hS.callE hE;refine qe (d_lit (vs:=[.agg #[.bool _,.int .i64 _,.int .i64 _,.slice _ _ _]]) (cs:=[.bool _,.int .i64 _,.int .i64 _,.slice _ _ _]) hS ue vY xt rfl rfl rfl rfl (fun v hv=>by simp only[vU,vX,or_false]at hv; subst hv; rfl) rfl) ?_;clear hS;rintro _ w_10⟨b47,rfl,hS⟩;have hF:=hS.freeze1;clear hS;obtain⟨I47,hS,hI47,hb47⟩:=hF;replace h46:=h46.mono hI47;have h47:RPats _ (.slice (some ⟨b47,0,none⟩) 1 1) [wholeP 3]:=RSl.ofAt (css:=[[.bool (wholeP 3).lifted,.int .i64 (wholeP 3).in_,.int .i64 (wholeP 3).out,.slice a46 m46 c46]]) hb47 rfl (by simp) (All2.one ⟨_,_,_,rfl,h46⟩) rfl (by show 1≤maxLen; decide);refine qq hS (qc _) (QoN (vW (xQ (ret1 results20 (qh rfl) ?_))));rw[e]; exact⟨_,_,1,rfl,hS.nil,h47⟩
   ·
    intro hc45
    try simp only[zA,zO,zN,zI,zF,zM,zT,zU]at hc45
    have e:=chainP_cons (l:=l) (n:=n) (by rw[hCL]; intro h; rw[h]at hlenk; simp at hlenk; omega);rw[hCL]at e;refine vT (vS (QwR (qq hS (qb _) (qq hS (qc _) (QoN (vW (ret1 results20 (qh rfl) ?_)))))));obtain⟨I3,hS3,hI3,ho3⟩:=St.freezeRowR (hS.sel [true]) (xs:=(chainF ((l.headD ⟨0,[]⟩).r % 13) (l.take k))) hlenk.symm hcl4 hall;rw[e,hlenk];exact⟨I3,a,c,rfl,hS3,RSl.mono ho3 (Sub.refl _) fun _ _ h=>h.mono hI3⟩
end Go.Proofs.YtgkgihnpjgbmhaaGreatDoor
