/- compose.Through, Compose, fold, All: what they compute. Conditions: numbers within bounds. compose.Compose, fold, All, and those of inlayref09: what they compute. Conditions: numbers within bounds. compose.fold, All, inlayref09.All: what they compute. Conditions: numbers within bounds. Whole, Chain, Run, Input, Same: what they compute. Conditions: numbers within bounds. inlayref09.Chain: what it computes. Conditions: numbers within bounds. -/
import Derived.Test.YtcajgkfgjpfmaaaGreatKSmall
import Derived.Test.YtcajgkfgjpfmaaaGreatKLaw
import Derived.Test.YtcajgkfgjpfmaaaGreatPats
import Derived.Test.YtcajgkfgjpfmaaaGreatKSpec
import Derived.Test.YtcajgkfgjpfmaaaGreatRef8
import Derived.Test.YtcajgkfgjpfmaaaGreatKCut
set_option linter.unusedSimpArgs false
set_option linter.unusedVariables false
namespace Go.Proofs.YtcajgkfgjpfmaaaGreat
open Tryz
open Go Go.RowKit Go.Inl
theorem thr_lit' {a:List Sym}{s:Sym}(h:s.old=false):symC (thr a s)=[.bool false,.int .i64 0,.int .u8 s.b]:=by rw[yf h]; rfl
theorem thr_old' {a:List Sym}{s x:Sym}(h:s.old=true)(hx:a[s.at_.toNat]? = some x):symC (thr a s)=[.bool x.old,.int .i64 x.at_,.int .u8 (IntKind.u8.wrap (x.b+s.b))]:=by
 rw[zH h];have e:a.getD s.at_.toNat z0=x:=by rw[uh,hx]; rfl
 rw[e]; rfl
theorem throughP_bad {a b:List Sym}{s:Sym}(hs:s∈b)(h:badT a.length s=true):throughP a b=([],61):=by
 unfold throughP; rw[ui (List.any_eq_true.2 ⟨s,hs,h⟩)]
theorem throughP_good {a b:List Sym}(h:∀s∈b,badT a.length s=false):throughP a b=(b.map (thr a),0):=by
 unfold throughP;rw[ud];intro hb;obtain⟨s,hs,h1⟩:=List.any_eq_true.1 hb;rw[h s hs]at h1; cases h1
theorem vi {a b:List Sym}(ha:∀s∈a,s.wf)(hb:∀s∈b,s.wf):∀s∈(throughP a b).1,s.wf:=by
 unfold throughP;split
 · simp
 · exact thrL_wf ha hb
theorem yp {p q:PatL}(hp:p.wf)(hq:q.wf):(composeP p q).1.wf:=by
 unfold composeP;split
 · exact kP
 · split
   · exact kP
   · split
     · exact kP
     · split
       · exact kP
       · split
         · exact kP
         · split
           · exact kP
           · have h := cheapP_wf (n := p.in_) (vi (jy hp) (jy hq))
             exact⟨h.in_,h.out,h.ops,h.len⟩
set_option maxHeartbeats 1000000 in
theorem through_c (ad bd : Option Addr) (cap capb : Nat) (la lb : List Sym) (w0 : World) (I0 : Imm) (hI : Sat I0 w0) (ha : RSyms I0 (.slice ad la.length cap) la) (hb : RSyms I0 (.slice bd lb.length capb) lb) (hwb : ∀ s ∈ lb, s.wf) (hn : lb.length ≤ 65536) :
 Ctr prog 176 [.slice ad la.length cap,.slice bd lb.length capb] w0 (fun v w'=>∃I' a c,v = .tuple #[.slice a (throughP la lb).1.length c,.int .i64 (throughP la lb).2]∧Ext w0 I0 w' I'∧RSyms I' (.slice a (throughP la lb).1.length c) (throughP la lb).1):=by
 have hll:=RSl.le hb;have hlla:=RSl.le ha;simp only[maxLen]at hll hlla;refine fn (n:=55) func176 rfl rfl rfl ?_;have hS:=St.start hI;refine QwR (qq hS (qy _) (qq hS (Qai rfl) (QoR (qq hS (qk _) (qq hS (qz rfl uG hb rfl) (qe (i_make0 hS uG info122 rfl rfl (by omega) (by omega) (by omega)) ?_))))));clear hS;rintro _ w_1⟨a12,p12,rfl,hS⟩;refine qq hS (qy _) (QoN (xL (QwR (qq hS (qk _) (qq hS (qz rfl uG hb rfl) (qq hS (Qmi rfl) (QoN (uk (loop (fun(x:Nat×Option Addr×Nat) σ w=>okS σ [(0,.slice ad la.length cap),(6,.slice x.2.1 x.1 x.2.2),(13,.slice bd lb.length capb),(14,.int .i64 lb.length),(15,.int .i64 x.1)]∧St [] w0 I0 I0 w [.row (.slice x.2.1 x.1 x.2.2) 122 3 x.1 (flat symC ((lb.take x.1).map (thr la)))]∧x.1≤lb.length∧∀s∈lb.take x.1,badT la.length s=false) (fun x=>lb.length - x.1) ((0,a12,p12)) ?_ ?_)))))))))
 ·
  exact⟨⟨rfl,rfl,rfl,rfl,rfl,trivial⟩,hS.sel [true],by simp,by simp⟩
 ·
  rintro⟨k,a,c⟩σ w_l⟨hs,hS,hk0,hbad⟩;dsimp only at hs hS hk0 hbad ⊢;rw[← qx hs]; clear hs
  refine QwR (qq hS (g_lss rfl rfl) (QoN (xL (qo rfl ?_ ?_))))
  ·
   intro hc16
   try simp only[zA,zO,zN,zI,zF,zM,zT,zU]at hc16
   obtain⟨s,hsi⟩:∃s,lb[k]? = some s:=⟨_,xW (by omega)⟩
   have hsA:=hb.at hsi;have hsm:=uf hsi;obtain⟨sw1,sw2,sw3,sw4⟩:=hwb s hsm;refine xZ (xN (xL (uk (QwR (qq hS (g_ixI uG uN hb rfl rfl (by omega) (by omega)) (qq hS (g_ldE (us:=[.bool _,.int .i64 _,.int .u8 _]) uN Jd hsA rfl rfl rfl) (qe (qw (cs:=[.bool _,.int .i64 _,.int .u8 _]) hS QM rfl) ?_)))))));clear hS;rintro _ w_2⟨b8,rfl,hS⟩;refine qe (qj 0 hS uN rfl rfl rfl (vs:=[.bool _,.int .i64 _,.int .u8 _]) rfl rfl rfl (xP rfl) (cs':=[_,_,_]) rfl) ?_;clear hS;rintro _ w_3⟨rfl,hS⟩;refine QoN (xL (QwR (qq hS (qb (o':=0) uB rfl uC rfl rfl rfl) (qq hS (qi 0 QG rfl rfl rfl) (qq hS (g_not rfl) (QoN (qo rfl ?_ ?_)))))))
   ·
    intro hc21
    try simp only[zA,zO,zN,zI,zF,zM,zT,zU]at hc21
    have hso:s.old=false:=hc21;have hbd:badT la.length s=false:=by unfold badT; rw[hso]; rfl
    have ht:=thr_lit' (a:=la) hso;refine QwR (qq hS (qk _) (qq hS (qb (o':=2) uB rfl uJ rfl rfl rfl) (qq hS (qi 0 Qp rfl rfl rfl) (qq hS (qv (pl:=[(0,1),(1,1),(2,1)]) (cs:=[.bool _,.int .i64 _,.int .u8 _]) QM uB (fun w=>by simp[xX,uC,uJ]) (mp (v:=.int .u8 _) rfl mp0) rfl) ?_))));refine qe (d_lit (vs:=[.agg #[.bool _,.int .i64 _,.int .u8 _]]) (cs:=[.bool _,.int .i64 _,.int .u8 _]) hS uG uN QM rfl rfl rfl rfl (fun v hv=>by simp only[uq,ur,or_false]at hv; subst hv; rfl) rfl) ?_;clear hS;rintro _ w_4⟨b_4,rfl,hS⟩;refine qe (qE 2 0 hS rfl uG info122 rfl rfl rfl rfl rfl rfl rfl rfl (by omega) (by omega)) ?_;clear hS;rintro _ w_5⟨a27,p27,rfl,hS⟩;refine qq hS (qy _) (QoN (uD (uA (Qw (xN (reg (qq hS (g_add rfl rfl (by omega) (by omega)) (qq hS (Qmi rfl) ?_))))))))
    first
     | (refine ⟨(k + 1, a27, p27), _, rfl, ⟨⟨rfl, rfl, rfl, rfl, rfl, trivial⟩, ?_, by dsimp only; omega, jX hsi hbad hbd⟩, by dsimp only; omega⟩
        dsimp only;rw[qL hsi,Qy,qB,QN,List.map_nil,jg,ht];exact hS.sel [false,false,true])
     | (refine ⟨(k + 1, a52, p52), _, rfl, ⟨⟨rfl, rfl, rfl, rfl, rfl, trivial⟩, ?_, by dsimp only; omega, jX hsi hbad hbd⟩, by dsimp only; omega⟩
        dsimp only;rw[qL hsi,Qy,qB,QN,List.map_nil,jg,ht];exact hS.sel [false,false,true])
   ·
    intro hc21
    try simp only[zA,zO,zN,zI,zF,zM,zT,zU]at hc21
    have hso:s.old=true:=hc21;refine xZ (xN (xL (QwR (qq hS (qb (o':=1) uB rfl xX rfl rfl rfl) (qq hS (qi 0 uj rfl rfl rfl) (qq hS (g_lss rfl rfl) (qq hS (Qmb rfl) (qu rfl rfl hS (fun hg=>(qb (o':=1) uB rfl xX rfl rfl rfl)) ?_))))))));intro u32 hu32 hn32;refine qu rfl rfl hS (fun hg=>(qi 0 uj rfl (hu32 hg) rfl)) ?_;intro u33 hu33 hn33;refine qu rfl rfl hS (fun hg=>(qk _)) ?_;intro u34 hu34 hn34;refine qu rfl rfl hS (fun hg=>(qz rfl uG ha (hu34 hg))) ?_;intro u35 hu35 hn35;refine qu rfl rfl hS (fun hg=>(g_geq (hu33 hg) (hu35 hg))) ?_;intro u36 hu36 hn36;refine qq hS (g_or rfl rfl (fun hq=>hu36 hq)) (QoN (qo rfl ?_ ?_))
    ·
     intro hc37;clear hu32 hn32 hu33 hn33 hu34 hn34 hu35 hn35 hu36 hn36;have hbd:badT la.length s=true:=by unfold badT; rw[hso,Bool.true_and]; exact hc37
     have e:=throughP_bad hsm hbd;refine QwR (qq hS (qy _) (qq hS (Qai rfl) (QoN (ub (uw (Qs (uw (uw (Qs (uw (ret2 results176 (qr rfl) (qr (v:=.int .i64 _) rfl) ?_)))))))))));rw[e]; exact⟨_,none,0,rfl,hS.nil,RSl.nilR⟩
    ·
     intro hc37;clear hu32 hn32 hu33 hn33 hu34 hn34 hu35 hn35 hu36 hn36;have hbd:badT la.length s=false:=by unfold badT; rw[hso,Bool.true_and]; exact hc37
     simp only[xR,xM]at hc37;have hin:s.at_.toNat < la.length:=by omega
     obtain⟨x,hxi⟩:∃x,la[s.at_.toNat]? = some x:=⟨_,xW hin⟩
     have hxA:=ha.at hxi;have ht:=thr_old' hso hxi;refine xZ (xN (QwR (qq hS (qk _) (qq hS (qb (o':=1) uB rfl xX rfl rfl rfl) (qq hS (qi 0 uj rfl rfl rfl) (qq hS (g_ixI uG uN ha rfl rfl (by omega) (by omega)) (qq hS (g_ldE (us:=[.bool _,.int .i64 _,.int .u8 _]) uN Jd hxA rfl rfl rfl) (qe (qw (cs:=[.bool _,.int .i64 _,.int .u8 _]) hS QM rfl) ?_))))))));clear hS;rintro _ w_6⟨b9,rfl,hS⟩;refine qe (qj 0 hS uN rfl rfl rfl (vs:=[.bool _,.int .i64 _,.int .u8 _]) rfl rfl rfl (xP rfl) (cs':=[_,_,_]) rfl) ?_;clear hS;rintro _ w_7⟨rfl,hS⟩;refine QoR (qq hS (qb (o':=2) uB rfl uJ rfl rfl rfl) (qq hS (qi 0 Qp rfl rfl rfl) (qq hS (qb (o':=2) uB rfl uJ rfl rfl rfl) (qq hS (qi 1 Qp rfl rfl rfl) (qq hS (g_addw rfl rfl) (qq hS (qb (o':=2) uB rfl uJ rfl rfl rfl) (qe (qj 0 hS uJ rfl rfl rfl (vs:=[.int .u8 _]) rfl rfl rfl (xP rfl) (cs':=[_,_,_]) rfl) ?_)))))));clear hS;rintro _ w_8⟨rfl,hS⟩;refine QoN (reg (qq hS (qk _) (qq hS (g_ldO 0 (vs:=[.bool _,.int .i64 _,.int .u8 _]) uN Jd rfl rfl rfl rfl) ?_)));refine qe (d_lit (vs:=[.agg #[.bool _,.int .i64 _,.int .u8 _]]) (cs:=[.bool _,.int .i64 _,.int .u8 _]) hS uG uN QM rfl rfl rfl rfl (fun v hv=>by simp only[uq,ur,or_false]at hv; subst hv; rfl) rfl) ?_;clear hS;rintro _ w_9⟨b_9,rfl,hS⟩;refine qe (qE 3 0 hS rfl uG info122 rfl rfl rfl rfl rfl rfl rfl rfl (by omega) (by omega)) ?_;clear hS;rintro _ w_10⟨a52,p52,rfl,hS⟩;refine qq hS (qy _) (qh (Qh (xN (reg (qq hS (g_add rfl rfl (by omega) (by omega)) (qq hS (Qmi rfl) ?_))))))
     first
      | (refine ⟨(k + 1, a27, p27), _, rfl, ⟨⟨rfl, rfl, rfl, rfl, rfl, trivial⟩, ?_, by dsimp only; omega, jX hsi hbad hbd⟩, by dsimp only; omega⟩
         dsimp only;rw[qL hsi,Qy,qB,QN,List.map_nil,jg,ht];exact hS.sel [false,false,false,true])
      | (refine ⟨(k + 1, a52, p52), _, rfl, ⟨⟨rfl, rfl, rfl, rfl, rfl, trivial⟩, ?_, by dsimp only; omega, jX hsi hbad hbd⟩, by dsimp only; omega⟩
         dsimp only;rw[qL hsi,Qy,qB,QN,List.map_nil,jg,ht];exact hS.sel [false,false,false,true])
  ·
   intro hc16
   try simp only[zA,zO,zN,zI,zF,zM,zT,zU]at hc16
   have hk:k=lb.length:=by omega
   subst hk;rw[Qq]at hS hbad;have e:=throughP_good hbad;refine uD (uA (uA (Qw (xN (QwR (qq hS (qk _) (qq hS (qy _) (qq hS (Qai rfl) (QoN (ub (ret2 results176 (qr rfl) (qr (v:=.int .i64 _) rfl) ?_)))))))))));obtain⟨I1,hE1,hI1,hd1⟩:=qS vk (xs:=lb.map (thr la)) (hS.sel [true]) (by simp);have hlm:(lb.map (thr la)).length=lb.length:=uR _;have hl1:(throughP la lb).1.length=lb.length:=by rw[e]; exact hlm
   rw[hl1];exact⟨I1,a,c,by rw[e]; rfl,hE1,by rw[e]; exact hd1⟩
end Go.Proofs.YtcajgkfgjpfmaaaGreat
namespace Go.Proofs.YtcajgkfgjpfmaaaGreat
open Tryz
open Go Go.RowKit Go.Inl
theorem vN (p : PatL) (ad : Option Addr) (m cap : Nat) (A : List Sym × Int) (w0 : World) (I0 : Imm) (hI : Sat I0 w0) (hops : ROps I0 (.slice ad m cap) p.ops) (hp : p.wf) (he : symbolsP p = A) :
 Ctr prog 70 [.agg #[.bool p.lifted,.int .i64 p.in_,.int .i64 p.out,.slice ad m cap]] w0 (fun v w'=>∃I' a c,v = .tuple #[.slice a A.1.length c,.int .i64 A.2]∧Ext w0 I0 w' I'∧RSyms I' (.slice a A.1.length c) A.1):=by
 subst he; exact symbols_c p ad m cap w0 I0 hI hops hp
theorem through_e (ad bd : Option Addr) (cap capb : Nat) (la lb : List Sym) (T : List Sym × Int) (w0 : World) (I0 : Imm) (hI : Sat I0 w0) (ha : RSyms I0 (.slice ad la.length cap) la) (hb : RSyms I0 (.slice bd lb.length capb) lb) (hwb : ∀ s ∈ lb, s.wf) (hn : lb.length ≤ 65536) (he : throughP la lb = T) :
 Ctr prog 176 [.slice ad la.length cap,.slice bd lb.length capb] w0 (fun v w'=>∃I' a c,v = .tuple #[.slice a T.1.length c,.int .i64 T.2]∧Ext w0 I0 w' I'∧RSyms I' (.slice a T.1.length c) T.1):=by
 subst he; exact through_c ad bd cap capb la lb w0 I0 hI ha hb hwb hn
theorem kT (p:PatL):(symbolsP p).1.length≤65536:=by
 unfold symbolsP;split
 · rename_i h
   obtain⟨h1,h2,h3,h4,h5,h6,h7⟩:=qP h;show(symsOf p.ops).length≤65536
   omega
 · simp
theorem cheap_zero {l:List Sym}{n:Int}(h:(cheapP l n).2≠0):(cheapP l n).1=PatL.zero:=by
 unfold cheapP at *;split at h
 · rename_i h1; rw[ui h1]
 · split at h
   · rename_i h1 h2; rw[ud h1,ui h2]
   · simp at h
set_option maxHeartbeats 1000000 in
theorem compose_c (p q : PatL) (ad bd : Option Addr) (m cap mb capb : Nat) (w0 : World) (I0 : Imm) (hI : Sat I0 w0) (hops : ROps I0 (.slice ad m cap) p.ops) (hp : p.wf) (hoq : ROps I0 (.slice bd mb capb) q.ops) (hq : q.wf) :
 Ctr prog 167 [.agg #[.bool p.lifted,.int .i64 p.in_,.int .i64 p.out,.slice ad m cap],.agg #[.bool q.lifted,.int .i64 q.in_,.int .i64 q.out,.slice bd mb capb]] w0 (fun v w'=>∃I' a m c,v = .tuple #[.agg #[.bool (composeP p q).1.lifted,.int .i64 (composeP p q).1.in_,.int .i64 (composeP p q).1.out,.slice a m c],.int .i64 (composeP p q).2]∧Ext w0 I0 w' I'∧ROps I' (.slice a m c) (composeP p q).1.ops):=by
 have hwA:=jy hp;have hwB:=jy hq;have hlB:=kT q;have hlA:=kT p;have hABw:=vi hwA hwB;have hdef:composeP p q=composeP p q:=rfl;conv at hdef=>rhs; unfold composeP
 obtain⟨A,hA⟩:∃A,symbolsP p=A:=⟨_,rfl⟩
 obtain⟨B,hB⟩:∃B,symbolsP q=B:=⟨_,rfl⟩
 rw[hA]at hdef hwA hABw hlA;rw[hB]at hdef hwB hABw hlB;obtain⟨T,hT⟩:∃T,throughP A.1 B.1=T:=⟨_,rfl⟩
 rw[hT]at hdef hABw;obtain⟨C,hC⟩:∃C,cheapP T.1 p.in_=C:=⟨_,rfl⟩
 rw[hC]at hdef;refine fn (n:=69) func167 rfl rfl rfl ?_;have hS:=St.start hI;refine QwR (qe (d_box (cs:=[.bool _,.int .i64 _,.int .i64 _,.slice _ _ _]) hS rfl) ?_);clear hS;rintro _ w_1⟨b2,rfl,hS⟩;refine qe (d_box (cs:=[.bool _,.int .i64 _,.int .i64 _,.slice _ _ _]) hS rfl) ?_;clear hS;rintro _ w_2⟨b3,rfl,hS⟩;refine qe (qw (cs:=[.bool _,.int .i64 _,.int .i64 _,.slice _ _ _]) hS uQ rfl) ?_;clear hS;rintro _ w_3⟨b4,rfl,hS⟩;refine qq hS (Qai rfl) (QoR (qq hS (g_ldO 2 (vs:=[.bool _,.int .i64 _,.int .i64 _,.slice _ _ _]) ul uO rfl rfl rfl rfl) (qe (ql call70 rfl (vN p ad m cap A _ _ hS.imm hops hp hA)) ?_)));rintro _ w_4⟨I_f,a13,c13,rfl,hE,h13⟩;replace hS:=hS.callE hE;replace hops:=hops.mono hE.ext;replace hoq:=hoq.mono hE.ext;refine qq hS (qk _) (qq hS (qt rfl rfl) (qq hS (Qxi rfl rfl) (qq hS (qy _) (qq hS (Qai rfl) (QoN (xL (QwR (qq hS (Qmi rfl) (qq hS (g_neq rfl rfl) (QoN (qo rfl ?_ ?_)))))))))))
 ·
  intro hc17
  try simp only[zA,zO,zN,zI,zF,zM,zT,zU]at hc17
  rw[ui hc17]at hdef;refine QwR (qq hS (qv (pl:=[(0,1),(1,1),(2,1),(3,1)]) (cs:=[.bool _,.int .i64 _,.int .i64 _,.slice _ _ _]) uQ uu (fun w=>by simp[xX,uC,Qt]) mp0 rfl) (qq hS (Qmi rfl) (qe (qj 0 hS ul rfl rfl rfl (vs:=[.bool _,.int .i64 _,.int .i64 _,.slice _ _ _]) rfl rfl rfl (xP rfl) (cs':=[_,_,_,_]) rfl) ?_)));clear hS;rintro _ w_5⟨rfl,hS⟩;refine qq hS (Qai rfl) (QoN (ub (uw ?_)));rw[hdef];refine ret2 Ky (qD 0 hS ul uO rfl rfl rfl) (qr (v:=.int .i64 _) rfl) ?_;exact⟨_,none,0,0,rfl,hS.nil,RSl.nilR⟩
 ·
  intro hc17
  try simp only[zA,zO,zN,zI,zF,zM,zT,zU]at hc17
  rw[ud (by rw[hc17]; decide)]at hdef;refine xZ (xN (QwR (qq hS (g_ldO 1 (vs:=[.bool _,.int .i64 _,.int .i64 _,.slice _ _ _]) ul uO rfl rfl rfl rfl) (qe (ql call70 rfl (vN q bd mb capb B _ _ hS.imm hoq hq hB)) ?_))));rintro _ w_6⟨I_f,a22,c22,rfl,hE,h22⟩;replace hS:=hS.callE hE;replace hops:=hops.mono hE.ext;replace hoq:=hoq.mono hE.ext;replace h13:=h13.mono hE.ext;refine qq hS (qk _) (qq hS (qt rfl rfl) (qq hS (Qxi rfl rfl) (qq hS (qy _) (qq hS (Qai rfl) (QoN (xL (uk (QwR (qq hS (Qmi rfl) (qq hS (g_neq rfl rfl) (qq hS (Qab rfl) (QoN (qo rfl ?_ ?_)))))))))))))
  ·
   intro hc25
   try simp only[zA,zO,zN,zI,zF,zM,zT,zU]at hc25
   rw[ui hc25]at hdef;refine QwR (qq hS (qv (pl:=[(0,1),(1,1),(2,1),(3,1)]) (cs:=[.bool _,.int .i64 _,.int .i64 _,.slice _ _ _]) uQ uu (fun w=>by simp[xX,uC,Qt]) mp0 rfl) (qq hS (Qmi rfl) (qe (qj 0 hS ul rfl rfl rfl (vs:=[.bool _,.int .i64 _,.int .i64 _,.slice _ _ _]) rfl rfl rfl (xP rfl) (cs':=[_,_,_,_]) rfl) ?_)));clear hS;rintro _ w_7⟨rfl,hS⟩;refine qq hS (Qai rfl) (QoN (ub (Qs (uw ?_))));rw[hdef];refine ret2 Ky (qD 0 hS ul uO rfl rfl rfl) (qr (v:=.int .i64 _) rfl) ?_;exact⟨_,none,0,0,rfl,hS.nil,RSl.nilR⟩
  ·
   intro hc25
   try simp only[zA,zO,zN,zI,zF,zM,zT,zU]at hc25
   rw[ud (by rw[hc25]; decide)]at hdef;refine QwR (qq hS (qb (o':=0) uu rfl uC rfl rfl rfl) (qq hS (qi 2 QG rfl rfl rfl) (qq hS (qb (o':=0) uu rfl uC rfl rfl rfl) (qq hS (qi 1 QG rfl rfl rfl) (qq hS (xD JE rfl rfl) (qq hS (Qab rfl) (QoN (qo rfl ?_ ?_))))))))
   ·
    intro hc30;simp only[bne_iff_ne,ne_eq,bne_eq_false_iff_eq]at hc30;rw[ui hc30]at hdef;refine QwR (qq hS (qv (pl:=[(0,1),(1,1),(2,1),(3,1)]) (cs:=[.bool _,.int .i64 _,.int .i64 _,.slice _ _ _]) uQ uu (fun w=>by simp[xX,uC,Qt]) mp0 rfl) (qe (qj 0 hS ul rfl rfl rfl (vs:=[.bool _,.int .i64 _,.int .i64 _,.slice _ _ _]) rfl rfl rfl (xP rfl) (cs':=[_,_,_,_]) rfl) ?_));clear hS;rintro _ w_8⟨rfl,hS⟩;refine qq hS (Qai rfl) (QoN (ub (Qs (uw ?_))));rw[hdef];refine ret2 Ky (qD 0 hS ul uO rfl rfl rfl) (qr (v:=.int .i64 _) rfl) ?_;exact⟨_,none,0,0,rfl,hS.nil,RSl.nilR⟩
   ·
    intro hc30;simp only[bne_iff_ne,ne_eq,bne_eq_false_iff_eq]at hc30;rw[ud (by rw[hc30]; simp)]at hdef;refine QwR (qq hS (qb (o':=2) uu rfl xX rfl rfl rfl) (qq hS (qi 2 uj rfl rfl rfl) (qq hS (qb (o':=1) uu rfl xX rfl rfl rfl) (qq hS (qi 1 uj rfl rfl rfl) (qq hS (g_neq rfl rfl) (qq hS (Qab rfl) (QoN (qo rfl ?_ ?_))))))))
    ·
     intro hc37
     try simp only[zA,zO,zN,zI,zF,zM,zT,zU]at hc37
     rw[ui hc37]at hdef;refine QwR (qq hS (qv (pl:=[(0,1),(1,1),(2,1),(3,1)]) (cs:=[.bool _,.int .i64 _,.int .i64 _,.slice _ _ _]) uQ uu (fun w=>by simp[xX,uC,Qt]) mp0 rfl) (qe (qj 0 hS ul rfl rfl rfl (vs:=[.bool _,.int .i64 _,.int .i64 _,.slice _ _ _]) rfl rfl rfl (xP rfl) (cs':=[_,_,_,_]) rfl) ?_));clear hS;rintro _ w_9⟨rfl,hS⟩;refine qq hS (Qai rfl) (QoN (ub (Qs (uw ?_))));rw[hdef];refine ret2 Ky (qD 0 hS ul uO rfl rfl rfl) (qr (v:=.int .i64 _) rfl) ?_;exact⟨_,none,0,0,rfl,hS.nil,RSl.nilR⟩
    ·
     intro hc37
     try simp only[zA,zO,zN,zI,zF,zM,zT,zU]at hc37
     rw[ud (by omega)]at hdef;refine xZ (Qh (xN (QwR (qq hS (qk _) (qq hS (qk _) (qe (ql call176 rfl (through_e a13 a22 c13 c22 A.1 B.1 T _ _ hS.imm h13 h22 hwB hlB hT)) ?_))))));rintro _ w_10⟨I_f,a47,c47,rfl,hE,h47⟩;replace hS:=hS.callE hE;replace hops:=hops.mono hE.ext;replace hoq:=hoq.mono hE.ext;replace h13:=h13.mono hE.ext;replace h22:=h22.mono hE.ext;refine qq hS (qk _) (qq hS (qt rfl rfl) (qq hS (Qxi rfl rfl) (qq hS (qy _) (qq hS (Qai rfl) (QoN (xL (QwR (qq hS (Qmi rfl) (qq hS (g_neq rfl rfl) (QoN (qo rfl ?_ ?_)))))))))))
     ·
      intro hc51
      try simp only[zA,zO,zN,zI,zF,zM,zT,zU]at hc51
      rw[ui hc51]at hdef;refine QwR (qq hS (qv (pl:=[(0,1),(1,1),(2,1),(3,1)]) (cs:=[.bool _,.int .i64 _,.int .i64 _,.slice _ _ _]) uQ uu (fun w=>by simp[xX,uC,Qt]) mp0 rfl) (qq hS (Qmi rfl) (qe (qj 0 hS ul rfl rfl rfl (vs:=[.bool _,.int .i64 _,.int .i64 _,.slice _ _ _]) rfl rfl rfl (xP rfl) (cs':=[_,_,_,_]) rfl) ?_)));clear hS;rintro _ w_11⟨rfl,hS⟩;refine qq hS (Qai rfl) (QoN (ub (uw ?_)));rw[hdef];refine ret2 Ky (qD 0 hS ul uO rfl rfl rfl) (qr (v:=.int .i64 _) rfl) ?_;exact⟨_,none,0,0,rfl,hS.nil,RSl.nilR⟩
     ·
      intro hc51
      try simp only[zA,zO,zN,zI,zF,zM,zT,zU]at hc51
      rw[ud (by rw[hc51]; decide)]at hdef;refine xZ (xN (QwR (qq hS (qk _) (qq hS (qb (o':=1) uu rfl xX rfl rfl rfl) (qq hS (qi 2 uj rfl rfl rfl) (qe (ql call175 rfl (cheapest_e a47 T.1.length c47 T.1 p.in_ C.1 C.2 _ _ hS.imm h47 rfl hABw hC)) ?_))))));rintro _ w_12⟨I_f,a58,m58,c58,rfl,hE,h58⟩;replace hS:=hS.callE hE;replace hops:=hops.mono hE.ext;replace hoq:=hoq.mono hE.ext;replace h13:=h13.mono hE.ext;replace h22:=h22.mono hE.ext;replace h47:=h47.mono hE.ext;refine qq hS (qk _) (qq hS (qt rfl rfl) (qq hS (Qxi rfl rfl) (qe (qw (cs:=[.bool _,.int .i64 _,.int .i64 _,.slice _ _ _]) hS uQ rfl) ?_)));clear hS;rintro _ w_13⟨b10,rfl,hS⟩;refine qe (qj 0 hS ul rfl rfl rfl (vs:=[.bool _,.int .i64 _,.int .i64 _,.slice _ _ _]) rfl rfl rfl (xP rfl) (cs':=[_,_,_,_]) rfl) ?_;clear hS;rintro _ w_14⟨rfl,hS⟩;refine qq hS (Qai rfl) (QoN (xL (QwR (qq hS (Qmi rfl) (qq hS (g_neq rfl rfl) (QoN (qo rfl ?_ ?_)))))))
      ·
       intro hc62
       try simp only[zA,zO,zN,zI,zF,zM,zT,zU]at hc62
       rw[ui hc62]at hdef;refine QwR (qq hS (qv (pl:=[(0,1),(1,1),(2,1),(3,1)]) (cs:=[.bool _,.int .i64 _,.int .i64 _,.slice _ _ _]) uQ uu (fun w=>by simp[xX,uC,Qt]) mp0 rfl) (qq hS (Qmi rfl) (qe (qj 1 hS ul rfl rfl rfl (vs:=[.bool _,.int .i64 _,.int .i64 _,.slice _ _ _]) rfl rfl rfl (xP rfl) (cs':=[_,_,_,_]) rfl) ?_)));clear hS;rintro _ w_15⟨rfl,hS⟩;refine qq hS (Qai rfl) (QoN (ub (uw ?_)));rw[hdef];refine ret2 Ky (qD 1 hS ul uO rfl rfl rfl) (qr (v:=.int .i64 _) rfl) ?_;exact⟨_,none,0,0,rfl,hS.nil,RSl.nilR⟩
      ·
       intro hc62
       try simp only[zA,zO,zN,zI,zF,zM,zT,zU]at hc62
       rw[ud (by rw[hc62]; decide)]at hdef;refine xZ (xN (QwR (qq hS (qb (o':=0) uu rfl uC rfl rfl rfl) (qq hS (qi 3 QG rfl rfl rfl) (qq hS (qb (o':=0) uu rfl uC rfl rfl rfl) (qe (qj 0 hS uC rfl rfl rfl (vs:=[.bool _]) rfl rfl rfl (xP rfl) (cs':=[_,_,_,_]) rfl) ?_))))));clear hS;rintro _ w_16⟨rfl,hS⟩;refine QoR (qq hS (g_ldO 0 (vs:=[.bool _,.int .i64 _,.int .i64 _,.slice _ _ _]) ul uO rfl rfl rfl rfl) (qe (qj 1 hS ul rfl rfl rfl (vs:=[.bool _,.int .i64 _,.int .i64 _,.slice _ _ _]) rfl rfl rfl (xP rfl) (cs':=[_,_,_,_]) rfl) ?_));clear hS;rintro _ w_17⟨rfl,hS⟩;refine qq hS (Qai rfl) (QoN (ub ?_));rw[hdef];refine ret2 Ky (qD 1 hS ul uO rfl rfl rfl) (qr (v:=.int .i64 _) rfl) ?_;exact⟨_,a58,m58,c58,rfl,hS.nil,h58⟩
end Go.Proofs.YtcajgkfgjpfmaaaGreat
namespace Go.Proofs.YtcajgkfgjpfmaaaGreat
open Tryz
open Go Go.RowKit Go.Inl
theorem formP_zero {p:PatL}(h:(formP p).2≠0):(formP p).1=PatL.zero:=by
 unfold formP at *;split
 · rename_i h1
   rw[ui h1]at h;by_cases h2:(cheapP (symbolsP p).1 p.in_).2=0
   · simp[h2]at h
   · simp only [h2, if_false]
     exact cheap_zero h2
 · rfl
structure FoldS where
 k:Nat
 out:PatL
 a:Option Addr
 m:Nat
 c:Nat
theorem xG (out p:PatL)(r:List PatL):foldC out (p::r)=if (composeP out p).2≠0 then composeP out p else foldC (composeP out p).1 r:=rfl
theorem allP_cons (p:PatL)(r:List PatL):allP (p::r)=if (formP p).2≠0 then (PatL.zero,(formP p).2) else foldC (formP p).1 r:=rfl
theorem form_F (p : PatL) (ad : Option Addr) (m cap : Nat) (F : PatL × Int) (w0 : World) (I0 : Imm) (hI : Sat I0 w0) (hops : ROps I0 (.slice ad m cap) p.ops) (hp : p.wf) (he : formP p = F) :
 Ctr prog 164 [.agg #[.bool p.lifted,.int .i64 p.in_,.int .i64 p.out,.slice ad m cap]] w0 (fun v w'=>∃I' a m c,v = .tuple #[.agg #[.bool F.1.lifted,.int .i64 F.1.in_,.int .i64 F.1.out,.slice a m c],.int .i64 F.2]∧Ext w0 I0 w' I'∧ROps I' (.slice a m c) F.1.ops):=by
 subst he; exact form_c p ad m cap w0 I0 hI hops hp
theorem RPats.slL {I:Imm}{ad:Option Addr}{len cap:Nat}{xs:List PatL}(hr:RPats I (.slice ad len cap) xs)(l:Nat)(hl:l≤xs.length):RPats I (.slice (if cap=l then ad else ad.map (·.add (l*4))) (len - l) (cap - l)) (xs.drop l):=RSl.slL hr l hl
theorem all1_c (out p : PatL) (b : Nat) (ao ad : Option Addr) (mo co m cap : Nat) (w0 : World) (I0 : Imm) (hI : Sat I0 w0) (hb : w0.heap[b]? = some (.cells ([.bool out.lifted, .int .i64 out.in_, .int .i64 out.out, .slice ao mo co] : List Value).toArray 46 (0, 0))) (hn : I0 b = none) (hout : ROps I0 (.slice ao mo co) out.ops) (how : out.wf) (hops : ROps I0 (.slice ad m cap) p.ops) (hp : p.wf) :
 Ctr prog 166 [.agg #[.bool p.lifted,.int .i64 p.in_,.int .i64 p.out,.slice ad m cap],.pointer (some ⟨b,0,none⟩)] w0 (fun v w'=>∃I' a m c,v = .int .i64 (composeP out p).2∧St [b] w0 I0 I' w' [.cel b 46 [.bool (composeP out p).1.lifted,.int .i64 (composeP out p).1.in_,.int .i64 (composeP out p).1.out,.slice a m c]]∧ROps I' (.slice a m c) (composeP out p).1.ops):=by
 refine fn (n:=14) func166 rfl rfl rfl ?_;have hS:=St.startX hI hb hn;refine QwR (qe (d_box (cs:=[.bool _,.int .i64 _,.int .i64 _,.slice _ _ _]) hS rfl) ?_);clear hS;rintro _ w_1⟨b2,rfl,hS⟩;refine qq hS (Qai rfl) (QoR (qq hS (g_ldO 1 (vs:=[.bool _,.int .i64 _,.int .i64 _,.slice _ _ _]) ul uO rfl rfl rfl rfl) (qq hS (g_ldO 0 (vs:=[.bool _,.int .i64 _,.int .i64 _,.slice _ _ _]) ul uO rfl rfl rfl rfl) (qe (ql call167 rfl (compose_c out p ao ad mo co m cap _ _ hS.imm hout how hops hp)) ?_))));rintro _ w_2⟨I_f,a9,m9,c9,rfl,hE,h9⟩;replace hS:=hS.callE hE;replace hops:=hops.mono hE.ext;replace hout:=hout.mono hE.ext;refine qq hS (qk _) (qq hS (qt rfl rfl) (qq hS (Qxi rfl rfl) (qe (qw (cs:=[.bool _,.int .i64 _,.int .i64 _,.slice _ _ _]) hS uQ rfl) ?_)));clear hS;rintro _ w_3⟨b4,rfl,hS⟩;refine qe (qj 0 hS ul rfl rfl rfl (vs:=[.bool _,.int .i64 _,.int .i64 _,.slice _ _ _]) rfl rfl rfl (xP rfl) (cs':=[_,_,_,_]) rfl) ?_;clear hS;rintro _ w_4⟨rfl,hS⟩;refine qq hS (Qai rfl) (QoR (qq hS (g_ldO 0 (vs:=[.bool _,.int .i64 _,.int .i64 _,.slice _ _ _]) ul uO rfl rfl rfl rfl) (qe (qj 2 hS ul rfl rfl rfl (vs:=[.bool _,.int .i64 _,.int .i64 _,.slice _ _ _]) rfl rfl rfl (xP rfl) (cs':=[_,_,_,_]) rfl) ?_)));clear hS;rintro _ w_5⟨rfl,hS⟩;refine QoR (qq hS (Qmi rfl) (qq hS (Qai rfl) (QoN (ub (ret1 results166 (qr (v:=.int .i64 _) rfl) ?_)))));exact⟨_,a9,m9,c9,rfl,hS.sel [false,false,true],h9⟩
set_option maxHeartbeats 1000000 in
theorem fold_c (out : PatL) (b : Nat) (ao ad : Option Addr) (mo co m cap : Nat) (l : List PatL) (w0 : World) (I0 : Imm) (hI : Sat I0 w0) (hb : w0.heap[b]? = some (.cells ([.bool out.lifted, .int .i64 out.in_, .int .i64 out.out, .slice ao mo co] : List Value).toArray 46 (0, 0))) (hn : I0 b = none) (hout : ROps I0 (.slice ao mo co) out.ops) (how : out.wf) (hl : RPats I0 (.slice ad m cap) l) (hm : m = l.length) (hw : ∀ p ∈ l, p.wf) (hnl : l.length ≤ 65536) :
 Ctr prog 165 [.func (.func 166) #[] #[.pointer (some ⟨b,0,none⟩)],.slice ad m cap] w0 (fun v w'=>∃I' a m c,v = .int .i64 (foldC out l).2∧St [b] w0 I0 I' w' [.cel b 46 [.bool (foldC out l).1.lifted,.int .i64 (foldC out l).1.in_,.int .i64 (foldC out l).1.out,.slice a m c]]∧ROps I' (.slice a m c) (foldC out l).1.ops):=by
 subst hm;refine fn (n:=21) func165 rfl rfl rfl ?_;have hS:=St.startX hI hb hn;refine QwR (qq hS (Qai rfl) (QoN (xL (QwR (qq hS (qk _) (qq hS (qz rfl Qf hl rfl) (qq hS (Qmi rfl) (QoN (uk (loop (fun(x:FoldS) σ w=>okS σ [(0,.func (.func 166) #[] #[.pointer (some ⟨b,0,none⟩)]),(8,.slice ad l.length cap),(9,.int .i64 l.length),(10,.int .i64 x.k)]∧∃I,St [b] w0 I0 I w [.cel b 46 [.bool x.out.lifted,.int .i64 x.out.in_,.int .i64 x.out.out,.slice x.a x.m x.c]]∧x.k≤l.length∧foldC x.out (l.drop x.k)=foldC out l∧ROps I (.slice x.a x.m x.c) x.out.ops∧x.out.wf) (fun x=>l.length - x.k) (⟨0,out,ao,mo,co⟩) ?_ ?_))))))))))
 ·
  exact⟨⟨rfl,rfl,rfl,rfl,trivial⟩,_,hS.sel [true],by simp,by simp,hout,how⟩
 ·
  rintro⟨k,xo,a,m,c⟩σ w_l⟨hs,I,hS,hk0,hgo,ho,how'⟩;dsimp only at hs hS hk0 hgo ho how' ⊢;rw[← qx hs]; clear hs
  refine QwR (qq hS (g_lss rfl rfl) (QoN (xL (qo rfl ?_ ?_))))
  ·
   intro hc11
   try simp only[zA,zO,zN,zI,zF,zM,zT,zU]at hc11
   obtain⟨p,hpi⟩:∃p,l[k]? = some p:=⟨_,xW (by omega)⟩
   obtain⟨cs,hcl,hpA,hpc⟩:=RSl.at (hl.mono hS.ext) hpi;obtain⟨adp,mq,cq,rfl,hpo⟩:=hpc;have hpw:=hw p (uf hpi);rw[jz hpi,xG]at hgo;refine xZ (xN (xL (uk (QwR (qq hS (g_ixI Qf ul hl rfl rfl (by omega) (by omega)) (qq hS (g_ldE (us:=[.bool _,.int .i64 _,.int .i64 _,.slice _ _ _]) ul uO hpA rfl rfl rfl) (qe (qw (cs:=[.bool _,.int .i64 _,.int .i64 _,.slice _ _ _]) hS uQ rfl) ?_)))))));clear hS;rintro _ w_1⟨b6,rfl,hS⟩;refine qe (qj 0 hS ul rfl rfl rfl (vs:=[.bool _,.int .i64 _,.int .i64 _,.slice _ _ _]) rfl rfl rfl (xP rfl) (cs':=[_,_,_,_]) rfl) ?_;clear hS;rintro _ w_2⟨rfl,hS⟩;refine QoR (qq hS (qk _) (qq hS (g_ldO 0 (vs:=[.bool _,.int .i64 _,.int .i64 _,.slice _ _ _]) ul uO rfl rfl rfl rfl) (qe (zp call166 rfl rfl (all1_c xo p b a adp m c mq cq _ _ hS.imm (kr (k:=1) hS rfl) (kq (k:=1) hS rfl) ho how' hpo hpw)) ?_)));rintro _ w_3⟨I2,a2,m2,c2,rfl,hE,h2⟩;replace hS:=hS.callXI (k:=1) rfl hE;refine qq hS (Qai rfl) (QoR (qq hS (Qmi rfl) (qq hS (g_neq rfl rfl) (QoN (qo rfl ?_ ?_)))))
   ·
    intro hc18
    try simp only[zA,zO,zN,zI,zF,zM,zT,zU]at hc18
    rw[ui hc18]at hgo;refine QwR (qq hS (Qmi rfl) (qq hS (Qai rfl) (QoN (ub (Qs (uw (uw (Qs (uw (ret1 results165 (qr (v:=.int .i64 _) rfl) ?_))))))))));rw[← hgo]; exact⟨_,a2,m2,c2,rfl,hS.sel [false,true],h2⟩
   ·
    intro hc18
    try simp only[zA,zO,zN,zI,zF,zM,zT,zU]at hc18
    rw[ud (by rw[hc18]; decide)]at hgo;refine xZ (Qh (xN (reg (qq hS (g_add rfl rfl (by omega) (by omega)) (qq hS (Qmi rfl) ?_)))));exact⟨⟨k+1,(composeP xo p).1,a2,m2,c2⟩,_,rfl,⟨⟨rfl,rfl,rfl,rfl,trivial⟩,_,hS.sel [false,true],by dsimp only; omega,hgo,h2,yp how' hpw⟩,by dsimp only; omega⟩
  ·
   intro hc11
   try simp only[zA,zO,zN,zI,zF,zM,zT,zU]at hc11
   rw[QI (by omega)]at hgo;refine uD (uA (uA (Qw (xN (QwR (qq hS (Qai rfl) (QoN (ub (ret1 results165 (qr (v:=.int .i64 _) rfl) ?_)))))))));rw[← hgo]; exact⟨_,a,m,c,rfl,hS.sel [true],ho⟩
set_option maxHeartbeats 1000000 in
theorem all_c (ad : Option Addr) (cap : Nat) (l : List PatL) (w0 : World) (I0 : Imm) (hI : Sat I0 w0) (hl : RPats I0 (.slice ad l.length cap) l) (hw : ∀ p ∈ l, p.wf) (hn : l.length ≤ 65536) :
 Ctr prog 143 [.slice ad l.length cap] w0 (fun v w'=>∃I' a m c,v = .tuple #[.agg #[.bool (allP l).1.lifted,.int .i64 (allP l).1.in_,.int .i64 (allP l).1.out,.slice a m c],.int .i64 (allP l).2]∧Ext w0 I0 w' I'∧ROps I' (.slice a m c) (allP l).1.ops):=by
 refine fn (n:=27) func143 rfl rfl rfl ?_;have hS:=St.start hI;refine QwR (qe (qw (cs:=[.bool _,.int .i64 _,.int .i64 _,.slice _ _ _]) hS uQ rfl) ?_);clear hS;rintro _ w_1⟨b2,rfl,hS⟩;refine qq hS (Qai rfl) (QoN (xL (QwR (qq hS (qk _) (qq hS (qz rfl Qf hl rfl) (qq hS (g_eql rfl rfl) (QoN (qo rfl ?_ ?_))))))))
 ·
  intro hc8
  try simp only[zA,zO,zN,zI,zF,zM,zT,zU]at hc8
  have hnil:l=[]:=Ql.1 (by omega);have e:allP l=(PatL.zero,1):=by rw[hnil]; rfl
  refine QwR (qq hS (qv (pl:=[(0,1),(1,1),(2,1),(3,1)]) (cs:=[.bool _,.int .i64 _,.int .i64 _,.slice _ _ _]) uQ uu (fun w=>by simp[xX,uC,Qt]) mp0 rfl) (qe (qj 0 hS ul rfl rfl rfl (vs:=[.bool _,.int .i64 _,.int .i64 _,.slice _ _ _]) rfl rfl rfl (xP rfl) (cs':=[_,_,_,_]) rfl) ?_));clear hS;rintro _ w_2⟨rfl,hS⟩;refine qq hS (Qai rfl) (QoN (ub (uw (ret2 results143 (qD 0 hS ul uO rfl rfl rfl) (qr (v:=.int .i64 _) rfl) ?_))));rw[e]; exact⟨_,none,0,0,rfl,hS.nil,RSl.nilR⟩
 ·
  intro hc8
  try simp only[zA,zO,zN,zI,zF,zM,zT,zU]at hc8
  obtain⟨p,hpi⟩:∃p,l[0]? = some p:=⟨_,xW (by omega)⟩
  obtain⟨cs,hcl,hpA,hpc⟩:=RSl.at hl hpi;obtain⟨adp,mq,cq,rfl,hpo⟩:=hpc;have hpw:=hw p (uf hpi);have hlc:l=p::l.drop 1:=by have:=jz hpi; rwa [List.drop_zero]at this
  have hdef:allP l=if (formP p).2≠0 then (PatL.zero,(formP p).2) else foldC (formP p).1 (l.drop 1):=by conv=>lhs; rw[hlc,allP_cons]
  have hFw:=formP_wf hpw;have hFz:=formP_zero (p:=p);obtain⟨F,hF⟩:∃F,formP p=F:=⟨_,rfl⟩
  rw[hF]at hdef hFw hFz;refine xZ (xN (QwR (qq hS (qk _) (qq hS (g_ixI Qf ul hl rfl rfl (by decide) (by omega)) (qq hS (g_ldE (us:=[.bool _,.int .i64 _,.int .i64 _,.slice _ _ _]) ul uO hpA rfl rfl rfl) (qe (ql call164 rfl (form_F p adp mq cq F _ _ hS.imm hpo hpw hF)) ?_))))));rintro _ w_3⟨I_f,a14,m14,c14,rfl,hE,h14⟩;replace hS:=hS.callE hE;replace hl:=hl.mono hE.ext;refine qq hS (qk _) (qq hS (qt rfl rfl) (qq hS (Qxi rfl rfl) (qe (qw (cs:=[.bool _,.int .i64 _,.int .i64 _,.slice _ _ _]) hS uQ rfl) ?_)));clear hS;rintro _ w_4⟨b4,rfl,hS⟩;refine qe (qj 0 hS ul rfl rfl rfl (vs:=[.bool _,.int .i64 _,.int .i64 _,.slice _ _ _]) rfl rfl rfl (xP rfl) (cs':=[_,_,_,_]) rfl) ?_;clear hS;rintro _ w_5⟨rfl,hS⟩;refine qq hS (Qai rfl) (QoN (xL (QwR (qq hS (Qmi rfl) (qq hS (g_neq rfl rfl) (QoN (qo rfl ?_ ?_)))))))
  ·
   intro hc18
   try simp only[zA,zO,zN,zI,zF,zM,zT,zU]at hc18
   rw[ui hc18]at hdef;refine QwR (qq hS (qv (pl:=[(0,1),(1,1),(2,1),(3,1)]) (cs:=[.bool _,.int .i64 _,.int .i64 _,.slice _ _ _]) uQ uu (fun w=>by simp[xX,uC,Qt]) mp0 rfl) (qq hS (Qmi rfl) (qe (qj 1 hS ul rfl rfl rfl (vs:=[.bool _,.int .i64 _,.int .i64 _,.slice _ _ _]) rfl rfl rfl (xP rfl) (cs':=[_,_,_,_]) rfl) ?_)));clear hS;rintro _ w_6⟨rfl,hS⟩;refine qq hS (Qai rfl) (QoN (ub (uw (ret2 results143 (qD 1 hS ul uO rfl rfl rfl) (qr (v:=.int .i64 _) rfl) ?_))));rw[hdef]; exact⟨_,none,0,0,rfl,hS.nil,RSl.nilR⟩
  ·
   intro hc18
   try simp only[zA,zO,zN,zI,zF,zM,zT,zU]at hc18
   rw[ud (by rw[hc18]; decide)]at hdef;refine xZ (xN (QwR (qq hS (jR ml0 (ml rfl ml0)) (qq hS (qk _) (qq hS (zk (l0:=1) Qf ul rfl rfl (by decide) (by omega) rfl) ?_)))));refine qe (ql call165 rfl (fold_c F.1 b4 a14 _ m14 c14 _ _ (l.drop 1) _ _ hS.imm (kr (k:=0) hS rfl) (kq (k:=0) hS rfl) h14 hFw (hl.slL 1 (by omega)) (by rw[Qj]) (fun p hp=>hw p (List.mem_of_mem_drop hp)) (by rw[Qj]; omega))) ?_;rintro _ w_7⟨I2,a24,m24,c24,rfl,hE,h24⟩;replace hS:=hS.callXI (k:=0) rfl hE;refine qq hS (Qai rfl) (QoR (qq hS (g_ldO 0 (vs:=[.bool _,.int .i64 _,.int .i64 _,.slice _ _ _]) ul uO rfl rfl rfl rfl) (qq hS (Qmi rfl) (qe (qj 1 hS ul rfl rfl rfl (vs:=[.bool _,.int .i64 _,.int .i64 _,.slice _ _ _]) rfl rfl rfl (xP rfl) (cs':=[_,_,_,_]) rfl) ?_))));clear hS;rintro _ w_8⟨rfl,hS⟩;refine qq hS (Qai rfl) (QoN (ub (ret2 results143 (qD 1 hS ul uO rfl rfl rfl) (qr (v:=.int .i64 _) rfl) ?_)));rw[hdef]; exact⟨_,a24,m24,c24,rfl,hS.nil,h24⟩
end Go.Proofs.YtcajgkfgjpfmaaaGreat
namespace Go.Proofs.YtcajgkfgjpfmaaaGreat
open Tryz
open Go Go.RowKit Go.Inl
def wholeP (n:Int):PatL:=⟨false,n,n,if 0 < n then [⟨1,0,n,0,[]⟩] else []⟩
theorem yK {n:Int}(h:0 < n):wholeP n=⟨false,n,n,[⟨1,0,n,0,[]⟩]⟩:=by unfold wholeP; rw[ui h]
theorem vL {n:Int}(h:0≤n∧n≤65536):(wholeP n).wf:=by
 refine⟨⟨by show _≤n; omega,by show n≤_; omega⟩,⟨by show _≤n; omega,by show n≤_; omega⟩,?_,?_⟩
 · intro x hx
   unfold wholeP at hx;split at hx
   · simp only [uL] at hx; subst hx
     exact⟨⟨by dsimp only; omega,by dsimp only; omega⟩,⟨by dsimp only; omega,by dsimp only; omega⟩,⟨by dsimp only; omega,by dsimp only; omega⟩,⟨by dsimp only; omega,by dsimp only; omega⟩,by simp⟩
   · simp at hx
 · unfold wholeP; split <;> simp
theorem xx (n : Int) (w0 : World) (I0 : Imm) (hI : Sat I0 w0) (h0 : 0 ≤ n ∧ n ≤ 65536) :
 Ctr prog 43 [.int .i64 n] w0 (fun v w'=>∃I' a m c,v = .agg #[.bool (wholeP n).lifted,.int .i64 (wholeP n).in_,.int .i64 (wholeP n).out,.slice a m c]∧Ext w0 I0 w' I'∧ROps I' (.slice a m c) (wholeP n).ops):=by
 refine fn (n:=12) func43 rfl rfl rfl ?_;have hS:=St.start hI;refine QwR (qe (qw (cs:=[.bool _,.int .i64 _,.int .i64 _,.slice _ _ _]) hS uQ rfl) ?_);clear hS;rintro _ w_1⟨b2,rfl,hS⟩;refine QoN (xL (QwR (qq hS (Qmi rfl) (qq hS (g_eql rfl rfl) (QoN (qo rfl ?_ ?_))))))
 ·
  intro hc4
  try simp only[zA,zO,zN,zI,zF,zM,zT,zU]at hc4
  have hn0:n=0:=hc4;subst hn0;have e:wholeP 0=⟨false,0,0,[]⟩:=rfl;refine QwR (qq hS (qv (pl:=[(0,1),(1,1),(2,1),(3,1)]) (cs:=[.bool _,.int .i64 _,.int .i64 _,.slice _ _ _]) uQ uu (fun w=>by simp[xX,uC,Qt]) mp0 rfl) (qe (qj 0 hS ul rfl rfl rfl (vs:=[.bool _,.int .i64 _,.int .i64 _,.slice _ _ _]) rfl rfl rfl (xP rfl) (cs':=[_,_,_,_]) rfl) ?_));clear hS;rintro _ w_2⟨rfl,hS⟩;refine QoN (ub (uw (ret1 results43 (qD 0 hS ul uO rfl rfl rfl) ?_)));rw[e]; exact⟨_,none,0,0,rfl,hS.nil,RSl.nilR⟩
 ·
  intro hc4
  try simp only[zA,zO,zN,zI,zF,zM,zT,zU]at hc4
  have e:=yK (n:=n) (by omega);refine xZ (xN (QwR (qq hS (Qmi rfl) (qq hS (Qmi rfl) (qq hS (Qmi rfl) (qq hS (qv (pl:=[(0,1),(1,1),(2,1),(3,1),(4,1)]) (cs:=[.int .i64 _,.int .i64 _,.int .i64 _,.int .u8 _,.slice _ _ _]) Jp uE (fun w=>by simp[Jf,xX,uJ]) (mp (v:=.int .i64 _) rfl (mp (v:=.int .i64 _) rfl mp0)) rfl) ?_))))));refine qe (d_lit (vs:=[.agg #[.int .i64 _,.int .i64 _,.int .i64 _,.int .u8 _,.slice _ _ _]]) (cs:=[.int .i64 _,.int .i64 _,.int .i64 _,.int .u8 _,.slice _ _ _]) hS QC QD Jp rfl rfl rfl rfl (fun v hv=>by simp only[uq,ur,or_false]at hv; subst hv; rfl) rfl) ?_;clear hS;rintro _ w_3⟨b10,rfl,hS⟩;refine qq hS (qv (pl:=[(0,1),(1,1),(2,1),(3,1)]) (cs:=[.bool _,.int .i64 _,.int .i64 _,.slice _ _ _]) uQ uu (fun w=>by simp[xX,uC,Qt]) (mp (v:=.int .i64 _) rfl (mp (v:=.int .i64 _) rfl (mp rfl mp0))) rfl) (qe (qj 1 hS ul rfl rfl rfl (vs:=[.bool _,.int .i64 _,.int .i64 _,.slice _ _ _]) rfl rfl rfl (xP rfl) (cs':=[_,_,_,_]) rfl) ?_);clear hS;rintro _ w_4⟨rfl,hS⟩;refine QoN (ub (ret1 results43 (qD 1 hS ul uO rfl rfl rfl) ?_));obtain⟨I3,hS,hI3,hb3⟩:=hS.freezeAt 0 rfl;have ho:ROps I3 (.slice (some ⟨b10,0,none⟩) 1 1) [⟨1,0,n,0,[]⟩]:=RSl.ofAt (css:=[[.int .i64 1,.int .i64 0,.int .i64 n,.int .u8 0,.slice none 0 0]]) hb3 rfl (by simp) (All2.one ⟨none,0,0,rfl,RFl.nil⟩) rfl (by show 1≤maxLen; decide);rw[e]; exact⟨_,_,1,1,rfl,hS.nil,ho⟩
end Go.Proofs.YtcajgkfgjpfmaaaGreat
namespace Go.Proofs.YtcajgkfgjpfmaaaGreat
open Tryz
open Go Go.RowKit Go.Inl
end Go.Proofs.YtcajgkfgjpfmaaaGreat
