/- compose.Through, Compose, fold, All: what they compute. Conditions: numbers within bounds. compose.Compose, fold, All, and those of inlayref09: what they compute. Conditions: numbers within bounds. compose.fold, All, inlayref09.All: what they compute. Conditions: numbers within bounds. Whole, Chain, Run, Input, Same: what they compute. Conditions: numbers within bounds. inlayref09.Chain: what it computes. Conditions: numbers within bounds. -/
import Derived.Test.YtgkgihnpjgbmhaaGreatDoorKSmall
import Derived.Test.YtgkgihnpjgbmhaaGreatDoorKLaw
import Derived.Test.YtgkgihnpjgbmhaaGreatDoorKRef6
import Derived.Test.YtgkgihnpjgbmhaaGreatDoorKSpec
import Derived.Test.YtgkgihnpjgbmhaaGreatDoorKCut
import Derived.Test.YtgkgihnpjgbmhaaGreatDoorKOpt
set_option linter.unusedSimpArgs false
set_option linter.unusedVariables false
namespace Go.Proofs.YtgkgihnpjgbmhaaGreatDoor
open Tryz
open Go Go.RowKit Go.Inl
theorem thr_lit' {a:List Sym}{s:Sym}(h:s.old=false):symC (thr a s)=[.bool false,.ig 0,.bg s.b]:=by rw[xe h]; rfl
theorem thr_old' {a:List Sym}{s x:Sym}(h:s.old=true)(hx:a[s.at_.toNat]? = some x):symC (thr a s)=[.bool x.old,.ig x.at_,.bg (IntKind.u8.wrap (x.b+s.b))]:=by
 rw[xd h];have e:a.getD s.at_.toNat z0=x:=by rw[xT,hx]; rfl
 rw[e]; rfl
theorem throughP_bad {a b:List Sym}{s:Sym}(hs:s∈b)(h:badT a.length s=true):throughP a b=([],61):=by
 unfold throughP; rw[xS (List.any_eq_true.2 ⟨s,hs,h⟩)]
theorem throughP_good {a b:List Sym}(h:∀s∈b,badT a.length s=false):throughP a b=(b.map (thr a),0):=by
 unfold throughP;rw[xP];intro hb;obtain⟨s,hs,h1⟩:=List.any_eq_true.1 hb;rw[h s hs]at h1; cases h1
theorem throughP_wf {a b:List Sym}(ha:∀s∈a,s.wf)(hb:∀s∈b,s.wf):∀s∈(throughP a b).1,s.wf:=by
 unfold throughP;split
 · simp
 · exact thrL_wf ha hb
theorem composeP_wf {p q:PatL}(hp:p.wf)(hq:q.wf):(composeP p q).1.wf:=by
 unfold composeP;split
 · exact kV
 · split
   · exact kV
   · split
     · exact kV
     · split
       · exact kV
       · split
         · exact kV
         · split
           · exact kV
           · have h := cheapP_wf (n := p.in_) (throughP_wf (kd hp) (kd hq))
             exact⟨h.in_,h.out,h.ops,h.len⟩
set_option maxHeartbeats 1000000 in
theorem through_c (ad bd : Option Addr) (cap capb : Nat) (la lb : List Sym) (w0 : World) (I0 : Imm) (hI : Sat I0 w0) (ha : RSyms I0 (.sg ad la.length cap) la) (hb : RSyms I0 (.sg bd lb.length capb) lb) (hwb : ∀ s ∈ lb, s.wf) (hn : lb.length ≤ 65536) :
 Ctr prog 28 [.sg ad la.length cap,.sg bd lb.length capb] w0 (fun v w'=>∃I' a c,v = .tuple #[.slice a (throughP la lb).1.length c,.ig (throughP la lb).2]∧Ext w0 I0 w' I'∧RSyms I' (.slice a (throughP la lb).1.length c) (throughP la lb).1):=by
 have hll:=RSl.le hb;have hlla:=RSl.le ha;simp only[maxLen]at hll hlla;refine fn (n:=55) func28 rfl rfl rfl ?_;have Z:=St.start hI;refine QwR (qq Z (qd _) (qq Z (Qai rfl) (QoR (qq Z (qb _) (qq Z (qo rfl uN hb rfl) (qe (xo Z uN info80 rfl rfl (by omega) (by omega) (by omega)) ?_))))));clear Z;rintro _ w_1⟨a12,p12,rfl,Z⟩;refine qq Z (qd _) (QoN (xJ (QwR (qq Z (qb _) (qq Z (qo rfl uN hb rfl) (qq Z (Qmi rfl) (QoN (xU (loop (fun(x:Nat×Option Addr×Nat) σ w=>okS σ [(0,.sg ad la.length cap),(6,.sg x.2.1 x.1 x.2.2),(13,.sg bd lb.length capb),(14,.ig lb.length),(15,.ig x.1)]∧St [] w0 I0 I0 w [.row (.sg x.2.1 x.1 x.2.2) 80 3 x.1 (flat symC ((lb.take x.1).map (thr la)))]∧x.1≤lb.length∧∀s∈lb.take x.1,badT la.length s=false) (fun x=>lb.length - x.1) ((0,a12,p12)) ?_ ?_)))))))))
 ·
  exact⟨⟨rfl,rfl,rfl,rfl,rfl,trivial⟩,Z.sel [true],by simp,by simp⟩
 ·
  rintro⟨k,a,c⟩σ w_l⟨hs,Z,hk0,hbad⟩;dsimp only at hs Z hk0 hbad ⊢;rw[← qj hs]; clear hs
  refine QwR (qq Z (g_lss rfl rfl) (QoN (xJ (qh rfl ?_ ?_))))
  ·
   intro hc16
   try simp only[zA,zO,zN,zI,zF,zM,zT,zU]at hc16
   obtain⟨s,hsi⟩:∃s,lb[k]? = some s:=⟨_,xI (by omega)⟩
   have hsA:=hb.at hsi;have hsm:=xR hsi;obtain⟨sw1,sw2,sw3,sw4⟩:=hwb s hsm;refine xM (xL (xJ (xU (QwR (qq Z (g_ixI uN uQ hb rfl rfl (by omega) (by omega)) (qq Z (g_ldE (us:=[.bool _,.ig _,.bg _]) uQ QJ hsA rfl rfl rfl) (qe (qr (cs:=[.bool _,.ig _,.bg _]) Z QD rfl) ?_)))))));clear Z;rintro _ w_2⟨b8,rfl,Z⟩;refine qe (qf 0 Z uQ rfl rfl rfl (vs:=[.bool _,.ig _,.bg _]) rfl rfl rfl (xH rfl) (cs':=[_,_,_]) rfl) ?_;clear Z;rintro _ w_3⟨rfl,Z⟩;refine QoN (xJ (QwR (qq Z (qa (o':=0) uF rfl uy rfl rfl rfl) (qq Z (qc 0 QA rfl rfl rfl) (qq Z (g_not rfl) (QoN (qh rfl ?_ ?_)))))))
   ·
    intro hc21
    try simp only[zA,zO,zN,zI,zF,zM,zT,zU]at hc21
    have hso:s.old=false:=hc21;have hbd:badT la.length s=false:=by unfold badT; rw[hso]; rfl
    have ht:=thr_lit' (a:=la) hso;refine QwR (qq Z (qb _) (qq Z (qa (o':=2) uF rfl un rfl rfl rfl) (qq Z (qc 0 uZ rfl rfl rfl) (qq Z (qs (pl:=[(0,1),(1,1),(2,1)]) (cs:=[.bool _,.ig _,.bg _]) QD uF (fun w=>by simp[xK,uy,un]) (mp (v:=.bg _) rfl mp0) rfl) ?_))));refine qe (d_lit (vs:=[.agg #[.bool _,.ig _,.bg _]]) (cs:=[.bool _,.ig _,.bg _]) Z uN uQ QD rfl rfl rfl rfl (fun v hv=>by simp only[xV,xY,or_false]at hv; subst hv; rfl) rfl) ?_;clear Z;rintro _ w_4⟨b_4,rfl,Z⟩;refine qe (qB 2 0 Z rfl uN info80 rfl rfl rfl rfl rfl rfl rfl rfl (by omega) (by omega)) ?_;clear Z;rintro _ w_5⟨a27,p27,rfl,Z⟩;refine qq Z (qd _) (QoN (ur (um (Qi (xL (reg (qq Z (g_add rfl rfl (by omega) (by omega)) (qq Z (Qmi rfl) ?_))))))))
    first
     | (refine ⟨(k + 1, a27, p27), _, rfl, ⟨⟨rfl, rfl, rfl, rfl, rfl, trivial⟩, ?_, by dsimp only; omega, zB hsi hbad hbd⟩, by dsimp only; omega⟩
        dsimp only;rw[qz hsi,Qp,ql,Qt,List.map_nil,qS,ht];exact Z.sel [false,false,true])
     | (refine ⟨(k + 1, a52, p52), _, rfl, ⟨⟨rfl, rfl, rfl, rfl, rfl, trivial⟩, ?_, by dsimp only; omega, zB hsi hbad hbd⟩, by dsimp only; omega⟩
        dsimp only;rw[qz hsi,Qp,ql,Qt,List.map_nil,qS,ht];exact Z.sel [false,false,true])
   ·
    intro hc21
    try simp only[zA,zO,zN,zI,zF,zM,zT,zU]at hc21
    have hso:s.old=true:=hc21;refine xM (xL (xJ (QwR (qq Z (qa (o':=1) uF rfl xK rfl rfl rfl) (qq Z (qc 0 xW rfl rfl rfl) (qq Z (g_lss rfl rfl) (qq Z (Qmb rfl) (qu rfl rfl Z (fun hg=>(qa (o':=1) uF rfl xK rfl rfl rfl)) ?_))))))));intro u32 hu32 hn32;refine qu rfl rfl Z (fun hg=>(qc 0 xW rfl (hu32 hg) rfl)) ?_;intro u33 hu33 hn33;refine qu rfl rfl Z (fun hg=>(qb _)) ?_;intro u34 hu34 hn34;refine qu rfl rfl Z (fun hg=>(qo rfl uN ha (hu34 hg))) ?_;intro u35 hu35 hn35;refine qu rfl rfl Z (fun hg=>(g_geq (hu33 hg) (hu35 hg))) ?_;intro u36 hu36 hn36;refine qq Z (g_or rfl rfl (fun hq=>hu36 hq)) (QoN (qh rfl ?_ ?_))
    ·
     intro hc37;clear hu32 hn32 hu33 hn33 hu34 hn34 hu35 hn35 hu36 hn36;have hbd:badT la.length s=true:=by unfold badT; rw[hso,Bool.true_and]; exact hc37
     have e:=throughP_bad hsm hbd;refine QwR (qq Z (qd _) (qq Z (Qai rfl) (QoN (xO (ul (Qq (ul (ul (Qq (ul (ret2 results28 (qg rfl) (qg (v:=.ig _) rfl) ?_)))))))))));rw[e]; exact⟨_,none,0,rfl,Z.nil,RSl.nilR⟩
    ·
     intro hc37;clear hu32 hn32 hu33 hn33 hu34 hn34 hu35 hn35 hu36 hn36;have hbd:badT la.length s=false:=by unfold badT; rw[hso,Bool.true_and]; exact hc37
     simp only[QF,xZ]at hc37;have hin:s.at_.toNat < la.length:=by omega
     obtain⟨x,hxi⟩:∃x,la[s.at_.toNat]? = some x:=⟨_,xI hin⟩
     have hxA:=ha.at hxi;have ht:=thr_old' hso hxi;refine xM (xL (QwR (qq Z (qb _) (qq Z (qa (o':=1) uF rfl xK rfl rfl rfl) (qq Z (qc 0 xW rfl rfl rfl) (qq Z (g_ixI uN uQ ha rfl rfl (by omega) (by omega)) (qq Z (g_ldE (us:=[.bool _,.ig _,.bg _]) uQ QJ hxA rfl rfl rfl) (qe (qr (cs:=[.bool _,.ig _,.bg _]) Z QD rfl) ?_))))))));clear Z;rintro _ w_6⟨b9,rfl,Z⟩;refine qe (qf 0 Z uQ rfl rfl rfl (vs:=[.bool _,.ig _,.bg _]) rfl rfl rfl (xH rfl) (cs':=[_,_,_]) rfl) ?_;clear Z;rintro _ w_7⟨rfl,Z⟩;refine QoR (qq Z (qa (o':=2) uF rfl un rfl rfl rfl) (qq Z (qc 0 uZ rfl rfl rfl) (qq Z (qa (o':=2) uF rfl un rfl rfl rfl) (qq Z (qc 1 uZ rfl rfl rfl) (qq Z (yn rfl rfl) (qq Z (qa (o':=2) uF rfl un rfl rfl rfl) (qe (qf 0 Z un rfl rfl rfl (vs:=[.bg _]) rfl rfl rfl (xH rfl) (cs':=[_,_,_]) rfl) ?_)))))));clear Z;rintro _ w_8⟨rfl,Z⟩;refine QoN (reg (qq Z (qb _) (qq Z (g_ldO 0 (vs:=[.bool _,.ig _,.bg _]) uQ QJ rfl rfl rfl rfl) ?_)));refine qe (d_lit (vs:=[.agg #[.bool _,.ig _,.bg _]]) (cs:=[.bool _,.ig _,.bg _]) Z uN uQ QD rfl rfl rfl rfl (fun v hv=>by simp only[xV,xY,or_false]at hv; subst hv; rfl) rfl) ?_;clear Z;rintro _ w_9⟨b_9,rfl,Z⟩;refine qe (qB 3 0 Z rfl uN info80 rfl rfl rfl rfl rfl rfl rfl rfl (by omega) (by omega)) ?_;clear Z;rintro _ w_10⟨a52,p52,rfl,Z⟩;refine qq Z (qd _) (qy (uM (xL (reg (qq Z (g_add rfl rfl (by omega) (by omega)) (qq Z (Qmi rfl) ?_))))))
     first
      | (refine ⟨(k + 1, a27, p27), _, rfl, ⟨⟨rfl, rfl, rfl, rfl, rfl, trivial⟩, ?_, by dsimp only; omega, zB hsi hbad hbd⟩, by dsimp only; omega⟩
         dsimp only;rw[qz hsi,Qp,ql,Qt,List.map_nil,qS,ht];exact Z.sel [false,false,false,true])
      | (refine ⟨(k + 1, a52, p52), _, rfl, ⟨⟨rfl, rfl, rfl, rfl, rfl, trivial⟩, ?_, by dsimp only; omega, zB hsi hbad hbd⟩, by dsimp only; omega⟩
         dsimp only;rw[qz hsi,Qp,ql,Qt,List.map_nil,qS,ht];exact Z.sel [false,false,false,true])
  ·
   intro hc16
   try simp only[zA,zO,zN,zI,zF,zM,zT,zU]at hc16
   have hk:k=lb.length:=by omega
   subst hk;rw[uL]at Z hbad;have e:=throughP_good hbad;refine ur (um (um (Qi (xL (QwR (qq Z (qb _) (qq Z (qd _) (qq Z (Qai rfl) (QoN (xO (ret2 results28 (qg rfl) (qg (v:=.ig _) rfl) ?_)))))))))));obtain⟨I1,hE1,hI1,hd1⟩:=jf kw (xs:=lb.map (thr la)) (Z.sel [true]) (by simp);have hlm:(lb.map (thr la)).length=lb.length:=Qb _;have hl1:(throughP la lb).1.length=lb.length:=by rw[e]; exact hlm
   rw[hl1];exact⟨I1,a,c,by rw[e]; rfl,hE1,by rw[e]; exact hd1⟩
end Go.Proofs.YtgkgihnpjgbmhaaGreatDoor
namespace Go.Proofs.YtgkgihnpjgbmhaaGreatDoor
open Tryz
open Go Go.RowKit Go.Inl
theorem yx (p : PatL) (ad : Option Addr) (m cap : Nat) (A : List Sym × Int) (w0 : World) (I0 : Imm) (hI : Sat I0 w0) (hops : ROps I0 (.sg ad m cap) p.ops) (hp : p.wf) (he : symbolsP p = A) :
 Ctr prog 27 [.agg #[.bool p.lifted,.ig p.in_,.ig p.out,.sg ad m cap]] w0 (fun v w'=>∃I' a c,v = .tuple #[.sg a A.1.length c,.ig A.2]∧Ext w0 I0 w' I'∧RSyms I' (.sg a A.1.length c) A.1):=by
 subst he; exact symbols_c p ad m cap w0 I0 hI hops hp
theorem through_e (ad bd : Option Addr) (cap capb : Nat) (la lb : List Sym) (T : List Sym × Int) (w0 : World) (I0 : Imm) (hI : Sat I0 w0) (ha : RSyms I0 (.sg ad la.length cap) la) (hb : RSyms I0 (.sg bd lb.length capb) lb) (hwb : ∀ s ∈ lb, s.wf) (hn : lb.length ≤ 65536) (he : throughP la lb = T) :
 Ctr prog 28 [.sg ad la.length cap,.sg bd lb.length capb] w0 (fun v w'=>∃I' a c,v = .tuple #[.sg a T.1.length c,.ig T.2]∧Ext w0 I0 w' I'∧RSyms I' (.sg a T.1.length c) T.1):=by
 subst he; exact through_c ad bd cap capb la lb w0 I0 hI ha hb hwb hn
theorem ka (p:PatL):(symbolsP p).1.length≤65536:=by
 unfold symbolsP;split
 · rename_i h
   obtain⟨h1,h2,h3,h4,h5,h6,h7⟩:=ja h;show(symsOf p.ops).length≤65536
   omega
 · simp
theorem symbolsP_ok' {p:PatL}(h:(symbolsP p).2=0):(checkP p).2=0∧symbolsP p=(symsOf p.ops,0):=by
 by_cases hc:(checkP p).2=0
 · exact⟨hc,jX hc⟩
 · unfold symbolsP at h; rw[xP hc]at h; exact absurd h hc
set_option maxHeartbeats 1000000 in
theorem compose_c (p q : PatL) (ad bd : Option Addr) (m cap mb capb : Nat) (w0 : World) (I0 : Imm) (hI : Sat I0 w0) (hops : ROps I0 (.sg ad m cap) p.ops) (hp : p.wf) (hoq : ROps I0 (.sg bd mb capb) q.ops) (hq : q.wf) :
 Ctr prog 8 [.agg #[.bool p.lifted,.ig p.in_,.ig p.out,.sg ad m cap],.agg #[.bool q.lifted,.ig q.in_,.ig q.out,.sg bd mb capb]] w0 (fun v w'=>∃I' a m c,v = .tuple #[.agg #[.bool (composeP p q).1.lifted,.ig (composeP p q).1.in_,.ig (composeP p q).1.out,.sg a m c],.ig (composeP p q).2]∧Ext w0 I0 w' I'∧ROps I' (.sg a m c) (composeP p q).1.ops):=by
 have hwA:=kd hp;have hwB:=kd hq;have hlB:=ka q;have hlA:=ka p;have hABw:=throughP_wf hwA hwB;have hdef:composeP p q=composeP p q:=rfl;conv at hdef=>rhs; unfold composeP
 obtain⟨A,hA⟩:∃A,symbolsP p=A:=⟨_,rfl⟩
 obtain⟨B,hB⟩:∃B,symbolsP q=B:=⟨_,rfl⟩
 rw[hA]at hdef hwA hABw hlA;rw[hB]at hdef hwB hABw hlB;obtain⟨T,hT⟩:∃T,throughP A.1 B.1=T:=⟨_,rfl⟩
 rw[hT]at hdef hABw;obtain⟨C,hC⟩:∃C,cheapP T.1 p.in_=C:=⟨_,rfl⟩
 rw[hC]at hdef;refine fn (n:=69) func8 rfl rfl rfl ?_;have Z:=St.start hI;refine QwR (qe (d_box (cs:=[.bool _,.ig _,.ig _,.sg _ _ _]) Z rfl) ?_);clear Z;rintro _ w_1⟨b2,rfl,Z⟩;refine qe (d_box (cs:=[.bool _,.ig _,.ig _,.sg _ _ _]) Z rfl) ?_;clear Z;rintro _ w_2⟨b3,rfl,Z⟩;refine qe (qr (cs:=[.bool _,.ig _,.ig _,.sg _ _ _]) Z uK rfl) ?_;clear Z;rintro _ w_3⟨b4,rfl,Z⟩;refine qq Z (Qai rfl) (QoR (qq Z (g_ldO 2 (vs:=[.bool _,.ig _,.ig _,.sg _ _ _]) ug uO rfl rfl rfl rfl) (qe (qi call27 rfl (yx p ad m cap A _ _ Z.imm hops hp hA)) ?_)));rintro _ w_4⟨I_f,a13,c13,rfl,hE,h13⟩;replace Z:=Z.callE hE;replace hops:=hops.mono hE.ext;replace hoq:=hoq.mono hE.ext;refine qq Z (qb _) (qq Z (qk rfl rfl) (qq Z (Qxi rfl rfl) (qq Z (qd _) (qq Z (Qai rfl) (QoN (xJ (QwR (qq Z (Qmi rfl) (qq Z (g_neq rfl rfl) (QoN (qh rfl ?_ ?_)))))))))))
 ·
  intro hc17
  try simp only[zA,zO,zN,zI,zF,zM,zT,zU]at hc17
  rw[xS hc17]at hdef;refine QwR (qq Z (qs (pl:=[(0,1),(1,1),(2,1),(3,1)]) (cs:=[.bool _,.ig _,.ig _,.sg _ _ _]) uK uk (fun w=>by simp[Qm,xK,uy]) mp0 rfl) (qq Z (Qmi rfl) (qe (qf 0 Z ug rfl rfl rfl (vs:=[.bool _,.ig _,.ig _,.sg _ _ _]) rfl rfl rfl (xH rfl) (cs':=[_,_,_,_]) rfl) ?_)));clear Z;rintro _ w_5⟨rfl,Z⟩;refine qq Z (Qai rfl) (QoN (xO (ul ?_)));rw[hdef];refine ret2 JP (qw 0 Z ug uO rfl rfl rfl) (qg (v:=.ig _) rfl) ?_;exact⟨_,none,0,0,rfl,Z.nil,RSl.nilR⟩
 ·
  intro hc17
  try simp only[zA,zO,zN,zI,zF,zM,zT,zU]at hc17
  rw[xP (by rw[hc17]; decide)]at hdef;refine xM (xL (QwR (qq Z (g_ldO 1 (vs:=[.bool _,.ig _,.ig _,.sg _ _ _]) ug uO rfl rfl rfl rfl) (qe (qi call27 rfl (yx q bd mb capb B _ _ Z.imm hoq hq hB)) ?_))));rintro _ w_6⟨I_f,a22,c22,rfl,hE,h22⟩;replace Z:=Z.callE hE;replace hops:=hops.mono hE.ext;replace hoq:=hoq.mono hE.ext;replace h13:=h13.mono hE.ext;refine qq Z (qb _) (qq Z (qk rfl rfl) (qq Z (Qxi rfl rfl) (qq Z (qd _) (qq Z (Qai rfl) (QoN (xJ (xU (QwR (qq Z (Qmi rfl) (qq Z (g_neq rfl rfl) (qq Z (Qab rfl) (QoN (qh rfl ?_ ?_)))))))))))))
  ·
   intro hc25
   try simp only[zA,zO,zN,zI,zF,zM,zT,zU]at hc25
   rw[xS hc25]at hdef;refine QwR (qq Z (qs (pl:=[(0,1),(1,1),(2,1),(3,1)]) (cs:=[.bool _,.ig _,.ig _,.sg _ _ _]) uK uk (fun w=>by simp[Qm,xK,uy]) mp0 rfl) (qq Z (Qmi rfl) (qe (qf 0 Z ug rfl rfl rfl (vs:=[.bool _,.ig _,.ig _,.sg _ _ _]) rfl rfl rfl (xH rfl) (cs':=[_,_,_,_]) rfl) ?_)));clear Z;rintro _ w_7⟨rfl,Z⟩;refine qq Z (Qai rfl) (QoN (xO (Qq (ul ?_))));rw[hdef];refine ret2 JP (qw 0 Z ug uO rfl rfl rfl) (qg (v:=.ig _) rfl) ?_;exact⟨_,none,0,0,rfl,Z.nil,RSl.nilR⟩
  ·
   intro hc25
   try simp only[zA,zO,zN,zI,zF,zM,zT,zU]at hc25
   rw[xP (by rw[hc25]; decide)]at hdef;refine QwR (qq Z (qa (o':=0) uk rfl uy rfl rfl rfl) (qq Z (qc 2 QA rfl rfl rfl) (qq Z (qa (o':=0) uk rfl uy rfl rfl rfl) (qq Z (qc 1 QA rfl rfl rfl) (qq Z (g_neqb JQ rfl rfl) (qq Z (Qab rfl) (QoN (qh rfl ?_ ?_))))))))
   ·
    intro hc30;simp only[bne_iff_ne,ne_eq,bne_eq_false_iff_eq]at hc30;rw[xS hc30]at hdef;refine QwR (qq Z (qs (pl:=[(0,1),(1,1),(2,1),(3,1)]) (cs:=[.bool _,.ig _,.ig _,.sg _ _ _]) uK uk (fun w=>by simp[Qm,xK,uy]) mp0 rfl) (qe (qf 0 Z ug rfl rfl rfl (vs:=[.bool _,.ig _,.ig _,.sg _ _ _]) rfl rfl rfl (xH rfl) (cs':=[_,_,_,_]) rfl) ?_));clear Z;rintro _ w_8⟨rfl,Z⟩;refine qq Z (Qai rfl) (QoN (xO (Qq (ul ?_))));rw[hdef];refine ret2 JP (qw 0 Z ug uO rfl rfl rfl) (qg (v:=.ig _) rfl) ?_;exact⟨_,none,0,0,rfl,Z.nil,RSl.nilR⟩
   ·
    intro hc30;simp only[bne_iff_ne,ne_eq,bne_eq_false_iff_eq]at hc30;rw[xP (by rw[hc30]; simp)]at hdef;refine QwR (qq Z (qa (o':=2) uk rfl xK rfl rfl rfl) (qq Z (qc 2 xW rfl rfl rfl) (qq Z (qa (o':=1) uk rfl xK rfl rfl rfl) (qq Z (qc 1 xW rfl rfl rfl) (qq Z (g_neq rfl rfl) (qq Z (Qab rfl) (QoN (qh rfl ?_ ?_))))))))
    ·
     intro hc37
     try simp only[zA,zO,zN,zI,zF,zM,zT,zU]at hc37
     rw[xS hc37]at hdef;refine QwR (qq Z (qs (pl:=[(0,1),(1,1),(2,1),(3,1)]) (cs:=[.bool _,.ig _,.ig _,.sg _ _ _]) uK uk (fun w=>by simp[Qm,xK,uy]) mp0 rfl) (qe (qf 0 Z ug rfl rfl rfl (vs:=[.bool _,.ig _,.ig _,.sg _ _ _]) rfl rfl rfl (xH rfl) (cs':=[_,_,_,_]) rfl) ?_));clear Z;rintro _ w_9⟨rfl,Z⟩;refine qq Z (Qai rfl) (QoN (xO (Qq (ul ?_))));rw[hdef];refine ret2 JP (qw 0 Z ug uO rfl rfl rfl) (qg (v:=.ig _) rfl) ?_;exact⟨_,none,0,0,rfl,Z.nil,RSl.nilR⟩
    ·
     intro hc37
     try simp only[zA,zO,zN,zI,zF,zM,zT,zU]at hc37
     rw[xP (by omega)]at hdef;refine xM (uM (xL (QwR (qq Z (qb _) (qq Z (qb _) (qe (qi call28 rfl (through_e a13 a22 c13 c22 A.1 B.1 T _ _ Z.imm h13 h22 hwB hlB hT)) ?_))))));rintro _ w_10⟨I_f,a47,c47,rfl,hE,h47⟩;replace Z:=Z.callE hE;replace hops:=hops.mono hE.ext;replace hoq:=hoq.mono hE.ext;replace h13:=h13.mono hE.ext;replace h22:=h22.mono hE.ext;refine qq Z (qb _) (qq Z (qk rfl rfl) (qq Z (Qxi rfl rfl) (qq Z (qd _) (qq Z (Qai rfl) (QoN (xJ (QwR (qq Z (Qmi rfl) (qq Z (g_neq rfl rfl) (QoN (qh rfl ?_ ?_)))))))))))
     ·
      intro hc51
      try simp only[zA,zO,zN,zI,zF,zM,zT,zU]at hc51
      rw[xS hc51]at hdef;refine QwR (qq Z (qs (pl:=[(0,1),(1,1),(2,1),(3,1)]) (cs:=[.bool _,.ig _,.ig _,.sg _ _ _]) uK uk (fun w=>by simp[Qm,xK,uy]) mp0 rfl) (qq Z (Qmi rfl) (qe (qf 0 Z ug rfl rfl rfl (vs:=[.bool _,.ig _,.ig _,.sg _ _ _]) rfl rfl rfl (xH rfl) (cs':=[_,_,_,_]) rfl) ?_)));clear Z;rintro _ w_11⟨rfl,Z⟩;refine qq Z (Qai rfl) (QoN (xO (ul ?_)));rw[hdef];refine ret2 JP (qw 0 Z ug uO rfl rfl rfl) (qg (v:=.ig _) rfl) ?_;exact⟨_,none,0,0,rfl,Z.nil,RSl.nilR⟩
     ·
      intro hc51
      try simp only[zA,zO,zN,zI,zF,zM,zT,zU]at hc51
      rw[xP (by rw[hc51]; decide)]at hdef;refine xM (xL (QwR (qq Z (qb _) (qq Z (qa (o':=1) uk rfl xK rfl rfl rfl) (qq Z (qc 2 xW rfl rfl rfl) (qe (qi call29 rfl (cheapest_e a47 T.1.length c47 T.1 p.in_ C.1 C.2 _ _ Z.imm h47 rfl hABw hC)) ?_))))));rintro _ w_12⟨I_f,a58,m58,c58,rfl,hE,h58⟩;replace Z:=Z.callE hE;replace hops:=hops.mono hE.ext;replace hoq:=hoq.mono hE.ext;replace h13:=h13.mono hE.ext;replace h22:=h22.mono hE.ext;replace h47:=h47.mono hE.ext;refine qq Z (qb _) (qq Z (qk rfl rfl) (qq Z (Qxi rfl rfl) (qe (qr (cs:=[.bool _,.ig _,.ig _,.sg _ _ _]) Z uK rfl) ?_)));clear Z;rintro _ w_13⟨b10,rfl,Z⟩;refine qe (qf 0 Z ug rfl rfl rfl (vs:=[.bool _,.ig _,.ig _,.sg _ _ _]) rfl rfl rfl (xH rfl) (cs':=[_,_,_,_]) rfl) ?_;clear Z;rintro _ w_14⟨rfl,Z⟩;refine qq Z (Qai rfl) (QoN (xJ (QwR (qq Z (Qmi rfl) (qq Z (g_neq rfl rfl) (QoN (qh rfl ?_ ?_)))))))
      ·
       intro hc62
       try simp only[zA,zO,zN,zI,zF,zM,zT,zU]at hc62
       rw[xS hc62]at hdef;refine QwR (qq Z (qs (pl:=[(0,1),(1,1),(2,1),(3,1)]) (cs:=[.bool _,.ig _,.ig _,.sg _ _ _]) uK uk (fun w=>by simp[Qm,xK,uy]) mp0 rfl) (qq Z (Qmi rfl) (qe (qf 1 Z ug rfl rfl rfl (vs:=[.bool _,.ig _,.ig _,.sg _ _ _]) rfl rfl rfl (xH rfl) (cs':=[_,_,_,_]) rfl) ?_)));clear Z;rintro _ w_15⟨rfl,Z⟩;refine qq Z (Qai rfl) (QoN (xO (ul ?_)));rw[hdef];refine ret2 JP (qw 1 Z ug uO rfl rfl rfl) (qg (v:=.ig _) rfl) ?_;exact⟨_,none,0,0,rfl,Z.nil,RSl.nilR⟩
      ·
       intro hc62
       try simp only[zA,zO,zN,zI,zF,zM,zT,zU]at hc62
       rw[xP (by rw[hc62]; decide)]at hdef;refine xM (xL (QwR (qq Z (qa (o':=0) uk rfl uy rfl rfl rfl) (qq Z (qc 3 QA rfl rfl rfl) (qq Z (qa (o':=0) uk rfl uy rfl rfl rfl) (qe (qf 0 Z uy rfl rfl rfl (vs:=[.bool _]) rfl rfl rfl (xH rfl) (cs':=[_,_,_,_]) rfl) ?_))))));clear Z;rintro _ w_16⟨rfl,Z⟩;refine QoR (qq Z (g_ldO 0 (vs:=[.bool _,.ig _,.ig _,.sg _ _ _]) ug uO rfl rfl rfl rfl) (qe (qf 1 Z ug rfl rfl rfl (vs:=[.bool _,.ig _,.ig _,.sg _ _ _]) rfl rfl rfl (xH rfl) (cs':=[_,_,_,_]) rfl) ?_));clear Z;rintro _ w_17⟨rfl,Z⟩;refine qq Z (Qai rfl) (QoN (xO ?_));rw[hdef];refine ret2 JP (qw 1 Z ug uO rfl rfl rfl) (qg (v:=.ig _) rfl) ?_;exact⟨_,a58,m58,c58,rfl,Z.nil,h58⟩
end Go.Proofs.YtgkgihnpjgbmhaaGreatDoor
namespace Go.Proofs.YtgkgihnpjgbmhaaGreatDoor
open Tryz
open Go Go.RowKit Go.Inl
end Go.Proofs.YtgkgihnpjgbmhaaGreatDoor
namespace Go.Proofs.YtgkgihnpjgbmhaaGreatDoor
open Tryz
open Go Go.RowKit Go.Inl
/-! ### Bytes -/
def runB (old:List Int)(s:Sym):Int:=if s.old then IntKind.u8.wrap (s.b+old.getD s.at_.toNat 0) else s.b
def runP (old:List Int)(l:List Sym):List Int×Int:=if l.any (badT old.length) then ([],61) else (l.map (runB old),0)
theorem runP_bad {a:List Int}{b:List Sym}{s:Sym}(hs:s∈b)(h:badT a.length s=true):runP a b=([],61):=by
 unfold runP; rw[xS (List.any_eq_true.2 ⟨s,hs,h⟩)]
theorem runP_good {a:List Int}{b:List Sym}(h:∀s∈b,badT a.length s=false):runP a b=(b.map (runB a),0):=by
 unfold runP;rw[xP];intro hb;obtain⟨s,hs,h1⟩:=List.any_eq_true.1 hb;rw[h s hs]at h1; cases h1
theorem xE {a:List Int}{s:Sym}(h:s.old=false):runB a s=s.b:=by unfold runB; rw[h]; rfl
theorem vk {a:List Int}{s:Sym}{x:Int}(h:s.old=true)(hx:a[s.at_.toNat]? = some x):runB a s=IntKind.u8.wrap (s.b+x):=by
 unfold runB;rw[h,xT,hx]; rfl
theorem runB_bd {a:List Int}{s:Sym}(hs:s.wf):0≤runB a s∧runB a s≤255:=by
 unfold runB;split
 · rw[wrap8]; omega
 · exact hs.2.2
theorem run_thr (old:List Int)(x:List Sym)(s:Sym)(h:s.old=true→s.at_.toNat < x.length):runB (x.map (runB old)) s=runB old (thr x s):=by
 cases ho:s.old with
 | false=>rw[xE ho,xe ho]; rfl
 | true =>
   have hin:=h ho;rw[xd ho];have e:x.getD s.at_.toNat z0=x[s.at_.toNat]:=by rw[xT,xI hin]; rfl
   have e2:(x.map (runB old))[s.at_.toNat]? = some (runB old x[s.at_.toNat]):=by rw[uW,xI hin]; rfl
   rw[e,vk ho e2];unfold runB;dsimp only;split
   · simp only[wrap8]; omega
   · rw[Int.add_comm]
set_option maxHeartbeats 1000000 in
theorem run_c (ad bd : Option Addr) (cap capb : Nat) (lo : List Int) (l : List Sym) (w0 : World) (I0 : Imm) (hI : Sat I0 w0) (ha : RBytes I0 (.sg ad lo.length cap) lo) (hb : RSyms I0 (.sg bd l.length capb) l) (hwb : ∀ s ∈ l, s.wf) (hn : l.length ≤ 65536) :
 Ctr prog 32 [.sg ad lo.length cap,.sg bd l.length capb] w0 (fun v w'=>∃I' a c,v = .tuple #[.slice a (runP lo l).1.length c,.ig (runP lo l).2]∧Ext w0 I0 w' I'∧RBytes I' (.slice a (runP lo l).1.length c) (runP lo l).1):=by
 have hll:=RSl.le hb;have hlla:=RSl.le ha;simp only[maxLen]at hll hlla;refine fn (n:=46) func32 rfl rfl rfl ?_;have Z:=St.start hI;refine QwR (qq Z (qd _) (qq Z (Qai rfl) (QoR (qq Z (qb _) (qq Z (qo rfl uN hb rfl) (qe (xo Z xQ QP rfl rfl (by omega) (by omega) (by omega)) ?_))))));clear Z;rintro _ w_1⟨a11,p11,rfl,Z⟩;refine qq Z (qd _) (QoN (xJ (QwR (qq Z (qb _) (qq Z (qo rfl uN hb rfl) (qq Z (Qmi rfl) (QoN (xU (loop (fun(x:Nat×Option Addr×Nat) σ w=>okS σ [(0,.sg ad lo.length cap),(6,.sg x.2.1 x.1 x.2.2),(12,.sg bd l.length capb),(13,.ig l.length),(14,.ig x.1)]∧St [] w0 I0 I0 w [.row (.sg x.2.1 x.1 x.2.2) 5 1 x.1 (flat byteC ((l.take x.1).map (runB lo)))]∧x.1≤l.length∧∀s∈l.take x.1,badT lo.length s=false) (fun x=>l.length - x.1) ((0,a11,p11)) ?_ ?_)))))))))
 ·
  exact⟨⟨rfl,rfl,rfl,rfl,rfl,trivial⟩,Z.sel [true],by simp,by simp⟩
 ·
  rintro⟨k,a,c⟩σ w_l⟨hs,Z,hk0,hbad⟩;dsimp only at hs Z hk0 hbad ⊢;rw[← qj hs]; clear hs
  refine QwR (qq Z (g_lss rfl rfl) (QoN (xJ (qh rfl ?_ ?_))))
  ·
   intro hc15
   try simp only[zA,zO,zN,zI,zF,zM,zT,zU]at hc15
   obtain⟨s,hsi⟩:∃s,l[k]? = some s:=⟨_,xI (by omega)⟩
   have hsA:=hb.at hsi;have hsm:=xR hsi;obtain⟨sw1,sw2,sw3,sw4⟩:=hwb s hsm;refine xM (xL (xJ (xU (QwR (qq Z (g_ixI uN uQ hb rfl rfl (by omega) (by omega)) (qq Z (g_ldE (us:=[.bool _,.ig _,.bg _]) uQ QJ hsA rfl rfl rfl) (qe (qr (cs:=[.bool _,.ig _,.bg _]) Z QD rfl) ?_)))))));clear Z;rintro _ w_2⟨b8,rfl,Z⟩;refine qe (qf 0 Z uQ rfl rfl rfl (vs:=[.bool _,.ig _,.bg _]) rfl rfl rfl (xH rfl) (cs':=[_,_,_]) rfl) ?_;clear Z;rintro _ w_3⟨rfl,Z⟩;refine QoN (meet (fun σ w=>okS σ [(0,.sg ad lo.length cap),(6,.sg a k c),(12,.sg bd l.length capb),(13,.ig l.length),(14,.ig k),(8,.zg b8)]∧St [] w0 I0 I0 w [.cel b8 80 [.bool s.old,.ig s.at_,.bg (runB lo s)],.row (.sg a k c) 5 1 k (flat byteC ((l.take k).map (runB lo)))]∧badT lo.length s=false) ?_ ?_)
   ·
    refine QwR (qq Z (qa (o':=0) uF rfl uy rfl rfl rfl) (qq Z (qc 0 QA rfl rfl rfl) (QoN (qh rfl ?_ ?_))))
    ·
     intro hc19
     try simp only[zA,zO,zN,zI,zF,zM,zT,zU]at hc19
     have hso:s.old=true:=hc19;refine xJ (QwR (qq Z (qa (o':=1) uF rfl xK rfl rfl rfl) (qq Z (qc 0 xW rfl rfl rfl) (qq Z (g_lss rfl rfl) (qq Z (Qmb rfl) (qu rfl rfl Z (fun hg=>(qa (o':=1) uF rfl xK rfl rfl rfl)) ?_))))));intro u24 hu24 hn24;refine qu rfl rfl Z (fun hg=>(qc 0 xW rfl (hu24 hg) rfl)) ?_;intro u25 hu25 hn25;refine qu rfl rfl Z (fun hg=>(qb _)) ?_;intro u26 hu26 hn26;refine qu rfl rfl Z (fun hg=>(qo rfl xQ ha (hu26 hg))) ?_;intro u27 hu27 hn27;refine qu rfl rfl Z (fun hg=>(g_geq (hu25 hg) (hu27 hg))) ?_;intro u28 hu28 hn28;refine qq Z (g_or rfl rfl (fun hq=>hu28 hq)) (QoN (qh rfl ?_ ?_))
     ·
      intro hc29;clear hu24 hn24 hu25 hn25 hu26 hn26 hu27 hn27 hu28 hn28;have hbd:badT lo.length s=true:=by unfold badT; rw[hso,Bool.true_and]; exact hc29
      have e:=runP_bad hsm hbd;refine QwR (qq Z (qd _) (qq Z (Qai rfl) (QoN (xO (ul (ul (Qq (ul (ul (Qq (ul (ret2 results32 (qg rfl) (qg (v:=.ig _) rfl) ?_))))))))))));rw[e]; exact⟨_,none,0,rfl,Z.nil,RFl.nil⟩
     ·
      intro hc29;clear hu24 hn24 hu25 hn25 hu26 hn26 hu27 hn27 hu28 hn28;have hbd:badT lo.length s=false:=by unfold badT; rw[hso,Bool.true_and]; exact hc29
      simp only[QF,xZ]at hc29;have hin:s.at_.toNat < lo.length:=by omega
      obtain⟨x,hxi⟩:∃x,lo[s.at_.toNat]? = some x:=⟨_,xI hin⟩
      have hxA:=ha.at hxi;have ht:=vk hso hxi;refine xM (xL (draw (.pg 0 (.hg 1 (.pg 2 (.pg 3 (.hg 4 (.pg 5 (.hg 6 (.pg 7 (.pg 8 (.cons 9 .bar .nil)))))))))) mixed (by kernel_rfl) Z ?_));intro w_4 Z;refine sp rfl (qa (o':=2) uF rfl un rfl rfl rfl) (sh rfl (qc 0 uZ rfl rfl rfl) (sp rfl (qb _) (sp rfl (qa (o':=1) uF rfl xK rfl rfl rfl) (sh rfl (qc 0 xW rfl rfl rfl) (sp rfl (g_ixI xQ un ha rfl rfl (by omega) (by omega)) (sh rfl (qt uZ hxA rfl rfl) (sp rfl (yn rfl rfl) (sp rfl (qa (o':=2) uF rfl un rfl rfl rfl) ?_))))))));refine sb rfl (qf 0 Z un rfl rfl rfl (vs:=[.bg _]) rfl rfl rfl (xH rfl) (cs':=[_,_,_]) rfl) ?_;rintro _ w_5⟨rfl,Z⟩;refine⟨_,_,Z,sn (xL (⟨_,rfl,⟨rfl,rfl,rfl,rfl,rfl,rfl,trivial⟩,?_,hbd⟩))⟩;rw[ht];exact Z.sel [true,true]
    ·
     intro hc19
     try simp only[zA,zO,zN,zI,zF,zM,zT,zU]at hc19
     have hso:s.old=false:=hc19;have hbd:badT lo.length s=false:=by unfold badT; rw[hso]; rfl
     have ht:=xE (a:=lo) hso;refine xM (xL (⟨_,rfl,⟨rfl,rfl,rfl,rfl,rfl,rfl,trivial⟩,?_,hbd⟩));rw[ht];exact Z.sel [true,true]
   ·
    rintro σ w⟨hs,Z,hbd⟩;rw[← qj hs];refine reg (qq Z (qb _) (qq Z (qa (o':=2) uF rfl un rfl rfl rfl) (qq Z (qc 0 uZ rfl rfl rfl) ?_)));refine qe (d_lit (vs:=[.bg _]) (cs:=[.bg _]) Z xQ un QZ rfl rfl rfl rfl (fun v hv=>by simp only[xV,xY,or_false]at hv; subst hv; rfl) rfl) ?_;clear Z;rintro _ w_6⟨b_6,rfl,Z⟩;refine qe (qB 2 0 Z rfl xQ QP rfl rfl rfl rfl rfl rfl rfl rfl (by omega) (by omega)) ?_;clear Z;rintro _ w_7⟨a43,p43,rfl,Z⟩;refine qq Z (qd _) (qy (uM (xL (reg (qq Z (g_add rfl rfl (by omega) (by omega)) (qq Z (Qmi rfl) ?_))))));refine⟨(k+1,a43,p43),_,rfl,⟨⟨rfl,rfl,rfl,rfl,rfl,trivial⟩,?_,by dsimp only; omega,zB hsi hbad hbd⟩,by dsimp only; omega⟩;dsimp only;rw[qz hsi,Qp,ql,Qt,List.map_nil,qS];exact Z.sel [false,false,true]
  ·
   intro hc15
   try simp only[zA,zO,zN,zI,zF,zM,zT,zU]at hc15
   have hk:k=l.length:=by omega
   subst hk;rw[uL]at Z hbad;have e:=runP_good hbad;refine ur (um (um (Qi (xL (QwR (qq Z (qb _) (qq Z (qd _) (qq Z (Qai rfl) (QoN (xO (ret2 results32 (qg rfl) (qg (v:=.ig _) rfl) ?_)))))))))));obtain⟨I1,hE1,hI1,hd1⟩:=jf qA (xs:=l.map (runB lo)) (Z.sel [true]) (by simp);have hlm:(l.map (runB lo)).length=l.length:=Qb _;have hl1:(runP lo l).1.length=l.length:=by rw[e]; exact hlm
   rw[hl1];exact⟨I1,a,c,by rw[e]; rfl,hE1,by rw[e]; exact hd1⟩
theorem sameB_c (va vb : Value) (a b : List Int) (w0 : World) (I0 : Imm) (hI : Sat I0 w0) (ha : RBytes I0 va a) (hb : RBytes I0 vb b) :
 Ctr prog 11 [va,vb] w0 (fun v w'=>v = .bool (decide (a=b))∧Ext w0 I0 w' I0):=by
 have hla:=RSl.le ha;have hlb:=RSl.le hb;simp only[maxLen]at hla hlb;refine fn (n:=26) func11 rfl rfl rfl ?_;have Z:=St.start hI;refine QwR (qq Z (Qab rfl) (QoN (xJ (QwR (qq Z (qb _) (qq Z (qo rfl xQ ha rfl) (qq Z (qb _) (qq Z (qo rfl xQ hb rfl) (qq Z (g_neq rfl rfl) (QoN (qh rfl ?_ ?_)))))))))))
 ·
  intro hc10
  try simp only[zA,zO,zN,zI,zF,zM,zT,zU]at hc10
  have e:decide (a=b)=false:=uw (fun h=>by rw[h]at hc10; exact hc10 rfl);refine QwR (qq Z (Qab rfl) (QoN (xO (ul (ret1 results11 (qg (v:=.bool _) rfl) ?_)))));rw[e]; exact⟨rfl,Z.nil⟩
 ·
  intro hc10
  try simp only[zA,zO,zN,zI,zF,zM,zT,zU]at hc10
  have hlen:a.length=b.length:=by omega
  refine xM (xL (xJ (QwR (qq Z (Qai rfl) (QoN (xU (loop (fun(k:Nat) σ w=>okS σ [(0,va),(1,vb),(5,.ig k)]∧St [] w0 I0 I0 w []∧k≤a.length∧a.take k=b.take k) (fun k=>a.length - k) (0) ?_ ?_)))))))
  ·
   exact⟨⟨rfl,rfl,rfl,trivial⟩,Z.sel [],by omega,by simp⟩
  ·
   rintro k σ w_l⟨hs,Z,hk0,heq⟩;rw[← qj hs]; clear hs
   refine xJ (QwR (qq Z (Qmi rfl) (qq Z (qb _) (qq Z (qo rfl xQ ha rfl) (qq Z (g_lss rfl rfl) (QoN (qh rfl ?_ ?_)))))))
   ·
    intro hc14
    try simp only[zA,zO,zN,zI,zF,zM,zT,zU]at hc14
    obtain⟨x,hxi⟩:∃x,a[k]? = some x:=⟨_,xI (by omega)⟩
    obtain⟨y,hyi⟩:∃y,b[k]? = some y:=⟨_,xI (by omega)⟩
    have hxA:=ha.at hxi;have hyA:=hb.at hyi;refine xM (xL (xJ (xU (xJ (draw (.pg 0 (.pg 1 (.pg 2 (.hg 3 (.pg 4 (.pg 5 (.pg 6 (.hg 7 (.pg 8 .nil))))))))) mixed (by kernel_rfl) Z ?_)))));intro w_1 Z;refine sp rfl (qb _) (sp rfl (Qmi rfl) (sp rfl (g_ixI xQ un ha rfl rfl (by omega) (by omega)) (sh rfl (qt uZ hxA rfl rfl) (sp rfl (qb _) (sp rfl (Qmi rfl) (sp rfl (g_ixI xQ un hb rfl rfl (by omega) (by omega)) (sh rfl (qt uZ hyA rfl rfl) (sp rfl (g_neq rfl rfl) (sn (xL (qh rfl ?_ ?_)))))))))))
    ·
     intro hc25
     try simp only[zA,zO,zN,zI,zF,zM,zT,zU]at hc25
     have e:decide (a=b)=false:=uw (fun h=>by rw[h,hyi]at hxi; exact hc25 (Option.some.inj hxi).symm);refine QwR (qq Z (Qab rfl) (QoN (xO (Qq (ul (ul (Qq (ul (ret1 results11 (qg (v:=.bool _) rfl) ?_)))))))));rw[e]; exact⟨rfl,Z.nil⟩
    ·
     intro hc25
     try simp only[zA,zO,zN,zI,zF,zM,zT,zU]at hc25
     have hnext:a.take (k+1)=b.take (k+1):=by rw[qz hxi,qz hyi,heq,hc25]
     refine xM (uM (xL (reg (qq Z (Qmi rfl) (qq Z (g_add rfl rfl (by omega) (by omega)) (qq Z (Qai rfl) ?_))))));exact⟨k+1,_,rfl,⟨⟨rfl,rfl,rfl,trivial⟩,Z.sel [],by omega,hnext⟩,by omega⟩
   ·
    intro hc14
    try simp only[zA,zO,zN,zI,zF,zM,zT,zU]at hc14
    have e:decide (a=b)=true:=uH (by
     have:=heq;rwa [QC (by omega),QC (by omega)]at this)
    refine ur (um (um (Qi (xL (QwR (qq Z (Qab rfl) (QoN (xO (ret1 results11 (qg (v:=.bool _) rfl) ?_)))))))));rw[e]; exact⟨rfl,Z.nil⟩
end Go.Proofs.YtgkgihnpjgbmhaaGreatDoor
namespace Go.Proofs.YtgkgihnpjgbmhaaGreatDoor
open Tryz
open Go Go.RowKit Go.Inl
end Go.Proofs.YtgkgihnpjgbmhaaGreatDoor
