/- inlayref30: Valid, Add, Withdraw, sameLinks, Same, SameOffer: what they compute. Conditions: good servers where it is said. -/
import Derived.Test.YtcajgkfgjpfmaaaGreatKRs
import Derived.Test.YtcajgkfgjpfmaaaGreatCore32
import Derived.Test.YtcajgkfgjpfmaaaGreatKCut
set_option linter.unusedSimpArgs false
set_option linter.unusedVariables false
namespace Go.Proofs.YtcajgkfgjpfmaaaGreat
open Tryz
open Go Go.RowKit Go.Inl
theorem RPatC.one30 {I:Imm}(cs:List Value)(p:PatL)(h:RPatC I cs p):cs.all (·.oneCell')=true:=by
 obtain⟨ad,m,cap,rfl,_⟩:=h; rfl
theorem sameR_r (p : PatL) (ad bd : Option Addr) (m cap mb capb : Nat) (w0 : World) (I0 : Imm) (hI : Sat I0 w0) (hops : ROps I0 (.slice ad m cap) p.ops) (hp : p.wf) (hoq : ROps I0 (.slice bd mb capb) p.ops) :
 Ctr prog 52 [.agg #[.bool p.lifted,.int .i64 p.in_,.int .i64 p.out,.slice ad m cap],.agg #[.bool p.lifted,.int .i64 p.in_,.int .i64 p.out,.slice bd mb capb]] w0 (fun v w'=>v = .bool true∧Ext w0 I0 w' I0) :=
 sameR_e p p ad bd m cap mb capb true w0 I0 hI hops hp hoq hp (vp p)
theorem neqLk (k:LnkL){n:Nat}{σ:Nat→Value}{S:World→Prop}{ty t':TypeId}{x y:Operand}(hx:ev n σ x = .agg #[.int .i64 k.f,.int .i64 k.t,.int .i64 k.c,.int .i64 k.n.s,.int .i64 k.n.u,.int .i64 k.n.r,.int .i64 k.n.e,.int .i64 k.n.o])(hy:ev n σ y = .agg #[.int .i64 k.f,.int .i64 k.t,.int .i64 k.c,.int .i64 k.n.s,.int .i64 k.n.u,.int .i64 k.n.r,.int .i64 k.n.e,.int .i64 k.n.o]):Gives prog (ev n σ) S (.binOp .neq 60 x y t') ty (.bool false):=fun w hw=>by
 have hg:(eqGuard .neq 60 x y (.agg #[.int .i64 k.f,.int .i64 k.t,.int .i64 k.c,.int .i64 k.n.s,.int .i64 k.n.u,.int .i64 k.n.r,.int .i64 k.n.e,.int .i64 k.n.o]) (.agg #[.int .i64 k.f,.int .i64 k.t,.int .i64 k.c,.int .i64 k.n.s,.int .i64 k.n.u,.int .i64 k.n.r,.int .i64 k.n.e,.int .i64 k.n.o])).run prog w = .ok () w:=by simp[eqGuard,go_sem,eqGuardType60]
 have hb:(binOp .neq 60 (.agg #[.int .i64 k.f,.int .i64 k.t,.int .i64 k.c,.int .i64 k.n.s,.int .i64 k.n.u,.int .i64 k.n.r,.int .i64 k.n.e,.int .i64 k.n.o]) (.agg #[.int .i64 k.f,.int .i64 k.t,.int .i64 k.c,.int .i64 k.n.s,.int .i64 k.n.u,.int .i64 k.n.r,.int .i64 k.n.e,.int .i64 k.n.o])).run prog w = .ok (.bool false) w:=by
  simp[go_sem]
 simp only[execOp,hx,hy,Sem.run_bind,hg,Result.andThen_ok,hb]; rfl
theorem alone_eq (l:LnkL):validG ⟨insI [loE l.f l.t] (hiE l.f l.t),[l]⟩=validG ⟨[loE l.f l.t,hiE l.f l.t],[l]⟩:=by
 by_cases h:l.f=l.t
 · have no:∀vs,validG ⟨vs,[l]⟩=false:=fun vs=>by
    cases e:validG ⟨vs,[l]⟩ with
    | false=>rfl
    | true=>exact absurd h ((kQ.1 e).ls l (by simp)).ne
   rw[no,no]
 · have:insI [loE l.f l.t] (hiE l.f l.t)=[loE l.f l.t,hiE l.f l.t]:=by
    unfold loE hiE;split <;> split <;> simp only[insI] <;> first | (rw[ui (by omega)]) | omega
   rw[this]
theorem alone_lnk {l:LnkL}(h:validG ⟨[loE l.f l.t,hiE l.f l.t],[l]⟩=true):LnkG [loE l.f l.t,hiE l.f l.t] l∧0≤l.f∧l.f≤60000∧0≤l.t∧l.t≤60000:=by
 have hv:=kQ.1 h;have h1:=hv.ls l (by simp);have h2:=hv.vb _ h1.f;have h3:=hv.vb _ h1.t;exact⟨h1,h2.1,h2.2,h3.1,h3.2⟩
theorem addG_val {s:SrvL}(hg:GoodS s){l:LnkL}(h:validG ⟨[loE l.f l.t,hiE l.f l.t],[l]⟩=true):validG (addG s l)=true↔(addG s l).ls.length≤64∧(addG s l).vs.length≤16:=by
 obtain⟨h1,h2,h3,h4,h5⟩:=alone_lnk h;have hV:=kQ.1 hg.val;rw[kQ];constructor
 · rintro⟨a,b,_⟩; exact⟨b,a⟩
 · rintro ⟨b, a⟩
   have hmem:∀u,u∈(addG s l).vs↔u=l.t∨u=l.f∨u∈s.g.vs:=fun u=>by
    show u∈insI (insI s.g.vs l.f) l.t↔_
    rw[jN,jN]
   refine⟨a,b,jb (jb hV.inc),fun u hu=>?_,fun k hk=>?_⟩
   · rcases (hmem u).1 hu with rfl | rfl | h
     · omega
     · omega
     · exact hV.vb u h
   · rcases uX.1 hk with hk | hk
     · obtain ⟨a, b, c, d, e, f⟩ := hV.ls k hk
       exact⟨(hmem _).2 (.inr (.inr a)),(hmem _).2 (.inr (.inr b)),c,d,e,f⟩
     · rw [uL] at hk
       subst hk;exact⟨(hmem _).2 (.inr (.inl rfl)),(hmem _).2 (.inl rfl),h1.ne,h1.c0,h1.c1,h1.n⟩
theorem sameLinks_c (g : GrL) (a0 a1 d0 d1 : Option Addr) (c0 c1 e0 e1 : Nat) (w0 : World) (I0 : Imm) (hI : Sat I0 w0) (hG : RGr I0 a0 c0 a1 c1 g) (hH : RGr I0 d0 e0 d1 e1 g) :
 Ctr prog 51 [.agg #[.slice a0 g.vs.length c0,.slice a1 g.ls.length c1],.agg #[.slice d0 g.vs.length e0,.slice d1 g.ls.length e1]] w0 (fun v w'=>v = .bool true∧Ext w0 I0 w' I0):=by
 have hle:=RSl.le hG.ls;simp only[maxLen]at hle;refine fn (n:=39) func51 rfl rfl rfl ?_;have hS:=St.start hI;refine QwR (qe (d_box (cs:=[.slice _ _ _,.slice _ _ _]) hS rfl) ?_);clear hS;rintro _ w_1⟨b2,rfl,hS⟩;refine qe (d_box (cs:=[.slice _ _ _,.slice _ _ _]) hS rfl) ?_;clear hS;rintro _ w_2⟨b3,rfl,hS⟩;refine qq hS (Qab rfl) (QoN (xL (QwR (qq hS (qb (o':=0) ut rfl uo rfl rfl rfl) (qq hS (qi 1 uF rfl rfl rfl) (qq hS (qb (o':=0) ut rfl uo rfl rfl rfl) (qq hS (qi 0 uF rfl rfl rfl) (qe (ql Zf rfl (vB a0 d0 c0 e0 g.vs g.vs _ _ hS.imm hG.vs hH.vs)) ?_))))))));rintro _ w_3⟨rfl,hE⟩;replace hS:=hS.callE hE;refine qq hS (g_not rfl) (qq hS (Qmb rfl) (qu rfl rfl hS (fun hg=>(qb (o':=1) ut rfl uZ rfl rfl rfl)) ?_));intro u13 hu13 hn13;refine qu rfl rfl hS (fun hg=>(qi 1 Jm rfl (hu13 hg) rfl)) ?_;intro u14 hu14 hn14;refine qu rfl rfl hS (fun hg=>(qz rfl uy hG.ls (hu14 hg))) ?_;intro u15 hu15 hn15;refine qu rfl rfl hS (fun hg=>(qb (o':=1) ut rfl uZ rfl rfl rfl)) ?_;intro u16 hu16 hn16;refine qu rfl rfl hS (fun hg=>(qi 0 Jm rfl (hu16 hg) rfl)) ?_;intro u17 hu17 hn17;refine qu rfl rfl hS (fun hg=>(qz rfl uy hH.ls (hu17 hg))) ?_;intro u18 hu18 hn18;refine qu rfl rfl hS (fun hg=>(g_neq (hu15 hg) (hu18 hg))) ?_;intro u19 hu19 hn19;refine qq hS (g_or rfl rfl (fun hq=>hu19 hq)) (QoN (qo rfl ?_ ?_))
 ·
  intro hc20;clear hu13 hn13 hu14 hn14 hu15 hn15 hu16 hn16 hu17 hn17 hu18 hn18 hu19 hn19;exfalso
  simp at hc20
 ·
  intro hc20;clear hu13 hn13 hu14 hn14 hu15 hn15 hu16 hn16 hu17 hn17 hu18 hn18 hu19 hn19;refine xZ (xN (xL (QwR (qq hS (Qai rfl) (QoN (uk (loop (fun(i:Nat) σ w=>okS σ [(2,.pointer (some ⟨b2,0,none⟩)),(3,.pointer (some ⟨b3,0,none⟩)),(5,.int .i64 i)]∧St [] w0 I0 I0 w [.cel b3 34 [.slice d0 g.vs.length e0,.slice d1 g.ls.length e1],.cel b2 34 [.slice a0 g.vs.length c0,.slice a1 g.ls.length c1]]∧i≤g.ls.length) (fun i=>g.ls.length - i) (0) ?_ ?_)))))))
  ·
   exact⟨⟨rfl,rfl,rfl,trivial⟩,hS.sel [true,true],by omega⟩
  ·
   rintro i σ w_l⟨hs,hS,hi0⟩;rw[← qx hs]; clear hs
   refine xL (QwR (qq hS (Qmi rfl) (qq hS (qb (o':=1) ut rfl uZ rfl rfl rfl) (qq hS (qi 1 Jm rfl rfl rfl) (qq hS (qz rfl uy hG.ls rfl) (qq hS (g_lss rfl rfl) (QoN (qo rfl ?_ ?_))))))))
   ·
    intro hc25
    try simp only[zA,zO,zN,zI,zF,zM,zT,zU]at hc25
    obtain⟨k,hki⟩:∃x,g.ls[i]? = some x:=⟨_,xW (by omega)⟩
    have hxA:=hG.ls.at hki;have hyA:=hH.ls.at hki;refine xZ (xN (xL (uk (xL (draw (.cons 0 .pure (.cons 1 .held (.cons 2 .pure (.cons 3 .pure (.cons 4 .held (.cons 5 .pure (.cons 6 .held (.cons 7 .pure (.cons 8 .pure (.cons 9 .held (.cons 10 .pure .nil))))))))))) mixed (by kernel_rfl) hS ?_)))));intro w_4 hS;refine sp rfl (qb (o':=1) ut rfl uZ rfl rfl rfl) (sh rfl (qi 1 Jm rfl rfl rfl) (sp rfl (Qmi rfl) (sp rfl (g_ixI uy uM hG.ls rfl rfl (by omega) (by omega)) (sh rfl (g_ldE (us:=[.int .i64 _,.int .i64 _,.int .i64 _,.int .i64 _,.int .i64 _,.int .i64 _,.int .i64 _,.int .i64 _]) uM Jv hxA rfl rfl rfl) ?_))));refine sp rfl (qb (o':=1) ut rfl uZ rfl rfl rfl) (sh rfl (qi 0 Jm rfl rfl rfl) (sp rfl (Qmi rfl) (sp rfl (g_ixI uy uM hH.ls rfl rfl (by omega) (by omega)) (sh rfl (g_ldE (us:=[.int .i64 _,.int .i64 _,.int .i64 _,.int .i64 _,.int .i64 _,.int .i64 _,.int .i64 _,.int .i64 _]) uM Jv hyA rfl rfl rfl) ?_))));refine sp rfl (neqLk k rfl rfl) (sn (xN (qV (rfl) (xZ (Qh (xN (reg (qq hS (Qmi rfl) (qq hS (g_add rfl rfl (by omega) (by omega)) (qq hS (Qai rfl) ?_))))))))));exact⟨i+1,_,rfl,⟨⟨rfl,rfl,rfl,trivial⟩,hS.sel [true,true],by omega⟩,by omega⟩
   ·
    intro hc25
    try simp only[zA,zO,zN,zI,zF,zM,zT,zU]at hc25
    obtain rfl:i=g.ls.length:=by omega
    refine uD (uA (uA (Qw (xN (QwR (qq hS (Qab rfl) (QoN (ub (ret1 results51 (qr (v:=.bool _) rfl) ?_)))))))));exact⟨rfl,Ext.forget hS.nil⟩
set_option maxHeartbeats 2000000 in
theorem jD (s : SrvL) (A D : SrvA) (w0 : World) (I0 : Imm) (hI : Sat I0 w0) (hs : RSrv I0 A s) (ht : RSrv I0 D s) (hpw : ∀ p ∈ s.ps, p.wf) (hcw : ∀ d ∈ s.cache, d.p.wf) :
 Ctr prog 20 [.agg #[.slice A.a0 s.g.vs.length A.c0,.slice A.a1 s.g.ls.length A.c1,.slice A.a2 s.ps.length A.c2,.slice A.a3 s.gone.length A.c3,.slice A.a4 s.cache.length A.c4],.agg #[.slice D.a0 s.g.vs.length D.c0,.slice D.a1 s.g.ls.length D.c1,.slice D.a2 s.ps.length D.c2,.slice D.a3 s.gone.length D.c3,.slice D.a4 s.cache.length D.c4]] w0 (fun v w'=>v = .bool true∧Ext w0 I0 w' I0):=by
 have hle:=RSl.le hs.ps;have hlc:=RSl.le hs.cache;simp only[maxLen]at hle hlc;refine fn (n:=95) func20 rfl rfl rfl ?_;have hS:=St.start hI;refine QwR (qe (d_box (cs:=[.slice _ _ _,.slice _ _ _,.slice _ _ _,.slice _ _ _,.slice _ _ _]) hS rfl) ?_);clear hS;rintro _ w_1⟨b2,rfl,hS⟩;refine qe (d_box (cs:=[.slice _ _ _,.slice _ _ _,.slice _ _ _,.slice _ _ _,.slice _ _ _]) hS rfl) ?_;clear hS;rintro _ w_2⟨b3,rfl,hS⟩;refine qq hS (Qab rfl) (QoN (xL (QwR (qq hS (qb (o':=0) un rfl uv rfl rfl rfl) (qq hS (g_ldO 1 (vs:=[.slice _ _ _,.slice _ _ _]) uv Je rfl rfl rfl rfl) (qq hS (qb (o':=0) un rfl uv rfl rfl rfl) (qq hS (g_ldO 0 (vs:=[.slice _ _ _,.slice _ _ _]) uv Je rfl rfl rfl rfl) (qe (ql call51 rfl (sameLinks_c s.g A.a0 A.a1 D.a0 D.a1 A.c0 A.c1 D.c0 D.c1 _ _ hS.imm hs.g ht.g)) ?_))))))));rintro _ w_3⟨rfl,hE⟩;replace hS:=hS.callE hE;refine qq hS (g_not rfl) (qq hS (Qmb rfl) (qu rfl rfl hS (fun hg=>(qb (o':=3) un rfl uo rfl rfl rfl)) ?_));intro u14 hu14 hn14;refine qu rfl rfl hS (fun hg=>(qi 1 uF rfl (hu14 hg) rfl)) ?_;intro u15 hu15 hn15;refine qu rfl rfl hS (fun hg=>(qb (o':=3) un rfl uo rfl rfl rfl)) ?_;intro u16 hu16 hn16;refine qu rfl rfl hS (fun hg=>(qi 0 uF rfl (hu16 hg) rfl)) ?_;intro u17 hu17 hn17;refine cvu rfl rfl hS (fun hg=>(ql Zf (ml (hu15 hg) (ml (hu17 hg) ml0)) (vB A.a3 D.a3 A.c3 D.c3 s.gone s.gone _ _ hS.imm hs.gone ht.gone))) ?_;intro w_5 u18 hS hu18 hn18;refine qu rfl rfl hS (fun hg=>(g_not (hu18 hg))) ?_;intro u19 hu19 hn19;refine qq hS (g_or rfl rfl (fun hq=>hu19 hq)) (qq hS (Qmb rfl) (qu rfl rfl hS (fun hg=>(qb (o':=2) un rfl QZ rfl rfl rfl)) ?_))
 intro u22 hu22 hn22;refine qu rfl rfl hS (fun hg=>(qi 1 JF rfl (hu22 hg) rfl)) ?_;intro u23 hu23 hn23;refine qu rfl rfl hS (fun hg=>(qz rfl Qf hs.ps (hu23 hg))) ?_;intro u24 hu24 hn24;refine qu rfl rfl hS (fun hg=>(qb (o':=2) un rfl QZ rfl rfl rfl)) ?_;intro u25 hu25 hn25;refine qu rfl rfl hS (fun hg=>(qi 0 JF rfl (hu25 hg) rfl)) ?_;intro u26 hu26 hn26;refine qu rfl rfl hS (fun hg=>(qz rfl Qf ht.ps (hu26 hg))) ?_;intro u27 hu27 hn27;refine qu rfl rfl hS (fun hg=>(g_neq (hu24 hg) (hu27 hg))) ?_;intro u28 hu28 hn28;refine qq hS (g_or rfl rfl (fun hq=>hu28 hq)) (qq hS (Qmb rfl) (qu rfl rfl hS (fun hg=>(qb (o':=4) un rfl Jk rfl rfl rfl)) ?_));intro u31 hu31 hn31;refine qu rfl rfl hS (fun hg=>(qi 1 JJ rfl (hu31 hg) rfl)) ?_;intro u32 hu32 hn32;refine qu rfl rfl hS (fun hg=>(qz rfl QK hs.cache (hu32 hg))) ?_;intro u33 hu33 hn33;refine qu rfl rfl hS (fun hg=>(qb (o':=4) un rfl Jk rfl rfl rfl)) ?_;intro u34 hu34 hn34;refine qu rfl rfl hS (fun hg=>(qi 0 JJ rfl (hu34 hg) rfl)) ?_;intro u35 hu35 hn35;refine qu rfl rfl hS (fun hg=>(qz rfl QK ht.cache (hu35 hg))) ?_;intro u36 hu36 hn36;refine qu rfl rfl hS (fun hg=>(g_neq (hu33 hg) (hu36 hg))) ?_;intro u37 hu37 hn37;refine qq hS (g_or rfl rfl (fun hq=>hu37 hq)) (QoN (qo rfl ?_ ?_))
 ·
  intro hc38;clear hu14 hn14 hu15 hn15 hu16 hn16 hu17 hn17 hu18 hn18 hu19 hn19 hu22 hn22 hu23 hn23 hu24 hn24 hu25 hn25 hu26 hn26 hu27 hn27 hu28 hn28 hu31 hn31 hu32 hn32 hu33 hn33 hu34 hn34 hu35 hn35 hu36 hn36 hu37 hn37;exfalso
  simp at hc38
 ·
  intro hc38;clear hu14 hn14 hu15 hn15 hu16 hn16 hu17 hn17 hu18 hn18 hu19 hn19 hu22 hn22 hu23 hn23 hu24 hn24 hu25 hn25 hu26 hn26 hu27 hn27 hu28 hn28 hu31 hn31 hu32 hn32 hu33 hn33 hu34 hn34 hu35 hn35 hu36 hn36 hu37 hn37;refine xZ (xN (xL (QwR (qq hS (Qai rfl) (QoN (uk (loop (fun(i:Nat) σ w=>okS σ [(2,.pointer (some ⟨b2,0,none⟩)),(3,.pointer (some ⟨b3,0,none⟩)),(5,.int .i64 i)]∧St [] w0 I0 I0 w [.cel b3 38 [.slice D.a0 s.g.vs.length D.c0,.slice D.a1 s.g.ls.length D.c1,.slice D.a2 s.ps.length D.c2,.slice D.a3 s.gone.length D.c3,.slice D.a4 s.cache.length D.c4],.cel b2 38 [.slice A.a0 s.g.vs.length A.c0,.slice A.a1 s.g.ls.length A.c1,.slice A.a2 s.ps.length A.c2,.slice A.a3 s.gone.length A.c3,.slice A.a4 s.cache.length A.c4]]∧i≤s.ps.length) (fun i=>s.ps.length - i) (0) ?_ ?_)))))))
  ·
   exact⟨⟨rfl,rfl,rfl,trivial⟩,hS.sel [true,true],by omega⟩
  ·
   rintro i σ w_l⟨hs,hS,hi0⟩;rw[← qx hs]; clear hs
   refine xL (QwR (qq hS (Qmi rfl) (qq hS (qb (o':=2) un rfl QZ rfl rfl rfl) (qq hS (qi 1 JF rfl rfl rfl) (qq hS (qz rfl Qf hs.ps rfl) (qq hS (g_lss rfl rfl) (QoN (qo rfl ?_ ?_))))))))
   ·
    intro hc43
    try simp only[zA,zO,zN,zI,zF,zM,zT,zU]at hc43
    obtain⟨p,hpi⟩:∃p,s.ps[i]? = some p:=⟨_,xW (by omega)⟩
    obtain⟨csp,hclp,hpA,hpc⟩:=RSl.at hs.ps hpi;obtain⟨pa,pm,pc,rfl,hpo⟩:=hpc;obtain⟨csq,hclq,hqA,hqc⟩:=RSl.at ht.ps hpi;obtain⟨qa,qm,qc,rfl,hqo⟩:=hqc;refine xZ (xN (xL (uk (xL (draw (.cons 0 .pure (.cons 1 .held (.cons 2 .pure (.cons 3 .pure (.cons 4 .held (.cons 5 .pure (.cons 6 .held (.cons 7 .pure (.cons 8 .pure (.cons 9 .held (.cons 10 .eff (.cons 11 .pure .nil)))))))))))) mixed (by kernel_rfl) hS ?_)))));intro w_6 hS;refine sp rfl (qb (o':=2) un rfl QZ rfl rfl rfl) (sh rfl (qi 1 JF rfl rfl rfl) (sp rfl (Qmi rfl) (sp rfl (g_ixI Qf ul hs.ps rfl rfl (by omega) (by omega)) (sh rfl (g_ldE (us:=[.bool _,.int .i64 _,.int .i64 _,.slice _ _ _]) ul uO hpA rfl rfl rfl) (sp rfl (qb (o':=2) un rfl QZ rfl rfl rfl) (sh rfl (qi 0 JF rfl rfl rfl) ?_))))));refine sp rfl (Qmi rfl) (sp rfl (g_ixI Qf ul ht.ps rfl rfl (by omega) (by omega)) (sh rfl (g_ldE (us:=[.bool _,.int .i64 _,.int .i64 _,.slice _ _ _]) ul uO hqA rfl rfl rfl) ?_));have hS0:=hS;refine se rfl (ql call52 rfl (sameR_r p pa qa pm pc qm qc _ _ hS.imm hpo (hpw p (uf hpi)) hqo)) ?_;rintro _ w_7⟨rfl,hE⟩;replace hS:=hS.call hE;refine⟨_,_,hS0.le hE.ext (xY _),hS,sp rfl (g_not rfl) (sn (xN (qV (rfl) (xZ (Qh (xN (reg (qq hS (Qmi rfl) (qq hS (g_add rfl rfl (by omega) (by omega)) (qq hS (Qai rfl) ?_))))))))))⟩;exact⟨i+1,_,rfl,⟨⟨rfl,rfl,rfl,trivial⟩,hS.sel [true,true],by omega⟩,by omega⟩
   ·
    intro hc43
    try simp only[zA,zO,zN,zI,zF,zM,zT,zU]at hc43
    obtain rfl:i=s.ps.length:=by omega
    refine uD (uA (uA (Qw (xN (xL (QwR (qq hS (Qai rfl) (QoN (uk (loop (fun(i:Nat) σ w=>okS σ [(2,.pointer (some ⟨b2,0,none⟩)),(3,.pointer (some ⟨b3,0,none⟩)),(6,.int .i64 i)]∧St [] w0 I0 I0 w [.cel b3 38 [.slice D.a0 s.g.vs.length D.c0,.slice D.a1 s.g.ls.length D.c1,.slice D.a2 s.ps.length D.c2,.slice D.a3 s.gone.length D.c3,.slice D.a4 s.cache.length D.c4],.cel b2 38 [.slice A.a0 s.g.vs.length A.c0,.slice A.a1 s.g.ls.length A.c1,.slice A.a2 s.ps.length A.c2,.slice A.a3 s.gone.length A.c3,.slice A.a4 s.cache.length A.c4]]∧i≤s.cache.length) (fun i=>s.cache.length - i) (0) ?_ ?_))))))))))
    ·
     exact⟨⟨rfl,rfl,rfl,trivial⟩,hS.sel [true,true],by omega⟩
    ·
     rintro i σ w_l⟨hs,hS,hi0⟩;rw[← qx hs]; clear hs
     refine xL (QwR (qq hS (Qmi rfl) (qq hS (qb (o':=4) un rfl Jk rfl rfl rfl) (qq hS (qi 1 JJ rfl rfl rfl) (qq hS (qz rfl QK hs.cache rfl) (qq hS (g_lss rfl rfl) (QoN (qo rfl ?_ ?_))))))))
     ·
      intro hc62
      try simp only[zA,zO,zN,zI,zF,zM,zT,zU]at hc62
      obtain⟨d,hdi⟩:∃x,s.cache[i]? = some x:=⟨_,xW (by omega)⟩
      obtain⟨csd,hcld,hdA,hcd⟩:=RSl.at hs.cache hdi;obtain⟨ad,cd,pd,md,qd,rfl,hld,hod⟩:=hcd;obtain⟨cse,hcle,heA,hce⟩:=RSl.at ht.cache hdi;obtain⟨ae,ce,pe,me,qe,rfl,hle_,hoe⟩:=hce;refine xZ (xN (xL (uk (xL (draw (.cons 0 .pure (.cons 1 .held (.cons 2 .pure (.cons 3 .pure (.cons 4 .pure (.cons 5 .held (.cons 6 .pure (.cons 7 .held (.cons 8 .pure (.cons 9 .pure (.cons 10 .pure (.cons 11 .held (.cons 12 .eff (.cons 13 .pure (.cons 14 .pure (.cons 15 .pure (.cons 16 .held (.cons 17 .pure (.cons 18 .pure (.cons 19 .pure (.cons 20 .held (.cons 21 .pure (.cons 22 .held (.cons 23 .pure (.cons 24 .pure (.cons 25 .pure (.cons 26 .held (.cons 27 .eff (.cons 28 .pure (.cons 29 .pure .nil)))))))))))))))))))))))))))))) mixed (by kernel_rfl) hS ?_)))));intro w_8 hS;refine sp rfl (qb (o':=4) un rfl Jk rfl rfl rfl) (sh rfl (qi 1 JJ rfl rfl rfl) (sp rfl (Qmi rfl) (sp rfl (g_ixI QK JN hs.cache rfl rfl (by omega) (by omega)) (sp rfl (qF (c':=0) JG rfl uo rfl rfl rfl) (sh rfl (qC uF hdA rfl rfl) (sp rfl (qb (o':=4) un rfl Jk rfl rfl rfl) (sh rfl (qi 0 JJ rfl rfl rfl) ?_)))))));refine sp rfl (Qmi rfl) (sp rfl (g_ixI QK JN ht.cache rfl rfl (by omega) (by omega)) (sp rfl (qF (c':=0) JG rfl uo rfl rfl rfl) (sh rfl (qC uF heA rfl rfl) ?_)));have hS0:=hS;refine se rfl (ql Zf rfl (vB ad ae cd ce d.way d.way _ _ hS.imm hld hle_)) ?_;rintro _ w_9⟨rfl,hE⟩;replace hS:=hS.call hE;refine⟨_,_,hS0.le hE.ext (xY _),hS,sp rfl (g_not rfl) (sp rfl (Qmb rfl) (spu rfl rfl rfl (fun hg=>(qb (o':=4) un rfl Jk rfl rfl rfl)) ?_))⟩
      intro u80 hu80 hn80;refine shu rfl rfl rfl (fun hg=>(qi 1 JJ rfl (hu80 hg) rfl)) ?_;intro u81 hu81 hn81;refine spu rfl rfl rfl (fun hg=>(Qmi rfl)) ?_;intro u82 hu82 hn82;refine spu rfl rfl rfl (fun hg=>(g_ixI QK JN hs.cache (hu81 hg) (hu82 hg) (by omega) (by omega))) ?_;intro u83 hu83 hn83;refine spu rfl rfl rfl (fun hg=>(qF (c':=1) JG rfl ul rfl (hu83 hg) rfl)) ?_;intro u84 hu84 hn84;refine shu rfl rfl rfl (fun hg=>(g_ldE (us:=[.bool _,.int .i64 _,.int .i64 _,.slice _ _ _]) ul uO hdA (hu84 hg) rfl rfl)) ?_;intro u85 hu85 hn85;refine spu rfl rfl rfl (fun hg=>(qb (o':=4) un rfl Jk rfl rfl rfl)) ?_;intro u86 hu86 hn86;refine shu rfl rfl rfl (fun hg=>(qi 0 JJ rfl (hu86 hg) rfl)) ?_;intro u87 hu87 hn87;refine spu rfl rfl rfl (fun hg=>(Qmi rfl)) ?_;intro u88 hu88 hn88;refine spu rfl rfl rfl (fun hg=>(g_ixI QK JN ht.cache (hu87 hg) (hu88 hg) (by omega) (by omega))) ?_;intro u89 hu89 hn89;refine spu rfl rfl rfl (fun hg=>(qF (c':=1) JG rfl ul rfl (hu89 hg) rfl)) ?_;intro u90 hu90 hn90;refine shu rfl rfl rfl (fun hg=>(g_ldE (us:=[.bool _,.int .i64 _,.int .i64 _,.slice _ _ _]) ul uO heA (hu90 hg) rfl rfl)) ?_;intro u91 hu91 hn91;refine scu rfl rfl rfl hS (fun hg=>(ql call52 (ml (hu85 hg) (ml (hu91 hg) ml0)) (sameR_r d.p pd pe md qd me qe _ _ hS.imm hod (hcw d (uf hdi)) hoe))) ?_;intro w_11 u92 hS hu92 hn92;refine spu rfl rfl rfl (fun hg=>(g_not (hu92 hg))) ?_;intro u93 hu93 hn93;refine sp rfl (g_or rfl rfl (fun hq=>hu93 hq)) (sn (xN (qo rfl ?_ ?_)))
      ·
       intro hc94;clear hu80 hn80 hu81 hn81 hu82 hn82 hu83 hn83 hu84 hn84 hu85 hn85 hu86 hn86 hu87 hn87 hu88 hn88 hu89 hn89 hu90 hn90 hu91 hn91 hu92 hn92 hu93 hn93;exfalso
       simp at hc94
      ·
       intro hc94;clear hu80 hn80 hu81 hn81 hu82 hn82 hu83 hn83 hu84 hn84 hu85 hn85 hu86 hn86 hu87 hn87 hu88 hn88 hu89 hn89 hu90 hn90 hu91 hn91 hu92 hn92 hu93 hn93;refine xZ (Qh (xN (reg (qq hS (Qmi rfl) (qq hS (g_add rfl rfl (by omega) (by omega)) (qq hS (Qai rfl) ?_))))));exact⟨i+1,_,rfl,⟨⟨rfl,rfl,rfl,trivial⟩,hS.sel [true,true],by omega⟩,by omega⟩
     ·
      intro hc62
      try simp only[zA,zO,zN,zI,zF,zM,zT,zU]at hc62
      obtain rfl:i=s.cache.length:=by omega
      refine uD (uA (uA (Qw (xN (QwR (qq hS (Qab rfl) (QoN (ub (ret1 results20 (qr (v:=.bool _) rfl) ?_)))))))));exact⟨rfl,Ext.forget hS.nil⟩
theorem sameO_c (o : OffL) (B D : OffA) (w0 : World) (I0 : Imm) (hI : Sat I0 w0) (hs : ROff I0 B o) (ht : ROff I0 D o) (hw : o.p.wf) :
 Ctr prog 36 [.agg #[.slice B.a o.way.length B.c,.bool o.p.lifted,.int .i64 o.p.in_,.int .i64 o.p.out,.slice B.ap B.m B.cp,.int .i64 o.c],.agg #[.slice D.a o.way.length D.c,.bool o.p.lifted,.int .i64 o.p.in_,.int .i64 o.p.out,.slice D.ap D.m D.cp,.int .i64 o.c]] w0 (fun v w'=>v = .bool true∧Ext w0 I0 w' I0):=by
 refine fn (n:=24) func36 rfl rfl rfl ?_;have hS:=St.start hI;refine QwR (qe (d_box (cs:=[.slice _ _ _,.bool _,.int .i64 _,.int .i64 _,.slice _ _ _,.int .i64 _]) hS rfl) ?_);clear hS;rintro _ w_1⟨b2,rfl,hS⟩;refine qe (d_box (cs:=[.slice _ _ _,.bool _,.int .i64 _,.int .i64 _,.slice _ _ _,.int .i64 _]) hS rfl) ?_;clear hS;rintro _ w_2⟨b3,rfl,hS⟩;refine qq hS (Qab rfl) (QoR (qq hS (qb (o':=0) Qa rfl uo rfl rfl rfl) (qq hS (qi 1 uF rfl rfl rfl) (qq hS (qb (o':=0) Qa rfl uo rfl rfl rfl) (qq hS (qi 0 uF rfl rfl rfl) (qe (ql Zf rfl (vB B.a D.a B.c D.c o.way o.way _ _ hS.imm hs.way ht.way)) ?_))))));rintro _ w_3⟨rfl,hE⟩;replace hS:=hS.callE hE;refine qq hS (Qmb rfl) (qu rfl rfl hS (fun hg=>(qb (o':=5) Qa rfl xX rfl rfl rfl)) ?_);intro u11 hu11 hn11;refine qu rfl rfl hS (fun hg=>(qi 1 uj rfl (hu11 hg) rfl)) ?_;intro u12 hu12 hn12;refine qu rfl rfl hS (fun hg=>(qb (o':=5) Qa rfl xX rfl rfl rfl)) ?_;intro u13 hu13 hn13;refine qu rfl rfl hS (fun hg=>(qi 0 uj rfl (hu13 hg) rfl)) ?_;intro u14 hu14 hn14;refine qu rfl rfl hS (fun hg=>(g_eql (hu12 hg) (hu14 hg))) ?_;intro u15 hu15 hn15;refine qq hS (g_and rfl rfl (fun hq=>hu15 hq)) (qq hS (Qmb rfl) (qu rfl rfl hS (fun hg=>(qb (o':=1) Qa rfl ul rfl rfl rfl)) ?_));intro u18 hu18 hn18;refine qu rfl rfl hS (fun hg=>(g_ldO 1 (vs:=[.bool _,.int .i64 _,.int .i64 _,.slice _ _ _]) ul uO rfl (hu18 hg) rfl rfl)) ?_;intro u19 hu19 hn19;refine qu rfl rfl hS (fun hg=>(qb (o':=1) Qa rfl ul rfl rfl rfl)) ?_;intro u20 hu20 hn20;refine qu rfl rfl hS (fun hg=>(g_ldO 0 (vs:=[.bool _,.int .i64 _,.int .i64 _,.slice _ _ _]) ul uO rfl (hu20 hg) rfl rfl)) ?_
 intro u21 hu21 hn21;refine cvu rfl rfl hS (fun hg=>(ql call52 (ml (hu19 hg) (ml (hu21 hg) ml0)) (sameR_r o.p B.ap D.ap B.m B.cp D.m D.cp _ _ hS.imm hs.p hw ht.p))) ?_;intro w_5 u22 hS hu22 hn22;refine qq hS (g_and rfl rfl (fun hq=>hu22 hq)) (qq hS (Qab rfl) (QoN (ub (ret1 results36 (qr (v:=.bool _) rfl) ?_))));exact⟨by simp,hS.nil⟩
end Go.Proofs.YtcajgkfgjpfmaaaGreat
