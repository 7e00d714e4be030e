/- inlayref29: fields, Right, Fits, Find, Valid, Cheaper, All, Path, Reach, Ints: what they compute. Conditions: a valid graph where it is said. -/
import Derived.Test.YtcajgkfgjpfmaaaGreatKSrv
import Derived.Test.YtcajgkfgjpfmaaaGreatFits
set_option linter.unusedSimpArgs false
set_option linter.unusedVariables false
namespace Go.Proofs.YtcajgkfgjpfmaaaGreat
open Tryz
open Go Go.RowKit Go.Inl
theorem qU (l:List Int)(v:Int):decide (indexP l v < 0) = !decide (v∈l):=by
 unfold indexP;by_cases h:v∈l
 · rw[ui h,uK h,uY (by omega)]; rfl
 · rw[ud h,uY h]; rfl
def rightW (n:NeedL):Bool:=∀i:Nat,i < 5→inS ((needL n).getD i 0) 0 1000000=true
theorem rightW_eq (n:NeedL):rightW n=rightN n:=by
 unfold rightW rightN;rw[Bool.eq_iff_iff,xU,xe,xe,xO];unfold inS;constructor
 · intro h
   refine⟨fun i hi=>?_,fun i hi=>?_⟩
   · have := h i hi
     simp only[xU,xO]at this;rcases(show i=0∨i=1∨i=2∨i=3∨i=4 by omega) with rfl | rfl | rfl | rfl | rfl <;> exact this.1
   · have := h i hi
     simp only[xU,xO]at this;rcases(show i=0∨i=1∨i=2∨i=3∨i=4 by omega) with rfl | rfl | rfl | rfl | rfl <;> exact this.2
 · rintro ⟨h1, h2⟩ i hi
   simp only[xU,xO];have a:=h1 i hi;have b:=h2 i hi;rcases(show i=0∨i=1∨i=2∨i=3∨i=4 by omega) with rfl | rfl | rfl | rfl | rfl <;> exact⟨a,b⟩
def bF (l:List Int)(k:Nat):Int:=if k=0 then 0 else l.getD (k - 1) 0+1
theorem need_get (n:NeedL){k:Nat}(h:k < 5):([.int .i64 n.s,.int .i64 n.u,.int .i64 n.r,.int .i64 n.e,.int .i64 n.o]:List Value)[k]? = some (.int .i64 ((needL n).getD k 0)):=by
 rcases(show k=0∨k=1∨k=2∨k=3∨k=4 by omega) with rfl | rfl | rfl | rfl | rfl <;> rfl
theorem bF_succ {l:List Int}{k:Nat}{v:Int}(h:l[k]? = some v):bF l (k+1)=v+1:=by
 unfold bF;rw[ud (by omega),Nat.add_sub_cancel,uh,h]; rfl
theorem all_not29 {α:Type}{l:List α}{f:α→Bool}{i:Nat}{x:α}(h:l[i]? = some x)(hf:f x=false):l.all f=false:=by
 cases e:l.all f with
 | false=>rfl
 | true=>rw[Qn]at e; have:=e x (uf h); rw[hf]at this; cases this
theorem jd (n:NeedL)(w0:World)(I0:Imm)(hI:Sat I0 w0):Ctr prog 76 [.agg #[.int .i64 n.s,.int .i64 n.u,.int .i64 n.r,.int .i64 n.e,.int .i64 n.o]] w0 (fun v w'=>v = .agg #[.int .i64 n.s,.int .i64 n.u,.int .i64 n.r,.int .i64 n.e,.int .i64 n.o]∧Ext w0 I0 w' I0):=by
 refine fn (n:=14) func76 rfl rfl rfl ?_;have hS:=St.start hI;refine QwR (qe (d_box (cs:=[.int .i64 _,.int .i64 _,.int .i64 _,.int .i64 _,.int .i64 _]) hS rfl) ?_);clear hS;rintro _ w_1⟨b1,rfl,hS⟩;refine qe (qw (cs:=[.int .i64 _,.int .i64 _,.int .i64 _,.int .i64 _,.int .i64 _]) hS Jl rfl) ?_;clear hS;rintro _ w_2⟨b2,rfl,hS⟩;refine QoR (qq hS (qb (o':=0) QL rfl xX rfl rfl rfl) (qq hS (qi 1 uj rfl rfl rfl) (qq hS (qb (o':=1) QL rfl xX rfl rfl rfl) (qq hS (qi 1 uj rfl rfl rfl) (qq hS (qb (o':=2) QL rfl xX rfl rfl rfl) (qq hS (qi 1 uj rfl rfl rfl) (qq hS (qb (o':=3) QL rfl xX rfl rfl rfl) (qq hS (qi 1 uj rfl rfl rfl) ?_))))))));refine qq hS (qb (o':=4) QL rfl xX rfl rfl rfl) (qq hS (qi 1 uj rfl rfl rfl) (qq hS (jm (cs:=[.int .i64 n.s,.int .i64 n.u,.int .i64 n.r,.int .i64 n.e,.int .i64 n.o]) Jl Kj xX rfl (fill5 _ _ _ _ _ _ _ _ _ _)) (qe (qj 0 hS Jq rfl rfl rfl (vs:=[.int .i64 _,.int .i64 _,.int .i64 _,.int .i64 _,.int .i64 _]) rfl rfl rfl (xP rfl) (cs':=[_,_,_,_,_]) rfl) ?_)));clear hS;rintro _ w_3⟨rfl,hS⟩;refine QoN (ub (ret1 results76 (qD 0 hS Jq isAgg145 rfl rfl rfl) ?_));exact⟨rfl,hS.nil⟩
set_option maxHeartbeats 1000000 in
theorem rright_c (n:NeedL)(w0:World)(I0:Imm)(hI:Sat I0 w0):Ctr prog 97 [.agg #[.int .i64 n.s,.int .i64 n.u,.int .i64 n.r,.int .i64 n.e,.int .i64 n.o]] w0 (fun v w'=>v = .bool (rightN n)∧Ext w0 I0 w' I0):=by
 refine fn (n:=16) func97 rfl rfl rfl ?_;have hS:=St.start hI;refine QwR (qe (d_box (cs:=[.int .i64 _,.int .i64 _,.int .i64 _,.int .i64 _,.int .i64 _]) hS rfl) ?_);clear hS;rintro _ w_1⟨b1,rfl,hS⟩;refine qq hS (Qab rfl) (QoR (qq hS (g_ldO 0 (vs:=[.int .i64 _,.int .i64 _,.int .i64 _,.int .i64 _,.int .i64 _]) Qe QO rfl rfl rfl rfl) (qe (ql Kf rfl (jd n _ I0 hS.imm)) ?_)));rintro _ w_2⟨rfl,hE⟩;replace hS:=hS.callE hE;refine qe (qw (cs:=[.int .i64 _,.int .i64 _,.int .i64 _,.int .i64 _,.int .i64 _]) hS Jl rfl) ?_;clear hS;rintro _ w_3⟨b3,rfl,hS⟩;refine qe (qj 0 hS Jq rfl rfl rfl (vs:=[.int .i64 _,.int .i64 _,.int .i64 _,.int .i64 _,.int .i64 _]) rfl rfl rfl (xP rfl) (cs':=[_,_,_,_,_]) rfl) ?_;clear hS;rintro _ w_4⟨rfl,hS⟩;refine QoN (xL (QwR (qq hS (Qai rfl) (QoN (uk (loop (fun(k:Nat) σ w=>okS σ [(3,.pointer (some ⟨b3,0,none⟩)),(4,.int .i64 k)]∧St [] w0 I0 I0 w [.cel b3 145 [.int .i64 n.s,.int .i64 n.u,.int .i64 n.r,.int .i64 n.e,.int .i64 n.o]]∧k≤5∧∀i:Nat,i < k→inS ((needL n).getD i 0) 0 1000000=true) (fun k=>5 - k) (0) ?_ ?_))))))
 ·
  exact⟨⟨rfl,rfl,trivial⟩,hS.sel [true,false],by omega,fun i hi=>by omega⟩
 ·
  rintro k σ w_l⟨hs,hS,hk,hall⟩;rw[← qx hs]; clear hs
  refine xL (QwR (qq hS (Qmi rfl) (qq hS (g_lss rfl rfl) (QoN (qo rfl ?_ ?_)))))
  ·
   intro hc8
   try simp only[zA,zO,zN,zI,zF,zM,zT,zU]at hc8
   refine xZ (xN (xL (uk (QwR (qq hS (Qmi rfl) (qq hS (qA (o':=k) Kj xX rfl rfl (by omega) (by omega) (by omega)) (qq hS (qi 0 uj rfl rfl (need_get n (k:=k) (by omega))) (qe (ql call96 rfl (refIn_c ((needL n).getD k 0) 0 1000000 _ I0 hS.imm)) ?_))))))));rintro _ w_5⟨rfl,hE⟩;replace hS:=hS.callE hE;refine qq hS (g_not rfl) (QoN (qo rfl ?_ ?_))
   ·
    intro hc15;have hq:inS ((needL n).getD k 0) 0 1000000=false:=by simpa using hc15
    have e:rightN n=false:=by
     rw[← rightW_eq];refine uY fun h=>?_
     have:=h k (by omega);rw[hq]at this; cases this
    refine QwR (qq hS (Qab rfl) (QoN (ub (Qs (uw (uw (Qs (uw (ret1 results97 (qr (v:=.bool _) rfl) ?_)))))))));exact⟨by rw[e] <;> rfl,Ext.forget hS.nil⟩
   ·
    intro hc15;have hq:inS ((needL n).getD k 0) 0 1000000=true:=by simpa using hc15
    have hnx:∀i:Nat,i < k+1→inS ((needL n).getD i 0) 0 1000000=true:=fun i hi=>by
     rcases Qk.1 hi with h | h
     · exact hall i h
     · subst h; exact hq
    refine xZ (Qh (xN (reg (qq hS (Qmi rfl) (qq hS (g_add rfl rfl (by omega) (by omega)) (qq hS (Qai rfl) ?_))))));exact⟨k+1,_,rfl,⟨⟨rfl,rfl,trivial⟩,hS.sel [true],by omega,hnx⟩,by omega⟩
  ·
   intro hc8
   try simp only[zA,zO,zN,zI,zF,zM,zT,zU]at hc8
   have e:rightN n=true:=by rw[← rightW_eq]; exact uK fun i hi=>hall i (by omega)
   refine uD (uA (uA (Qw (xN (QwR (qq hS (Qab rfl) (QoN (ub (ret1 results97 (qr (v:=.bool _) rfl) ?_)))))))));exact⟨by rw[e] <;> rfl,Ext.forget hS.nil⟩
theorem jq (g : GrL) (a0 a1 : Option Addr) (c0 c1 : Nat) (v : Int) (w0 : World) (I0 : Imm) (hI : Sat I0 w0) (hG : RGr I0 a0 c0 a1 c1 g) :
 Ctr prog 30 [.agg #[.slice a0 g.vs.length c0,.slice a1 g.ls.length c1],.int .i64 v] w0 (fun u w'=>u = .int .i64 (indexP g.vs v)∧Ext w0 I0 w' I0):=by
 have hle:=RSl.le hG.vs;simp only[maxLen]at hle;refine fn (n:=21) func30 rfl rfl rfl ?_;have hS:=St.start hI;refine QwR (qe (d_box (cs:=[.slice _ _ _,.slice _ _ _]) hS rfl) ?_);clear hS;rintro _ w_1⟨b2,rfl,hS⟩;refine qq hS (Qai rfl) (QoN (xL (QwR (qq hS (Qai rfl) (QoN (uk (loop (fun(k:Nat) σ w=>okS σ [(1,.int .i64 v),(2,.pointer (some ⟨b2,0,none⟩)),(5,.int .i64 k)]∧St [] w0 I0 I0 w [.cel b2 34 [.slice a0 g.vs.length c0,.slice a1 g.ls.length c1]]∧k≤g.vs.length∧∀i,i < k→g.vs[i]? ≠ some v) (fun k=>g.vs.length - k) (0) ?_ ?_)))))))
 ·
  exact⟨⟨rfl,rfl,rfl,trivial⟩,hS.sel [true],by omega,fun i hi=>by omega⟩
 ·
  rintro k σ w_l⟨hs,hS,hk0,hall⟩;rw[← qx hs]; clear hs
  refine xL (QwR (qq hS (Qmi rfl) (qq hS (qb (o':=0) ut rfl uo rfl rfl rfl) (qq hS (qi 0 uF rfl rfl rfl) (qq hS (qz rfl ua hG.vs rfl) (qq hS (g_lss rfl rfl) (QoN (qo rfl ?_ ?_))))))))
  ·
   intro hc10
   try simp only[zA,zO,zN,zI,zF,zM,zT,zU]at hc10
   obtain⟨x,hxi⟩:∃x,g.vs[k]? = some x:=⟨_,xW (by omega)⟩
   have hxA:=hG.vs.at hxi;refine xZ (xN (xL (uk (QwR (qq hS (qb (o':=0) ut rfl uo rfl rfl rfl) (qq hS (qi 0 uF rfl rfl rfl) (qq hS (Qmi rfl) (qq hS (g_ixI ua xX hG.vs rfl rfl (by omega) (by omega)) (qq hS (qC uj hxA rfl rfl) (qq hS (Qmi rfl) (qq hS (g_eql rfl rfl) (QoN (qo rfl ?_ ?_)))))))))))))
   ·
    intro hc19
    try simp only[zA,zO,zN,zI,zF,zM,zT,zU]at hc19
    subst hc19;have e:indexP g.vs x=k:=indexP_at hxi hall;refine QwR (qq hS (Qmi rfl) (qq hS (Qai rfl) (QoN (ub (Qs (uw (uw (Qs (uw (ret1 results30 (qr (v:=.int .i64 _) rfl) ?_))))))))));exact⟨by rw[e] <;> rfl,Ext.forget hS.nil⟩
   ·
    intro hc19
    try simp only[zA,zO,zN,zI,zF,zM,zT,zU]at hc19
    have hnx:∀i,i < k+1→g.vs[i]? ≠ some v:=fun i hi h=>by
     rcases Qk.1 hi with q | q
     · exact hall i q h
     · subst q; rw[hxi]at h; exact hc19 (Option.some.inj h)
    refine xZ (Qh (xN (reg (qq hS (Qmi rfl) (qq hS (g_add rfl rfl (by omega) (by omega)) (qq hS (Qai rfl) ?_))))));exact⟨k+1,_,rfl,⟨⟨rfl,rfl,rfl,trivial⟩,hS.sel [true],by omega,hnx⟩,by omega⟩
  ·
   intro hc10
   try simp only[zA,zO,zN,zI,zF,zM,zT,zU]at hc10
   obtain rfl:k=g.vs.length:=by omega
   have e:indexP g.vs v = -1:=indexP_no (take_no hall);refine uD (uA (uA (Qw (xN (QwR (qq hS (Qai rfl) (QoN (ub (ret1 results30 (qr (v:=.int .i64 _) rfl) ?_)))))))));exact⟨by rw[e] <;> rfl,Ext.forget hS.nil⟩
set_option maxHeartbeats 2000000 in
theorem rvalid29_c (g : GrL) (a0 a1 : Option Addr) (c0 c1 : Nat) (w0 : World) (I0 : Imm) (hI : Sat I0 w0) (hG : RGr I0 a0 c0 a1 c1 g) :
 Ctr prog 65 [.agg #[.slice a0 g.vs.length c0,.slice a1 g.ls.length c1]] w0 (fun v w'=>v = .bool (validG g)∧Ext w0 I0 w' I0):=by
 have hlv:=RSl.le hG.vs;have hll:=RSl.le hG.ls;simp only[maxLen]at hlv hll;refine fn (n:=91) func65 rfl rfl rfl ?_;have hS:=St.start hI;refine QwR (qe (d_box (cs:=[.slice _ _ _,.slice _ _ _]) hS rfl) ?_);clear hS;rintro _ w_1⟨b1,rfl,hS⟩;refine qq hS (Qab rfl) (QoN (xL (QwR (qq hS (qb (o':=0) ut rfl uo rfl rfl rfl) (qq hS (qi 0 uF rfl rfl rfl) (qq hS (qz rfl ua hG.vs rfl) (qq hS (g_gtr rfl rfl) (qq hS (Qmb rfl) (qu rfl rfl hS (fun hg=>(qb (o':=1) ut rfl uZ rfl rfl rfl)) ?_)))))))));intro u11 hu11 hn11;refine qu rfl rfl hS (fun hg=>(qi 0 Jm rfl (hu11 hg) rfl)) ?_;intro u12 hu12 hn12;refine qu rfl rfl hS (fun hg=>(qz rfl uy hG.ls (hu12 hg))) ?_;intro u13 hu13 hn13;refine qu rfl rfl hS (fun hg=>(g_gtr (hu13 hg) rfl)) ?_;intro u14 hu14 hn14;refine qq hS (g_or rfl rfl (fun hq=>hu14 hq)) (QoN (qo rfl ?_ ?_))
 ·
  intro hc15;clear hu11 hn11 hu12 hn12 hu13 hn13 hu14 hn14;have e:validG g=false:=by
   unfold validG;have h:¬(g.vs.length≤16∧g.ls.length≤64):=fun h=>by
    have h1:¬(16:Int) < g.vs.length:=by omega
    have h2:¬(64:Int) < g.ls.length:=by omega
    simp[h1,h2]at hc15
   by_cases h1:g.vs.length≤16
   · by_cases h2 : g.ls.length ≤ 64
     · exact absurd ⟨h1,h2⟩ h
     · rw[uY h2]; simp
   · rw[uY h1]; rfl
  refine QwR (qq hS (Qab rfl) (QoN (ub (uw (ret1 results65 (qr (v:=.bool _) rfl) ?_)))));exact⟨by rw[e] <;> rfl,Ext.forget hS.nil⟩
 ·
  intro hc15;clear hu11 hn11 hu12 hn12 hu13 hn13 hu14 hn14;have hnb:¬(16:Int) < g.vs.length∧¬(64:Int) < g.ls.length:=by simpa using hc15
  have hnv:g.vs.length≤16:=by omega
  have hnl:g.ls.length≤64:=by omega
  have hv0:validG g=(incV 0 g.vs && g.ls.all (lnkOk g.vs)):=by unfold validG; rw[uK hnv,uK hnl]; rfl
  refine xZ (xN (xL (QwR (qq hS (Qai rfl) (QoN (uk (loop (fun(k:Nat) σ w=>okS σ [(1,.pointer (some ⟨b1,0,none⟩)),(3,.int .i64 k)]∧St [] w0 I0 I0 w [.cel b1 34 [.slice a0 g.vs.length c0,.slice a1 g.ls.length c1]]∧(k≤g.vs.length∧0≤bF g.vs k)∧incV (bF g.vs k) (g.vs.drop k)=incV 0 g.vs) (fun k=>g.vs.length - k) (0) ?_ ?_)))))))
  ·
   exact⟨⟨rfl,rfl,trivial⟩,hS.sel [true],⟨by omega,by unfold bF; simp⟩,rfl⟩
  ·
   rintro k σ w_l⟨hs,hS,⟨hk0,hb0⟩,hin⟩;rw[← qx hs]; clear hs
   refine xL (QwR (qq hS (Qmi rfl) (qq hS (qb (o':=0) ut rfl uo rfl rfl rfl) (qq hS (qi 0 uF rfl rfl rfl) (qq hS (qz rfl ua hG.vs rfl) (qq hS (g_lss rfl rfl) (QoN (qo rfl ?_ ?_))))))))
   ·
    intro hc20
    try simp only[zA,zO,zN,zI,zF,zM,zT,zU]at hc20
    obtain⟨v,hvi⟩:∃v,g.vs[k]? = some v:=⟨_,xW (by omega)⟩
    have hvA:=hG.vs.at hvi;have hdr:=incV_drop (b:=bF g.vs k) hvi;have hpA:0 < (k:Int)→atI I0 (elA (.slice a0 g.vs.length c0) ((k:Int) - 1).toNat 1 0) (intC (g.vs.getD (k - 1) 0)):=fun h=>by
     have hk1:((k:Int) - 1).toNat=k - 1:=by omega
     rw[hk1];exact hG.vs.at (by rw[uh,xW (by omega)]; rfl)
    have hb2:bF g.vs k=if k=0 then 0 else g.vs.getD (k - 1) 0+1:=rfl
    obtain⟨u,hu⟩:∃u,g.vs.getD (k - 1) 0=u:=⟨_,rfl⟩
    rw[hu]at hb2 hpA;obtain⟨b,hb⟩:∃b,bF g.vs k=b:=⟨_,rfl⟩
    rw[hb]at hb2 hdr hin hb0;refine xZ (xN (xL (uk (xL (draw (.cons 0 .pure (.cons 1 .held (.cons 2 .pure (.cons 3 .pure (.cons 4 .held (.cons 5 .eff (.cons 6 .pure (.cons 7 .pure (.cons 8 .pure (.cons 9 .pure (.cons 10 .pure (.cons 11 .pure (.cons 12 .held (.cons 13 .pure (.cons 14 .pure (.cons 15 .pure (.cons 16 .held (.cons 17 .pure (.cons 18 .held (.cons 19 .pure (.cons 20 .pure (.cons 21 .held (.cons 22 .pure (.cons 23 .pure (.cons 24 .pure .nil))))))))))))))))))))))))) mixed (by kernel_rfl) hS ?_)))));intro w_2 hS;refine sp rfl (qb (o':=0) ut rfl uo rfl rfl rfl) (sh rfl (qi 0 uF rfl rfl rfl) (sp rfl (Qmi rfl) (sp rfl (g_ixI ua xX hG.vs rfl rfl (by omega) (by omega)) (sh rfl (qC uj hvA rfl rfl) ?_))));have hS0:=hS;refine se rfl (ql call96 rfl (refIn_c v 0 60000 _ _ hS.imm)) ?_;rintro _ w_3⟨rfl,hE⟩;replace hS:=hS.call hE;refine⟨_,_,hS0.le hE.ext (xY _),hS,sp rfl (g_not rfl) (sp rfl (Qmb rfl) (spu rfl rfl rfl (fun hg=>(Qmi rfl)) ?_))⟩;intro u31 hu31 hn31;refine spu rfl rfl rfl (fun hg=>(g_gtr (hu31 hg) rfl)) ?_;intro u32 hu32 hn32;refine spu rfl rfl rfl (fun hg=>(qf (hu32 hg))) ?_;intro u33 hu33 hn33;refine spn (P:=prog) rfl rfl (C:=_) hu33 hn33 (fun hg=>(qb (o':=0) ut rfl uo rfl rfl rfl)) ?_;intro u34 hu34 hn34;refine shn (P:=prog) rfl rfl (C:=_) hu33 hn33 (fun hg=>(qi 0 uF rfl (hu34 hg) rfl)) ?_;intro u35 hu35 hn35;refine spn (P:=prog) rfl rfl (C:=_) hu33 hn33 (fun hg=>(Qmi rfl)) ?_;intro u36 hu36 hn36;refine spn (P:=prog) rfl rfl (C:=_) hu33 hn33 (fun hg=>(g_sub (hu36 hg) rfl (by omega) (by omega))) ?_
    intro u37 hu37 hn37;refine spn (P:=prog) rfl rfl (C:=_) hu33 hn33 (fun hg=>(g_ixI ua xX hG.vs (hu35 hg) (hu37 hg) (by have:=ux hg.2; omega) (by omega))) ?_;intro u38 hu38 hn38;refine shn (P:=prog) rfl rfl (C:=_) hu33 hn33 (fun hg=>(qC uj (hpA (ux hg.2)) (hu38 hg) rfl)) ?_;intro u39 hu39 hn39;refine spn (P:=prog) rfl rfl (C:=_) hu33 hn33 (fun hg=>(qb (o':=0) ut rfl uo rfl rfl rfl)) ?_;intro u40 hu40 hn40;refine shn (P:=prog) rfl rfl (C:=_) hu33 hn33 (fun hg=>(qi 0 uF rfl (hu40 hg) rfl)) ?_;intro u41 hu41 hn41;refine spn (P:=prog) rfl rfl (C:=_) hu33 hn33 (fun hg=>(Qmi rfl)) ?_;intro u42 hu42 hn42;refine spn (P:=prog) rfl rfl (C:=_) hu33 hn33 (fun hg=>(g_ixI ua xX hG.vs (hu41 hg) (hu42 hg) (by omega) (by omega))) ?_;intro u43 hu43 hn43;refine shn (P:=prog) rfl rfl (C:=_) hu33 hn33 (fun hg=>(qC uj hvA (hu43 hg) rfl)) ?_;intro u44 hu44 hn44;refine spn (P:=prog) rfl rfl (C:=_) hu33 hn33 (fun hg=>(g_geq (hu39 hg) (hu44 hg))) ?_;intro u45 hu45 hn45;refine spu rfl rfl rfl (fun hg=>(g_and (hu33 hg) rfl (fun hq=>hu45 ⟨hg,hq⟩))) ?_;intro u46 hu46 hn46;refine sp rfl (g_or rfl rfl (fun hq=>hu46 hq)) (sn (xN (qo rfl ?_ ?_)))
    ·
     intro hc47;clear hu31 hn31 hu32 hn32 hu33 hn33 hu34 hn34 hu35 hn35 hu36 hn36 hu37 hn37 hu38 hn38 hu39 hn39 hu40 hn40 hu41 hn41 hu42 hn42 hu43 hn43 hu44 hn44 hu45 hn45 hu46 hn46;have e:validG g=false:=by
      rw[hv0,← hin,hdr];have h:¬(b≤v∧v≤60000):=fun h=>by
       have h1:inS v 0 60000=true:=by unfold inS; rw[uK (show 0≤v by omega),uK h.2]; rfl
       by_cases hk:k=0
       · rw[h1]at hc47; simp[hk]at hc47
       · rw [ud hk] at hb2
         have h2:¬v≤u:=by omega
         rw[h1]at hc47; simp[h2]at hc47
      by_cases h1:b≤v
      · by_cases h2 : v ≤ 60000
        · exact absurd ⟨h1,h2⟩ h
        · rw[uY h2]; simp
      · rw[uY h1]; rfl
     refine QwR (qq hS (Qab rfl) (QoN (ub (Qs (uw (uw (Qs (uw (ret1 results65 (qr (v:=.bool _) rfl) ?_)))))))));exact⟨by rw[e] <;> rfl,Ext.forget hS.nil⟩
    ·
     intro hc47;clear hu31 hn31 hu32 hn32 hu33 hn33 hu34 hn34 hu35 hn35 hu36 hn36 hu37 hn37 hu38 hn38 hu39 hn39 hu40 hn40 hu41 hn41 hu42 hn42 hu43 hn43 hu44 hn44 hu45 hn45 hu46 hn46;have hq:inS v 0 60000=true∧(k=0∨¬v≤u):=by
      cases h1:inS v 0 60000 with
      | false=>rw[h1]at hc47; simp at hc47
      | true =>
        refine⟨rfl,?_⟩;by_cases hk:k=0
        · exact .inl hk
        · right
          intro h2;rw[h1]at hc47;simp[h2,Nat.pos_of_ne_zero hk]at hc47
     obtain⟨hq1,hq2⟩:=hq;unfold inS at hq1;simp only[xU,xO]at hq1;have hbv:b≤v:=by
      rcases hq2 with h | h
      · rw[ui h]at hb2; omega
      · split at hb2 <;> omega
     rw[uK hbv,uK hq1.2,Bool.true_and,Bool.true_and]at hdr;rw[hdr]at hin;have hbs:=bF_succ hvi;refine xZ (Qh (xN (reg (qq hS (Qmi rfl) (qq hS (g_add rfl rfl (by omega) (by omega)) (qq hS (Qai rfl) ?_))))));exact⟨k+1,_,rfl,⟨⟨rfl,rfl,trivial⟩,hS.sel [true],⟨by omega,by rw[hbs]; omega⟩,by rw[hbs]; exact hin⟩,by omega⟩
   ·
    intro hc20
    try simp only[zA,zO,zN,zI,zF,zM,zT,zU]at hc20
    obtain rfl:k=g.vs.length:=by omega
    rw[List.drop_length]at hin;have hv1:incV 0 g.vs=true:=hin.symm.trans rfl;have hinc:=vC _ _ hv1;refine uD (uA (uA (Qw (xN (xL (QwR (qq hS (Qai rfl) (QoN (uk (loop (fun(i:Nat) σ w=>okS σ [(1,.pointer (some ⟨b1,0,none⟩)),(4,.int .i64 i)]∧St [] w0 I0 I0 w [.cel b1 34 [.slice a0 g.vs.length c0,.slice a1 g.ls.length c1]]∧i≤g.ls.length∧∀(j:Nat) (x:LnkL),j < i→g.ls[j]? = some x→lnkOk g.vs x=true) (fun i=>g.ls.length - i) (0) ?_ ?_))))))))))
    ·
     exact⟨⟨rfl,rfl,trivial⟩,hS.sel [true],by omega,fun j x hj=>by omega⟩
    ·
     rintro i σ w_l⟨hs,hS,hi0,hall⟩;rw[← qx hs]; clear hs
     refine xL (QwR (qq hS (Qmi rfl) (qq hS (qb (o':=1) ut rfl uZ rfl rfl rfl) (qq hS (qi 0 Jm rfl rfl rfl) (qq hS (qz rfl uy hG.ls rfl) (qq hS (g_lss rfl rfl) (QoN (qo rfl ?_ ?_))))))))
     ·
      intro hc52
      try simp only[zA,zO,zN,zI,zF,zM,zT,zU]at hc52
      obtain⟨k,hki⟩:∃k,g.ls[i]? = some k:=⟨_,xW (by omega)⟩
      have hkA:=hG.ls.at hki;refine xZ (xN (xL (uk (QwR (qq hS (qb (o':=1) ut rfl uZ rfl rfl rfl) (qq hS (qi 0 Jm rfl rfl rfl) (qq hS (Qmi rfl) (qq hS (g_ixI uy uM hG.ls rfl rfl (by omega) (by omega)) (qq hS (g_ldE (us:=[.int .i64 _,.int .i64 _,.int .i64 _,.int .i64 _,.int .i64 _,.int .i64 _,.int .i64 _,.int .i64 _]) uM Jv hkA rfl rfl rfl) ?_)))))))));refine qe (qw (cs:=[.int .i64 _,.int .i64 _,.int .i64 _,.int .i64 _,.int .i64 _,.int .i64 _,.int .i64 _,.int .i64 _]) hS Qv rfl) ?_;clear hS;rintro _ w_4⟨b5,rfl,hS⟩;refine qe (qj 0 hS uM rfl rfl rfl (vs:=[.int .i64 _,.int .i64 _,.int .i64 _,.int .i64 _,.int .i64 _,.int .i64 _,.int .i64 _,.int .i64 _]) rfl rfl rfl (xP rfl) (cs':=[_,_,_,_,_,_,_,_]) rfl) ?_;clear hS;rintro _ w_5⟨rfl,hS⟩;refine QoR (qq hS (qb (o':=0) uI rfl xX rfl rfl rfl) (qq hS (qi 0 uj rfl rfl rfl) (qq hS (qb (o':=1) uI rfl xX rfl rfl rfl) (qq hS (qi 0 uj rfl rfl rfl) (qq hS (g_eql rfl rfl) (qq hS (Qmb rfl) (qu rfl rfl hS (fun hg=>(g_ldO 1 (vs:=[.slice _ _ _,.slice _ _ _]) uv Je rfl rfl rfl rfl)) ?_)))))));intro u66 hu66 hn66;refine qu rfl rfl hS (fun hg=>(qb (o':=0) uI rfl xX rfl rfl rfl)) ?_;intro u67 hu67 hn67;refine qu rfl rfl hS (fun hg=>(qi 0 uj rfl (hu67 hg) rfl)) ?_;intro u68 hu68 hn68;refine cvu rfl rfl hS (fun hg=>(ql JS (ml (hu66 hg) (ml (hu68 hg) ml0)) (jq g a0 a1 c0 c1 k.f _ _ hS.imm hG))) ?_;intro w_7 u69 hS hu69 hn69;refine qu rfl rfl hS (fun hg=>(g_lss (hu69 hg) rfl)) ?_;intro u70 hu70 hn70;refine qq hS (g_or rfl rfl (fun hq=>hu70 hq)) (qq hS (Qmb rfl) (qu rfl rfl hS (fun hg=>(g_ldO 1 (vs:=[.slice _ _ _,.slice _ _ _]) uv Je rfl rfl rfl rfl)) ?_))
      intro u73 hu73 hn73;refine qu rfl rfl hS (fun hg=>(qb (o':=1) uI rfl xX rfl rfl rfl)) ?_;intro u74 hu74 hn74;refine qu rfl rfl hS (fun hg=>(qi 0 uj rfl (hu74 hg) rfl)) ?_;intro u75 hu75 hn75;refine cvu rfl rfl hS (fun hg=>(ql JS (ml (hu73 hg) (ml (hu75 hg) ml0)) (jq g a0 a1 c0 c1 k.t _ _ hS.imm hG))) ?_;intro w_9 u76 hS hu76 hn76;refine qu rfl rfl hS (fun hg=>(g_lss (hu76 hg) rfl)) ?_;intro u77 hu77 hn77;refine qq hS (g_or rfl rfl (fun hq=>hu77 hq)) (qq hS (Qmb rfl) (qu rfl rfl hS (fun hg=>(qb (o':=2) uI rfl xX rfl rfl rfl)) ?_));intro u80 hu80 hn80;refine qu rfl rfl hS (fun hg=>(qi 0 uj rfl (hu80 hg) rfl)) ?_;intro u81 hu81 hn81;refine cvu rfl rfl hS (fun hg=>(ql call96 (ml (hu81 hg) (ml rfl (ml rfl ml0))) (refIn_c k.c 0 1000000 _ _ hS.imm))) ?_;intro w_11 u82 hS hu82 hn82;refine qu rfl rfl hS (fun hg=>(g_not (hu82 hg))) ?_;intro u83 hu83 hn83;refine qq hS (g_or rfl rfl (fun hq=>hu83 hq)) (qq hS (Qmb rfl) (qu rfl rfl hS (fun hg=>(qb (o':=3) uI rfl Qe rfl rfl rfl)) ?_));intro u86 hu86 hn86;refine qu rfl rfl hS (fun hg=>(g_ldO 0 (vs:=[.int .i64 _,.int .i64 _,.int .i64 _,.int .i64 _,.int .i64 _]) Qe QO rfl (hu86 hg) rfl rfl)) ?_;intro u87 hu87 hn87;refine cvu rfl rfl hS (fun hg=>(ql call97 (ml (hu87 hg) ml0) (rright_c k.n _ _ hS.imm))) ?_;intro w_13 u88 hS hu88 hn88;refine qu rfl rfl hS (fun hg=>(g_not (hu88 hg))) ?_;intro u89 hu89 hn89;refine qq hS (g_or rfl rfl (fun hq=>hu89 hq)) (QoN (qo rfl ?_ ?_))
      ·
       intro hc90;clear hu66 hn66 hu67 hn67 hu68 hn68 hu69 hn69 hu70 hn70 hu73 hn73 hu74 hn74 hu75 hn75 hu76 hn76 hu77 hn77 hu80 hn80 hu81 hn81 hu82 hn82 hu83 hn83 hu86 hn86 hu87 hn87 hu88 hn88 hu89 hn89;rw[qU,qU]at hc90;have hok:lnkOk g.vs k=false:=by
        unfold lnkOk inS at *;cases h1:decide (k.f∈g.vs) <;> cases h2:decide (k.t∈g.vs) <;> cases h3:decide (k.f=k.t) <;> cases h4:rightN k.n <;> simp[h1,h2,h3,h4]at hc90 ⊢ <;> omega
       have e:validG g=false:=by
        rw[hv0,hv1,Bool.true_and];exact all_not29 hki hok
       refine QwR (qq hS (Qab rfl) (QoN (ub (Qs (uw (uw (Qs (uw (ret1 results65 (qr (v:=.bool _) rfl) ?_)))))))));exact⟨by rw[e] <;> rfl,Ext.forget hS.nil⟩
      ·
       intro hc90;clear hu66 hn66 hu67 hn67 hu68 hn68 hu69 hn69 hu70 hn70 hu73 hn73 hu74 hn74 hu75 hn75 hu76 hn76 hu77 hn77 hu80 hn80 hu81 hn81 hu82 hn82 hu83 hn83 hu86 hn86 hu87 hn87 hu88 hn88 hu89 hn89;rw[qU,qU]at hc90;have hok:lnkOk g.vs k=true:=by
        unfold lnkOk inS at *;cases h1:decide (k.f∈g.vs) <;> cases h2:decide (k.t∈g.vs) <;> cases h3:decide (k.f=k.t) <;> cases h4:rightN k.n <;> simp[h1,h2,h3,h4]at hc90 ⊢ <;> omega
       have hnx:∀(j:Nat) (x:LnkL),j < i+1→g.ls[j]? = some x→lnkOk g.vs x=true:=fun j x hj hx=>by
        rcases Qk.1 hj with h | h
        · exact hall j x h hx
        · subst h; rw[hki]at hx; rw[← Option.some.inj hx]; exact hok
       refine xZ (Qh (xN (reg (qq hS (Qmi rfl) (qq hS (g_add rfl rfl (by omega) (by omega)) (qq hS (Qai rfl) ?_))))));exact⟨i+1,_,rfl,⟨⟨rfl,rfl,trivial⟩,hS.sel [false,true],by omega,hnx⟩,by omega⟩
     ·
      intro hc52
      try simp only[zA,zO,zN,zI,zF,zM,zT,zU]at hc52
      obtain rfl:i=g.ls.length:=by omega
      have e:validG g=true:=by
       rw[hv0,hv1,Bool.true_and,Qn];intro k hk;obtain⟨j,hj⟩:=Qm.1 hk;exact hall j k (uc.1 hj).1 hj
      refine uD (uA (uA (Qw (xN (QwR (qq hS (Qab rfl) (QoN (ub (ret1 results65 (qr (v:=.bool _) rfl) ?_)))))))));exact⟨by rw[e] <;> rfl,Ext.forget hS.nil⟩
end Go.Proofs.YtcajgkfgjpfmaaaGreat
