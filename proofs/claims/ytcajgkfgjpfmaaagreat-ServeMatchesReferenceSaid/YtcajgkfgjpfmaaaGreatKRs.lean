/- inlayref29.Need, Made; inlayref30: Fit, Has, Insert, chain, Length, Version, Unlimited: what they compute. Conditions: good servers where it is said. inlayref30: Fit, Has, Insert, chain, Length, Version, Unlimited: what they compute. Conditions: good servers where it is said. inlayref30: Fit, chain, Composed, offer, cached: what they compute. Conditions: good servers where it is said. -/
import Derived.Test.YtcajgkfgjpfmaaaGreatKSp
import Derived.Test.YtcajgkfgjpfmaaaGreatRg29b
import Derived.Test.YtcajgkfgjpfmaaaGreatKLaw
set_option linter.unusedSimpArgs false
set_option linter.unusedVariables false
namespace Go.Proofs.YtcajgkfgjpfmaaaGreat
open Tryz
open Go Go.RowKit Go.Inl
theorem g_quo8 {P:Program}{n:Nat}{σ:Nat→Value}{S:World→Prop}{t t' ty:TypeId}{x y:Operand}{k:IntKind}{a b:Int}(hx:ev n σ x = .int k a)(hy:ev n σ y = .int k b)(ha:0≤a)(hb:0 < b)(hk:k.wrap (a / b)=a / b):Gives P (ev n σ) S (.binOp .quo t x y t') ty (.int k (a / b)) :=
 fun _ _=>jm hx hy (by simp[binOp,Op.intDiv,show b≠0 by omega,Int.tdiv_eq_ediv_of_nonneg ha,hk])
theorem fillu3 (z0 z1 z2:Value)(a b c:Int):Instr.fill (fun i=>some (i*1,1)) #[z0,z1,z2] [(0,.int .u8 a),(1,.int .u8 b),(2,.int .u8 c)]=some #[.int .u8 a,.int .u8 b,.int .u8 c]:=by
 simp[Instr.fill,Value.cells,List.zipIdx]
structure Q6 where
 a:Int
 b:Int
 c:Int
 d:Int
 e:Int
 f:Int
structure Q6.wf (q : Q6) : Prop where
 a:0≤q.a∧q.a≤255
 b:0≤q.b∧q.b≤255
 c:0≤q.c∧q.c≤255
 d:0≤q.d∧q.d≤255
 e:0≤q.e∧q.e≤255
 f:0≤q.f∧q.f≤255
def q6C (q:Q6):List Value:=[.int .u8 q.a,.int .u8 q.b,.int .u8 q.c,.int .u8 q.d,.int .u8 q.e,.int .u8 q.f]
def needQ (a b c:Int):NeedL:=⟨a % 4,a / 64,b % 8,c % 4,c / 64⟩
theorem needQ_right {a b c:Int}(ha:0≤a∧a≤255)(hb:0≤b∧b≤255)(hc:0≤c∧c≤255):rightN (needQ a b c)=true:=by
 unfold rightN fitN needQ;simp only[ub,xB];omega
structure MadeG (g : GrL) : Prop where
 val:ValG g
 vn:g.vs.length≤7
 ln:g.ls.length≤14
 vb:∀v∈g.vs,1≤v∧v≤21
structure GvW where
 k:Nat
 v:Int
 l:List Int
 a:Option Addr
 c:Nat
structure GvI (n : Nat) (x : GvW) : Prop where
 k0:x.k≤n
 k1:x.k≤7
 len:x.l.length=x.k
 v0:0≤x.v
 v1:x.v≤3*x.k
 inc:x.l.Pairwise (· < ·)
 b:∀u∈x.l,1≤u∧u≤x.v
structure GlW where
 k:Nat
 l:List LnkL
 a:Option Addr
 c:Nat
theorem gv_next {n k:Nat}{v d:Int}{l:List Int}{a a':Option Addr}{c c':Nat}(h:GvI n ⟨k,v,l,a,c⟩)(hk:k < n)(h7:k < 7)(hd:0≤d∧d≤2):GvI n ⟨k+1,v+(1+d),l++[v+(1+d)],a',c'⟩:=by
 obtain⟨k0,k1,len,v0,v1,inc,b⟩:=h;dsimp only at *;refine⟨by dsimp only; omega,by dsimp only; omega,by dsimp only; rw[xA,Qx]; omega,by dsimp only; omega,by dsimp only; omega,?_,?_⟩
 · show (l ++ [v + (1 + d)]).Pairwise (· < ·)
   rw[List.pairwise_append];refine⟨inc,List.pairwise_singleton _ _,fun x hx y hy=>?_⟩;rw[uG]at hy;have:=b x hx;omega
 · intro u hu
   show 1≤u∧u≤v+(1+d)
   rcases uZ.1 hu with hu | hu
   · have:=b u hu; omega
   · rw[uG]at hu; omega
structure GlI (vs : List Int) (x : GlW) : Prop where
 k1:x.k≤14
 len:x.l.length=x.k
 b:∀k∈x.l,LnkG vs k
theorem gl_next {vs:List Int}{k:Nat}{l:List LnkL}{a a':Option Addr}{c c':Nat}{q:LnkL}(h:GlI vs ⟨k,l,a,c⟩)(h7:k < 14)(hq:LnkG vs q):GlI vs ⟨k+1,l++[q],a',c'⟩:=by
 obtain⟨k1,len,b⟩:=h;dsimp only at *;refine⟨by dsimp only; omega,by dsimp only; rw[xA,Qx]; omega,?_⟩;intro u hu;rcases uZ.1 hu with hu | hu
 · exact b u hu
 · rw[uG]at hu; subst hu; exact hq
theorem inc_inj {vs:List Int}(h:vs.Pairwise (· < ·)){i j:Nat}{x:Int}(hi:vs[i]? = some x)(hj:vs[j]? = some x):i=j:=by
 obtain⟨a1,a2⟩:=xD.1 hi;obtain⟨b1,b2⟩:=xD.1 hj;have hp:=List.pairwise_iff_getElem.1 h;rcases Nat.lt_trichotomy i j with e | e | e
 · have:=hp _ _ a1 b1 e; omega
 · exact e
 · have:=hp _ _ b1 a1 e; omega
theorem mod_ne {f m n:Int}(h0:0≤f)(h1:f < n)(h2:0≤m)(h3:m < n - 1):0≤(f+1+m) % n∧(f+1+m) % n < n∧(f+1+m) % n≠f:=by
 have a1:=Int.emod_nonneg (f+1+m) (show n≠0 by omega);have a2:=Int.emod_lt_of_pos (f+1+m) (show 0 < n by omega);refine⟨a1,a2,fun h=>?_⟩;rcases Int.lt_or_le (f+1+m) n with e | e
 · rw[Int.emod_eq_of_lt (by omega) e]at h; omega
 · have:(f+1+m) % n=f+1+m - n:=by
    rw[← Int.sub_emod_right,Int.emod_eq_of_lt (by omega) (by omega)]
   omega
theorem needR_c (a b c : Int) (w0 : World) (I0 : Imm) (hI : Sat I0 w0) (ha : 0 ≤ a ∧ a ≤ 255) (hb : 0 ≤ b ∧ b ≤ 255) (hc : 0 ≤ c ∧ c ≤ 255) :
 Ctr prog 13 [.agg #[.int .u8 a,.int .u8 b,.int .u8 c]] w0 (fun v w'=>v = .agg #[.int .i64 (needQ a b c).s,.int .i64 (needQ a b c).u,.int .i64 (needQ a b c).r,.int .i64 (needQ a b c).e,.int .i64 (needQ a b c).o]∧Ext w0 I0 w' I0):=by
 refine fn (n:=24) func13 rfl rfl rfl ?_;have hS:=St.start hI;refine QwR (qe (d_box (cs:=[.int .u8 _,.int .u8 _,.int .u8 _]) hS rfl) ?_);clear hS;rintro _ w_1⟨b1,rfl,hS⟩;refine qe (qo (cs:=[.int .i64 _,.int .i64 _,.int .i64 _,.int .i64 _,.int .i64 _]) hS QX rfl) ?_;clear hS;rintro _ w_2⟨b2,rfl,hS⟩;refine QoR (qq hS (qC (o':=0) Ja uf rfl rfl (by decide) (by decide) rfl) (qq hS (qf 1 uR rfl rfl rfl) (qq hS (g_rem rfl rfl (by omega) (by omega)) (qq hS (je Qq QC rfl (by omega) (by omega)) (qq hS (qC (o':=0) Ja uf rfl rfl (by decide) (by decide) rfl) (qq hS (qf 1 uR rfl rfl rfl) ?_))))));refine qq hS (g_quo8 rfl rfl (by omega) (by decide) (by rw[IntKind.wrap_u8]; omega)) ?_;refine qq hS (je Qq QC rfl (by omega) (by omega)) (qq hS (qC (o':=1) Ja uf rfl rfl (by decide) (by decide) rfl) (qq hS (qf 1 uR rfl rfl rfl) (qq hS (g_rem rfl rfl (by omega) (by omega)) (qq hS (je Qq QC rfl (by omega) (by omega)) (qq hS (qC (o':=2) Ja uf rfl rfl (by decide) (by decide) rfl) (qq hS (qf 1 uR rfl rfl rfl) ?_))))));refine qq hS (g_rem rfl rfl (by omega) (by omega)) (qq hS (je Qq QC rfl (by omega) (by omega)) (qq hS (qC (o':=2) Ja uf rfl rfl (by decide) (by decide) rfl) (qq hS (qf 1 uR rfl rfl rfl) ?_)));refine qq hS (g_quo8 rfl rfl (by omega) (by decide) (by rw[IntKind.wrap_u8]; omega)) ?_;refine qq hS (je Qq QC rfl (by omega) (by omega)) (qq hS (ql (pl:=[(0,1),(1,1),(2,1),(3,1),(4,1)]) (cs:=[.int .i64 _,.int .i64 _,.int .i64 _,.int .i64 _,.int .i64 _]) QX QE (fun w=>by simp[xq]) (mp (v:=.int .i64 _) rfl (mp (v:=.int .i64 _) rfl (mp (v:=.int .i64 _) rfl (mp (v:=.int .i64 _) rfl (mp (v:=.int .i64 _) rfl mp0))))) rfl) ?_)
 refine qe (qg 0 hS uO rfl rfl rfl (vs:=[.int .i64 _,.int .i64 _,.int .i64 _,.int .i64 _,.int .i64 _]) rfl rfl rfl (xm rfl) (cs':=[_,_,_,_,_]) rfl) ?_;clear hS;rintro _ w_3⟨rfl,hS⟩;refine QoN (xx (ret1 results13 (qv 0 hS uO QJ rfl rfl rfl) ?_));exact⟨rfl,hS.nil⟩
theorem madeG_c_fill0 (z0 z1 z2 z3 z4 z5 z6 z7:Value)(x0:Int)(x1:Int)(x2:Int)(x3:Int)(x4:Int)(x5:Int)(x6:Int)(x7:Int):Instr.fill ([(0,1),(1,1),(2,1),(3,5)][·]?) #[z0,z1,z2,z3,z4,z5,z6,z7] [(0,.int .i64 x0),(1,.int .i64 x1),(2,.int .i64 x2),(3,.agg #[.int .i64 x3,.int .i64 x4,.int .i64 x5,.int .i64 x6,.int .i64 x7])]=some #[.int .i64 x0,.int .i64 x1,.int .i64 x2,.int .i64 x3,.int .i64 x4,.int .i64 x5,.int .i64 x6,.int .i64 x7]:=by
 simp[Instr.fill,Value.cells,List.zipIdx]
set_option maxHeartbeats 4000000 in
theorem madeG_c (av al : Option Addr) (cv cl : Nat) (V : List Int) (Q : List Q6) (w0 : World) (I0 : Imm) (hI : Sat I0 w0) (hV : RBytes I0 (.slice av V.length cv) V) (hVb : ∀ x ∈ V, 0 ≤ x ∧ x ≤ 255) (hQ : RFl I0 6 q6C (.slice al Q.length cl) Q) (hQw : ∀ q ∈ Q, q.wf) :
 Ctr prog 44 [.agg #[.slice av V.length cv,.slice al Q.length cl]] w0 (fun v w'=>∃I' g a0 c0 a1 c1,v = .agg #[.slice a0 g.vs.length c0,.slice a1 g.ls.length c1]∧Ext w0 I0 w' I'∧RGr I' a0 c0 a1 c1 g∧MadeG g):=by
 have hlv:=RSl.le hV;have hlq:=RSl.le hQ;simp only[maxLen]at hlv hlq;refine fn (n:=107) func44 rfl rfl rfl ?_;have hS:=St.start hI;refine QwR (qe (d_box (cs:=[.slice _ _ _,.slice _ _ _]) hS rfl) ?_);clear hS;rintro _ w_1⟨b1,rfl,hS⟩;refine qe (qo (cs:=[.slice _ _ _,.slice _ _ _]) hS uo rfl) ?_;clear hS;rintro _ w_2⟨b2,rfl,hS⟩;refine QoR (qq hS (ql (pl:=[(0,1),(1,1)]) (cs:=[.slice _ _ _,.slice _ _ _]) uo xO (fun w=>by simp[xJ,ut]) mp0 rfl) (qe (qo (cs:=[.slice _ _ _,.slice _ _ _]) hS uo rfl) ?_));clear hS;rintro _ w_3⟨b3,rfl,hS⟩;refine qe (qg 0 hS xU rfl rfl rfl (vs:=[.slice _ _ _,.slice _ _ _]) rfl rfl rfl (xm rfl) (cs':=[_,_]) rfl) ?_;clear hS;rintro _ w_4⟨rfl,hS⟩;refine qq hS (Qai rfl) (QoN (xp (QwR (qq hS (Qai rfl) (QoN (xG (loop (fun(x:GvW) σ w=>okS σ [(1,.pointer (some ⟨b1,0,none⟩)),(2,.pointer (some ⟨b2,0,none⟩)),(3,.pointer (some ⟨b3,0,none⟩)),(4,.int .i64 x.v),(5,.int .i64 x.k)]∧St [] w0 I0 I0 w [.row (.slice x.a x.l.length x.c) 3 1 x.l.length (flat intC x.l),.cel b3 34 [.slice x.a x.l.length x.c,.slice none 0 0],.cel b2 34 [.slice none 0 0,.slice none 0 0],.cel b1 25 [.slice av V.length cv,.slice al Q.length cl]]∧GvI V.length x) (fun x=>V.length - x.k) (⟨0,0,[],none,0⟩) ?_ ?_)))))))
 ·
  exact⟨⟨rfl,rfl,rfl,rfl,rfl,trivial⟩,(hS.sel [true,true,true]).nilRow 3 1,⟨Nat.zero_le _,by decide,rfl,Int.le_refl _,by decide,List.Pairwise.nil,fun _ h=>by cases h⟩⟩
 ·
  rintro⟨k,v,vs,a,c⟩σ w_l⟨hs,hS,hI⟩;dsimp only at hs hS ⊢;rw[← qr hs]; clear hs
  refine xp (QwR (qq hS (Qmi rfl) (qq hS (qb (o':=0) JD rfl Ql rfl rfl rfl) (qq hS (qf 3 QW rfl rfl rfl) (qq hS (qs rfl uX (hV.mono hS.ext) rfl) (qq hS (g_lss rfl rfl) (qq hS (Qmb rfl) (qu rfl rfl hS (fun hg=>(Qmi rfl)) ?_))))))));intro u18 hu18 hn18;refine qu rfl rfl hS (fun hg=>(g_lss (hu18 hg) rfl)) ?_;intro u19 hu19 hn19;refine qq hS (g_and rfl rfl (fun hq=>hu19 hq)) (QoN (qk rfl ?_ ?_))
  ·
   intro hc20;clear hu18 hn18 hu19 hn19
   try simp only[zA,zO,zN,zI,zF,zM,zT,zU]at hc20
   obtain⟨hkn,hk7⟩:=hc20;obtain⟨y,hyi⟩:∃y,V[k]? = some y:=⟨_,xn (by omega)⟩
   have hyA:=(hV.mono hS.ext).at hyi;have hyb:=hVb y (xC hyi);have hnx:=fun a' c'=>gv_next (a':=a') (c':=c') hI (by omega) (by omega) (show 0≤y % 3∧y % 3≤2 by omega)
   obtain⟨hi1,hi2,hi3,hi4,hi5,hi6,hi7⟩:=hI;dsimp only at hi1 hi2 hi3 hi4 hi5;refine xw (xr (xp (xG (QwR (qq hS (Qmi rfl) (qq hS (qb (o':=0) JD rfl Ql rfl rfl rfl) (qq hS (qf 3 QW rfl rfl rfl) (qq hS (Qmi rfl) (qq hS (g_ixI uX uf (hV.mono hS.ext) rfl rfl (by omega) (by omega)) (qq hS (qy uR hyA rfl rfl) (qq hS (g_rem rfl rfl (by omega) (by omega)) (qq hS (je Qq QC rfl (by omega) (by omega)) ?_))))))))))));refine qq hS (g_add rfl rfl (by omega) (by omega)) (qq hS (g_add rfl rfl (by omega) (by omega)) (qq hS (Qai rfl) (QoN (reg (qq hS (qb (o':=0) xO rfl xJ rfl rfl rfl) (qq hS (qf 1 ui rfl rfl rfl) (qq hS (Qmi rfl) ?_)))))));refine qe (d_lit (vs:=[.int .i64 _]) (cs:=[.int .i64 _]) hS xu xq uJ rfl rfl rfl rfl (fun v hv=>by simp only[xK,xM,or_false]at hv; subst hv; rfl) rfl) ?_;clear hS;rintro _ w_5⟨b36,rfl,hS⟩;refine qe (qx 1 0 hS rfl xu QO rfl rfl rfl rfl rfl rfl rfl rfl (by omega) (by omega)) ?_;clear hS;rintro _ w_6⟨a37,p37,rfl,hS⟩;refine qq hS (qb (o':=0) xO rfl xJ rfl rfl rfl) (qe (qg 2 hS xJ rfl rfl rfl (vs:=[.slice _ _ _]) rfl rfl rfl (xm rfl) (cs':=[_,_]) rfl) ?_);clear hS;rintro _ w_7⟨rfl,hS⟩;refine qK (uF (xr (reg (qq hS (Qmi rfl) (qq hS (g_add rfl rfl (by omega) (by omega)) (qq hS (Qai rfl) ?_))))));exact⟨⟨k+1,v+(1+y % 3),vs++[v+(1+y % 3)],a37,p37⟩,_,rfl,⟨⟨rfl,rfl,rfl,rfl,rfl,trivial⟩,by dsimp only; rw[xA,qt]; exact hS.sel [false,true,true,true,true],hnx _ _⟩,by dsimp only; omega⟩
  ·
   intro hc20;clear hu18 hn18 hu19 hn19
   try simp only[zA,zO,zN,zI,zF,zM,zT,zU]at hc20
   obtain⟨hi1,hi2,hi3,hi4,hi5,hi6,hi7⟩:=hI;dsimp only at hi1 hi2 hi3 hi4 hi5 hi6 hi7;refine uc (xZ (xZ (Qd (xr (xp ?_)))));have hF:=St.freezeRow (u:=.slice a vs.length c) (m:=vs.length) (xs:=vs) qz (by exact hS.ord [0,1,2,3]) (rfl);clear hS;obtain⟨I_hvs,hS,hI_hvs,hvs⟩:=hF;refine reg (qq hS (qb (o':=0) xO rfl xJ rfl rfl rfl) (qq hS (qf 0 ui rfl rfl rfl) (qq hS (qs rfl xu hvs rfl) (qq hS (Qai rfl) (QoN (xp (QwR (qq hS (Qai rfl) (QoN (xG (loop (fun(x:GlW) σ w=>okS σ [(1,.pointer (some ⟨b1,0,none⟩)),(2,.pointer (some ⟨b2,0,none⟩)),(3,.pointer (some ⟨b3,0,none⟩)),(6,.int .i64 vs.length),(7,.int .i64 x.k)]∧St [] w0 I0 I_hvs w [.row (.slice x.a x.l.length x.c) 60 8 x.l.length (flat lnkC x.l),.cel b3 34 [.slice a vs.length c,.slice x.a x.l.length x.c],.cel b2 34 [.slice none 0 0,.slice none 0 0],.cel b1 25 [.slice av V.length cv,.slice al Q.length cl]]∧GlI vs x) (fun x=>Q.length - x.k) (⟨0,[],none,0⟩) ?_ ?_)))))))))))
   ·
    exact⟨⟨rfl,rfl,rfl,rfl,rfl,trivial⟩,(hS.sel [true,true,true]).nilRow 60 8,⟨by decide,rfl,fun _ h=>by cases h⟩⟩
   ·
    rintro⟨i,ls,al1,cl1⟩σ w_l⟨hs,hS,hJ⟩;dsimp only at hs hS ⊢;rw[← qr hs]; clear hs
    refine xp (QwR (qq hS (Qmi rfl) (qq hS (qb (o':=1) JD rfl sizeOf23 rfl rfl rfl) (qq hS (qf 3 isAgg23 rfl rfl rfl) (qq hS (qs rfl underlying23 (hQ.mono hS.ext) rfl) (qq hS (g_lss rfl rfl) (qq hS (Qmb rfl) (qu rfl rfl hS (fun hg=>(Qmi rfl)) ?_))))))));intro u48 hu48 hn48;refine qu rfl rfl hS (fun hg=>(g_lss (hu48 hg) rfl)) ?_;intro u49 hu49 hn49;refine qq hS (g_and rfl rfl (fun hq=>hu49 hq)) (qq hS (Qmb rfl) (qu rfl rfl hS (fun hg=>(Qmi rfl)) ?_));intro u52 hu52 hn52;refine qu rfl rfl hS (fun hg=>(g_gtr (hu52 hg) rfl)) ?_;intro u53 hu53 hn53;refine qq hS (g_and rfl rfl (fun hq=>hu53 hq)) (QoN (qk rfl ?_ ?_))
    ·
     intro hc54;clear hu48 hn48 hu49 hn49 hu52 hn52 hu53 hn53
     try simp only[zA,zO,zN,zI,zF,zM,zT,zU]at hc54
     obtain⟨⟨hin,hi14⟩,hn1⟩:=hc54;obtain⟨q,hqi⟩:∃q,Q[i]? = some q:=⟨_,xn (by omega)⟩
     have hqA:=(hQ.mono hS.ext).at hqi;obtain⟨⟨qa1,qa2⟩,⟨qb1,qb2⟩,⟨qc1,qc2⟩,⟨qd1,qd2⟩,⟨qe1,qe2⟩,⟨qf1,qf2⟩⟩:=hQw q (xC hqi);have f1:=Int.emod_nonneg q.a (show(vs.length:Int)≠0 by omega);have f2:=Int.emod_lt_of_pos q.a (show 0 < (vs.length:Int) by omega);have m1:=Int.emod_nonneg q.b (show(vs.length:Int) - 1≠0 by omega);have m2:=Int.emod_lt_of_pos q.b (show 0 < (vs.length:Int) - 1 by omega);obtain⟨t1,t2,t3⟩:=mod_ne f1 f2 m1 m2;obtain⟨vf,hfi⟩:∃x,vs[(q.a % (vs.length:Int)).toNat]? = some x:=⟨_,xn (by omega)⟩
     obtain⟨vt,hti⟩:∃x,vs[((q.a % (vs.length:Int)+1+q.b % ((vs.length:Int) - 1)) % (vs.length:Int)).toNat]? = some x:=⟨_,xn (by omega)⟩
     have hfA:=hvs.at hfi;have htA:=hvs.at hti;have hnew:LnkG vs ⟨vf,vt,q.c % 8,needQ q.d q.e q.f⟩:=⟨xC hfi,xC hti,fun h=>t3 (by
      replace h:vf=vt:=h;subst h;have:=inc_inj hi6 hfi hti;omega),by dsimp only; omega,by dsimp only; omega,needQ_right ⟨qd1,qd2⟩ ⟨qe1,qe2⟩ ⟨qf1,qf2⟩⟩
     have hnx:=fun a' c'=>gl_next (a':=a') (c':=c') hJ (by omega) hnew
     obtain⟨hj1,hj2,hj3⟩:=hJ;dsimp only at hj1 hj2;refine xw (xr (xp (xG (QwR (qq hS (qb (o':=1) JD rfl sizeOf23 rfl rfl rfl) (qq hS (qf 3 isAgg23 rfl rfl rfl) (qq hS (Qmi rfl) (qq hS (g_ixI underlying23 sizeOf147 (hQ.mono hS.ext) rfl rfl (by omega) (by omega)) (qq hS (g_ldE (us:=[.int .u8 _,.int .u8 _,.int .u8 _,.int .u8 _,.int .u8 _,.int .u8 _]) sizeOf147 isAgg147 hqA rfl rfl rfl) ?_)))))))));refine qe (qo (cs:=[.int .u8 _,.int .u8 _,.int .u8 _,.int .u8 _,.int .u8 _,.int .u8 _]) hS zeroValue147 rfl) ?_;clear hS;rintro _ w_8⟨b8,rfl,hS⟩;refine qe (qg 0 hS sizeOf147 rfl rfl rfl (vs:=[.int .u8 _,.int .u8 _,.int .u8 _,.int .u8 _,.int .u8 _,.int .u8 _]) rfl rfl rfl (xm rfl) (cs':=[_,_,_,_,_,_]) rfl) ?_;clear hS;rintro _ w_9⟨rfl,hS⟩;refine QoR (qq hS (qC (o':=0) Jo uf rfl rfl (by decide) (by decide) rfl) (qq hS (qf 0 uR rfl rfl rfl) (qq hS (je Qq QC rfl (by omega) (by omega)) (qq hS (Qmi rfl) (qq hS (g_rem rfl rfl (by omega) (by omega)) (qq hS (Qai rfl) (QoR (qq hS (Qmi rfl) (qq hS (g_add rfl rfl (by omega) (by omega)) (qq hS (qC (o':=1) Jo uf rfl rfl (by decide) (by decide) rfl) ?_))))))))));refine qq hS (qf 0 uR rfl rfl rfl) (qq hS (je Qq QC rfl (by omega) (by omega)) (qq hS (Qmi rfl) (qq hS (g_sub rfl rfl (by omega) (by omega)) (qq hS (g_rem rfl rfl (by omega) (by omega)) (qq hS (g_add rfl rfl (by omega) (by omega)) (qq hS (Qmi rfl) (qq hS (g_rem rfl rfl (by omega) (by omega)) (qq hS (Qai rfl) (QoN ?_)))))))));refine draw (.cons 0 .pure (.cons 1 .held (.cons 2 .pure (.cons 3 .held (.cons 4 .pure (.cons 5 .pure (.cons 6 .held (.cons 7 .pure (.cons 8 .held (.cons 9 .pure (.cons 10 .pure (.cons 11 .held (.cons 12 .pure (.cons 13 .held (.cons 14 .pure (.cons 15 .pure (.cons 16 .pure (.cons 17 .held (.cons 18 .pure (.cons 19 .held (.cons 20 .pure (.cons 21 .held (.cons 22 .pure (.cons 23 .eff (.cons 24 .pure (.cons 25 .eff (.cons 26 .bar (.cons 27 .pure (.cons 28 .bar .nil))))))))))))))))))))))))))))) mixed (by kernel_rfl) hS ?_
     intro w_10 hS;refine sp rfl (qb (o':=1) xO rfl ut rfl rfl rfl) (sh rfl (qf 2 QQ rfl rfl rfl) (sp rfl (qb (o':=0) xO rfl xJ rfl rfl rfl) (sh rfl (qf 2 ui rfl rfl rfl) (sp rfl (Qmi rfl) (sp rfl (g_ixI xu xq hvs rfl rfl (by omega) (by omega)) (sh rfl (qy xI hfA rfl rfl) (sp rfl (qb (o':=0) xO rfl xJ rfl rfl rfl) ?_)))))));refine sh rfl (qf 2 ui rfl rfl rfl) (sp rfl (Qmi rfl) (sp rfl (g_ixI xu xq hvs rfl rfl (by omega) (by omega)) (sh rfl (qy xI htA rfl rfl) (sp rfl (qC (o':=2) Jo uf rfl rfl (by decide) (by decide) rfl) (sh rfl (qf 0 uR rfl rfl rfl) (sp rfl (g_rem rfl rfl (by omega) (by omega)) (sp rfl (je Qq QC rfl (by omega) (by omega)) ?_)))))));refine sp rfl (qC (o':=3) Jo uf rfl rfl (by decide) (by decide) rfl) (sh rfl (qf 0 uR rfl rfl rfl) (sp rfl (qC (o':=4) Jo uf rfl rfl (by decide) (by decide) rfl) (sh rfl (qf 0 uR rfl rfl rfl) (sp rfl (qC (o':=5) Jo uf rfl rfl (by decide) (by decide) rfl) (sh rfl (qf 0 uR rfl rfl rfl) (sp rfl (zY (cs:=[.int .u8 q.d,.int .u8 q.e,.int .u8 q.f]) zeroValue29 Ja uf rfl (fillu3 _ _ _ _ _ _)) ?_))))));have hS0:=hS;refine se rfl (qi call13 rfl (needR_c q.d q.e q.f _ _ hS.imm ⟨qd1,qd2⟩ ⟨qe1,qe2⟩ ⟨qf1,qf2⟩)) ?_;rintro _ w_11⟨rfl,hE⟩;replace hS:=hS.call hE;refine⟨_,_,hS0.le hE.ext (xt _),hS,sp rfl (ql (pl:=[(0,1),(1,1),(2,1),(3,5)]) (cs:=[.int .i64 _,.int .i64 _,.int .i64 _,.int .i64 _,.int .i64 _,.int .i64 _,.int .i64 _,.int .i64 _]) Qb uq (fun w=>by simp[xq,uO]) (mp (v:=.int .i64 _) rfl (mp (v:=.int .i64 _) rfl (mp (v:=.int .i64 _) rfl (mp (v:=.agg #[.int .i64 _,.int .i64 _,.int .i64 _,.int .i64 _,.int .i64 _]) rfl mp0)))) (madeG_c_fill0 _ _ _ _ _ _ _ _ _ _ _ _ _ _ _ _)) ?_⟩
     have hS0:=hS;refine se rfl (d_lit (vs:=[.agg #[.int .i64 _,.int .i64 _,.int .i64 _,.int .i64 _,.int .i64 _,.int .i64 _,.int .i64 _,.int .i64 _]]) (cs:=[.int .i64 _,.int .i64 _,.int .i64 _,.int .i64 _,.int .i64 _,.int .i64 _,.int .i64 _,.int .i64 _]) hS xV uE Qb rfl rfl rfl rfl (fun v hv=>by simp only[xK,xM,or_false]at hv; subst hv; rfl) rfl) ?_;rintro _ w_12⟨b103,rfl,hS⟩;refine⟨_,_,hS0.le (Sub.refl _) (xv _ _),hS,sb rfl (qx 2 0 hS rfl xV QV rfl rfl rfl rfl rfl rfl rfl rfl (by omega) (by omega)) ?_⟩;rintro _ w_13⟨a104,p104,rfl,hS⟩;refine⟨_,_,hS,sp rfl (qb (o':=1) xO rfl ut rfl rfl rfl) (sb rfl (qg 3 hS ut rfl rfl rfl (vs:=[.slice _ _ _]) rfl rfl rfl (xm rfl) (cs':=[_,_]) rfl) ?_)⟩;rintro _ w_14⟨rfl,hS⟩;refine⟨_,_,hS,sn (uF (xr (reg (qq hS (Qmi rfl) (qq hS (g_add rfl rfl (by omega) (by omega)) (qq hS (Qai rfl) ?_))))))⟩;exact⟨⟨i+1,ls++[⟨vf,vt,q.c % 8,needQ q.d q.e q.f⟩],a104,p104⟩,_,rfl,⟨⟨rfl,rfl,rfl,rfl,rfl,trivial⟩,by dsimp only; rw[xA,qt]; exact hS.sel [false,false,true,true,true,true],hnx _ _⟩,by dsimp only; omega⟩
    ·
     intro hc54;clear hu48 hn48 hu49 hn49 hu52 hn52 hu53 hn53
     try simp only[zA,zO,zN,zI,zF,zM,zT,zU]at hc54
     obtain⟨hj1,hj2,hj3⟩:=hJ;dsimp only at hj1 hj2 hj3;refine uc (xZ (xZ (Qd (xr (QwR (qq hS (g_ldO 1 (vs:=[.slice _ _ _,.slice _ _ _]) xU QN rfl rfl rfl rfl) (qe (qg 2 hS xU rfl rfl rfl (vs:=[.slice _ _ _,.slice _ _ _]) rfl rfl rfl (xm rfl) (cs':=[_,_]) rfl) ?_)))))));clear hS;rintro _ w_15⟨rfl,hS⟩;refine QoN (xx (ret1 results44 (qv 2 hS xU QN rfl rfl rfl) ?_));obtain⟨I1,hS1,hI1,hd1⟩:=St.freezeRow qG (xs:=ls) (hS.sel [true,false,false,false]) rfl;exact⟨I1,⟨vs,ls⟩,a,c,al1,cl1,rfl,hS1.nil,⟨hvs.mono hI1,hd1⟩,⟨⟨by dsimp only; omega,by dsimp only; omega,hi6,fun v hv=>by have:=hi7 v hv; omega,hj3⟩,by dsimp only; omega,by dsimp only; omega,fun v hv=>by have:=hi7 v hv; omega⟩⟩
end Go.Proofs.YtcajgkfgjpfmaaaGreat
namespace Go.Proofs.YtcajgkfgjpfmaaaGreat
open Tryz
open Go Go.RowKit Go.Inl
theorem hasStep {l:List Int}{k:Nat}{x v:Int}(hall:∀i,i < k→l[i]? ≠ some v)(hxi:l[k]? = some x)(hc:¬x=v):∀i,i < k+1→l[i]? ≠ some v:=fun i hi h=>by
 rcases uw.1 hi with g | g
 · exact hall i g h
 · subst g; rw[hxi]at h; exact hc (Option.some.inj h)
def versP (s:SrvL)(n:Int):Int:=if s.g.vs.length=0∨200≤n then n else s.g.vs.getD (n % (s.g.vs.length:Int)).toNat 0
theorem getD_get30 {l:List Int}{k:Nat}{d:Int}(h:k < l.length):l[k]? = some (l.getD k d):=by rw[xH,xn h]; rfl
theorem getN30 {l:List Int}{i:Nat}{x d:Int}(h:l[i]? = some x):l.getD i d=x:=by rw[xH,h]; rfl
theorem lt_step30 {l:List Int}{n y:Int}{k:Nat}(h:∀i,i < k→∀z,l[i]? = some z→z < n)(hy:l[k]? = some y)(e:y < n):∀i,i < k+1→∀z,l[i]? = some z→z < n:=fun i hi z hz=>by
 rcases uw.1 hi with g | g
 · exact h i g z hz
 · subst g; rw[hy]at hz; cases hz; exact e
theorem has_c (ad : Option Addr) (cap : Nat) (l : List Int) (v : Int) (w0 : World) (I0 : Imm) (hI : Sat I0 w0) (hl : RFl I0 1 intC (.slice ad l.length cap) l) :
 Ctr prog 32 [.slice ad l.length cap,.int .i64 v] w0 (fun u w'=>u = .bool (decide (v∈l))∧Ext w0 I0 w' I0):=by
 have hle:=RSl.le hl;simp only[maxLen]at hle;refine fn (n:=18) func32 rfl rfl rfl ?_;have hS:=St.start hI;refine QwR (qq hS (Qab rfl) (QoN (xp (QwR (qq hS (Qai rfl) (QoN (xG (loop (fun(k:Nat) σ w=>okS σ [(0,.slice ad l.length cap),(1,.int .i64 v),(5,.int .i64 k)]∧St [] w0 I0 I0 w []∧k≤l.length∧∀i,i < k→l[i]? ≠ some v) (fun k=>l.length - k) (0) ?_ ?_))))))))
 ·
  exact⟨⟨rfl,rfl,rfl,trivial⟩,hS.sel [],by omega,fun i hi=>by omega⟩
 ·
  rintro k σ w_l⟨hs,hS,hk0,hall⟩;rw[← qr hs]; clear hs
  refine xp (QwR (qq hS (Qmi rfl) (qq hS (qh _) (qq hS (qs rfl xu hl rfl) (qq hS (g_lss rfl rfl) (QoN (qk rfl ?_ ?_)))))))
  ·
   intro hc9
   try simp only[zA,zO,zN,zI,zF,zM,zT,zU]at hc9
   obtain⟨x,hxi⟩:∃x,l[k]? = some x:=⟨_,xn (by omega)⟩
   have hxA:=hl.at hxi;refine xw (xr (xp (xG (QwR (qq hS (qh _) (qq hS (Qmi rfl) (qq hS (g_ixI xu xq hl rfl rfl (by omega) (by omega)) (qq hS (qy xI hxA rfl rfl) (qq hS (Qmi rfl) (qq hS (g_eql rfl rfl) (QoN (qk rfl ?_ ?_))))))))))))
   ·
    intro hc17
    try simp only[zA,zO,zN,zI,zF,zM,zT,zU]at hc17
    subst hc17;have e:decide (x∈l)=true:=un (xC hxi);refine QwR (qq hS (Qab rfl) (QoN (xx (uH (xS (xS (uH (xS (ret1 results32 (qj (v:=.bool _) rfl) ?_)))))))));exact⟨by rw[e] <;> rfl,hS.nil⟩
   ·
    intro hc17
    try simp only[zA,zO,zN,zI,zF,zM,zT,zU]at hc17
    have hnx:=hasStep hall hxi hc17;refine xw (uF (xr (reg (qq hS (Qmi rfl) (qq hS (g_add rfl rfl (by omega) (by omega)) (qq hS (Qai rfl) ?_))))));exact⟨k+1,_,rfl,⟨⟨rfl,rfl,rfl,trivial⟩,hS.sel [],by omega,hnx⟩,by omega⟩
  ·
   intro hc9
   try simp only[zA,zO,zN,zI,zF,zM,zT,zU]at hc9
   obtain rfl:k=l.length:=by omega
   have e:decide (v∈l)=false:=Qj (vI hall);refine uc (xZ (xZ (Qd (xr (QwR (qq hS (Qab rfl) (QoN (xx (ret1 results32 (qj (v:=.bool _) rfl) ?_)))))))));exact⟨by rw[e] <;> rfl,hS.nil⟩
theorem zW (ad : Option Addr) (cap : Nat) (l : List Int) (n : Int) (w0 : World) (I0 : Imm) (hI : Sat I0 w0) (hl : RFl I0 1 intC (.slice ad l.length cap) l) (hs : l.Pairwise (· < ·)) (hn : l.length ≤ 1073741824) :
 Ctr prog 45 [.slice ad l.length cap,.int .i64 n] w0 (fun v w'=>∃I' a c,v = .slice a (insI l n).length c∧Ext w0 I0 w' I'∧RFl I' 1 intC (.slice a (insI l n).length c) (insI l n)):=by
 have hle:=RSl.le hl;simp only[maxLen]at hle;have hcap:=(RSl.len_cap hl).1;refine fn (n:=39) func45 rfl rfl rfl ?_;have hS:=St.start hI;refine QwR (qq hS (qp _) (QoN (xp (QwR (qq hS (qh _) (qq hS (Qmi rfl) (qe (qi call32 rfl (has_c ad cap l n _ I0 hS.imm hl)) ?_)))))));rintro _ w_1⟨rfl,hE⟩;replace hS:=hS.callE hE;refine QoN (qk rfl ?_ ?_)
 ·
  intro hc9
  try simp only[zA,zO,zN,zI,zF,zM,zT,zU]at hc9
  have hm:n∈l:=by simpa using hc9
  have e:=yG hs hm;refine QwR (qq hS (qh _) (qq hS (qp _) (QoN (xx (xS (ret1 results45 (qj rfl) ?_))))))
  first
   | exact⟨I0,ad,cap,by rw[e] <;> rfl,hS.nil,by rw[e]; exact hl⟩
   | (have e2 : insI l n = l.take k ++ ([n] ++ l.drop k) := e
      rw[e2];have hm2:0+(l.take k).length+1+(l.drop k).length=(l.take k++([n]++l.drop k)).length:=by simp only[xA,Qx]; omega
      obtain⟨I1,hE1,hI1,hd1⟩:=qL qz (xs:=l.take k++([n]++l.drop k)) (m:=(l.take k++([n]++l.drop k)).length) (by rw[← hm2,qt,qt,qZ,← uP]; exact hS.sel []) rfl;exact⟨I1,a38,p38,by rw[← hm2] <;> rfl,hE1,by rw[← hm2]; exact hd1⟩)
 ·
  intro hc9
  try simp only[zA,zO,zN,zI,zF,zM,zT,zU]at hc9
  have hm:n∉l:=by simpa using hc9
  refine xw (xr (QwR (qq hS (Qai rfl) (QoN (xp (xG (loop (fun(k:Nat) σ w=>okS σ [(0,.slice ad l.length cap),(1,.int .i64 n),(5,.int .i64 k)]∧St [] w0 I0 I0 w []∧k≤l.length∧∀i,i < k→∀z,l[i]? = some z→z < n) (fun k=>l.length - k) (0) ?_ ?_)))))))
  ·
   exact⟨⟨rfl,rfl,rfl,trivial⟩,hS.sel [],by omega,fun i hi=>by omega⟩
  ·
   rintro k σ w_l⟨hs,hS,hk,hlt⟩;rw[← qr hs]; clear hs
   have hxA:k < l.length→atI I0 (elA (.slice ad l.length cap) k 1 0) [.int .i64 (l.getD k 0)]:=fun h=>hl.at (getD_get30 h)
   refine xp (QwR (qq hS (Qmi rfl) (qq hS (qh _) (qq hS (qs rfl xu hl rfl) (qq hS (g_lss rfl rfl) (qq hS (Qmb rfl) (qu rfl rfl hS (fun hg=>(qh _)) ?_)))))));intro u16 hu16 hn16;refine qu rfl rfl hS (fun hg=>(Qmi rfl)) ?_;intro u17 hu17 hn17;refine qu rfl rfl hS (fun hg=>(g_ixI xu xq hl (hu16 hg) (hu17 hg) (by have:=Qz hg; omega) (by have:=Qz hg; omega))) ?_;intro u18 hu18 hn18;refine qu rfl rfl hS (fun hg=>(qy xI (hxA (by have:=Qz hg; omega)) (hu18 hg) rfl)) ?_;intro u19 hu19 hn19;refine qu rfl rfl hS (fun hg=>(Qmi rfl)) ?_;intro u20 hu20 hn20;refine qu rfl rfl hS (fun hg=>(g_lss (hu19 hg) (hu20 hg))) ?_;intro u21 hu21 hn21;refine qq hS (g_and rfl rfl (fun hq=>hu21 hq)) (QoN (qk rfl ?_ ?_))
   ·
    intro hc22;clear hu16 hn16 hu17 hn17 hu18 hn18 hu19 hn19 hu20 hn20 hu21 hn21
    try simp only[zA,zO,zN,zI,zF,zM,zT,zU]at hc22
    have hkl:k < l.length:=by have:=hc22.1; omega
    obtain⟨y,hyi⟩:∃y,l[k]? = some y:=⟨_,xn hkl⟩
    have hyn:l.getD k 0 < n:=hc22.2;rw[getN30 hyi]at hyn;have hlt2:=lt_step30 hlt hyi hyn;refine xw (xr (xG (reg (qq hS (Qmi rfl) (qq hS (g_add rfl rfl (by omega) (by omega)) (qq hS (Qai rfl) ?_))))));exact⟨k+1,_,rfl,⟨⟨rfl,rfl,rfl,trivial⟩,hS.sel [],by omega,hlt2⟩,by omega⟩
   ·
    intro hc22;clear hu16 hn16 hu17 hn17 hu18 hn18 hu19 hn19 hu20 hn20 hu21 hn21
    try simp only[zA,zO,zN,zI,zF,zM,zT,zU]at hc22
    have hend:∀y,l[k]? = some y→n≤y:=fun y hy=>by
     have h1:=(xD.1 hy).1;have h2:=getN30 (d:=0) hy;have h3:=hc22 (by omega);omega
    have e:=vp hk hm hlt hend;refine uc (xZ (xZ (Qd (xr (xp ?_)))));have hs29:=RSl.slH hl k hk;have hs38:=RSl.slL hl k hk;obtain⟨a29,c29,hv29,_⟩:=hs29.len;obtain⟨a38,c38,hv38,_⟩:=hs38.len;rw[hv29]at hs29;rw[hv38]at hs38;have hl29:(l.take k).length=k:=by rw[ul]; omega
    have hl38:(l.drop k).length=l.length - k:=uv;refine reg (qe (qI hS xu xq) ?_);clear hS;rintro _ w_2⟨hS,b25_,rfl⟩;refine qq hS (qh _) (qq hS (Qmi rfl) (qq hS (g_toV (ki (h0:=k) xu xq rfl rfl (by omega) (by omega) (by omega)) hv29) (qe (qP 0 hS rfl xu QO rfl rfl rfl rfl qz (fun _=>rfl) hs29 rfl (by omega) (by omega)) ?_)));clear hS;rintro _ w_3⟨a29,p29,rfl,hS⟩;refine qq hS (qp _) (QoR (qq hS (qh _) (qq hS (Qmi rfl) ?_)));refine qe (d_lit (vs:=[.int .i64 _]) (cs:=[.int .i64 _]) hS xu xq uJ rfl rfl rfl rfl (fun v hv=>by simp only[xK,xM,or_false]at hv; subst hv; rfl) rfl) ?_;clear hS;rintro _ w_4⟨b32,rfl,hS⟩;refine qe (qx 1 0 hS rfl xu QO rfl rfl rfl rfl rfl rfl rfl rfl (by omega) (by omega)) ?_;clear hS;rintro _ w_5⟨a33,p33,rfl,hS⟩;refine qq hS (qp _) (QoR (qq hS (qh _) (qq hS (qh _) (qq hS (Qmi rfl) (qq hS (g_toV (kN (l0:=k) xu xq rfl rfl (by omega) (by omega) (by omega)) hv38) (qe (qP 1 hS rfl xu QO rfl rfl rfl rfl qz (fun _=>rfl) hs38 rfl (by omega) (by omega)) ?_))))));clear hS;rintro _ w_6⟨a38,p38,rfl,hS⟩;refine qq hS (qp _) (QoN (xx (ret1 results45 (qj rfl) ?_)))
    first
     | exact⟨I0,ad,cap,by rw[e] <;> rfl,hS.nil,by rw[e]; exact hl⟩
     | (have e2 : insI l n = l.take k ++ ([n] ++ l.drop k) := e
        rw[e2];have hm2:0+(l.take k).length+1+(l.drop k).length=(l.take k++([n]++l.drop k)).length:=by simp only[xA,Qx]; omega
        obtain⟨I1,hE1,hI1,hd1⟩:=qL qz (xs:=l.take k++([n]++l.drop k)) (m:=(l.take k++([n]++l.drop k)).length) (by rw[← hm2,qt,qt,qZ,← uP]; exact hS.sel [false,true]) rfl;exact⟨I1,a38,p38,by rw[← hm2] <;> rfl,hE1,by rw[← hm2]; exact hd1⟩)
theorem unlim_c (w0:World)(I0:Imm)(hI:Sat I0 w0):Ctr prog 34 [] w0 (fun v w'=>v = .agg #[.int .i64 unlim.s,.int .i64 unlim.u,.int .i64 unlim.r,.int .i64 unlim.e,.int .i64 unlim.o]∧Ext w0 I0 w' I0):=by
 refine fn (n:=2) func34 rfl rfl rfl ?_;have hS:=St.start hI;refine QwR (qe (qo (cs:=[.int .i64 _,.int .i64 _,.int .i64 _,.int .i64 _,.int .i64 _]) hS QX rfl) ?_);clear hS;rintro _ w_1⟨b0,rfl,hS⟩;refine QoR (qq hS (ql (pl:=[(0,1),(1,1),(2,1),(3,1),(4,1)]) (cs:=[.int .i64 _,.int .i64 _,.int .i64 _,.int .i64 _,.int .i64 _]) QX QE (fun w=>by simp[xq]) (mp (v:=.int .i64 _) rfl (mp (v:=.int .i64 _) rfl (mp (v:=.int .i64 _) rfl (mp (v:=.int .i64 _) rfl (mp (v:=.int .i64 _) rfl mp0))))) rfl) ?_);refine qe (qg 0 hS uO rfl rfl rfl (vs:=[.int .i64 _,.int .i64 _,.int .i64 _,.int .i64 _,.int .i64 _]) rfl rfl rfl (xm rfl) (cs':=[_,_,_,_,_]) rfl) ?_;clear hS;rintro _ w_2⟨rfl,hS⟩;refine QoN (xx (ret1 results34 (qv 0 hS uO QJ rfl rfl rfl) ?_));exact⟨rfl,hS.nil⟩
theorem jQ (v:Int)(w0:World)(I0:Imm)(hI:Sat I0 w0)(h0:0≤v)(h1:v≤1000000):Ctr prog 39 [.int .i64 v] w0 (fun u w'=>u = .int .i64 (lenV v)∧Ext w0 I0 w' I0):=by
 refine fn (n:=7) func39 rfl rfl rfl ?_;have hS:=St.start hI;refine QwR (qq hS (Qai rfl) (QoR (qq hS (Qmi rfl) (qq hS (g_mul rfl rfl (by omega) (by omega)) (qq hS (g_rem rfl rfl (by omega) (by omega)) (qq hS (g_add rfl rfl (by omega) (by omega)) (qq hS (Qai rfl) (QoN (xx (ret1 results39 (qj (v:=.int .i64 _) rfl) ?_))))))))));exact⟨rfl,hS.nil⟩
theorem version_c (s : SrvL) (A : SrvA) (n : Int) (w0 : World) (I0 : Imm) (hI : Sat I0 w0) (hs : RSrv I0 A s) (hn : 0 ≤ n ∧ n ≤ 255) :
 Ctr prog 14 [.agg #[.slice A.a0 s.g.vs.length A.c0,.slice A.a1 s.g.ls.length A.c1,.slice A.a2 s.ps.length A.c2,.slice A.a3 s.gone.length A.c3,.slice A.a4 s.cache.length A.c4],.int .u8 n] w0 (fun u w'=>u = .int .i64 (versP s n)∧Ext w0 I0 w' I0):=by
 have hle:=RSl.le hs.g.vs;simp only[maxLen]at hle;refine fn (n:=28) func14 rfl rfl rfl ?_;have hS:=St.start hI;refine QwR (qe (d_box (cs:=[.slice _ _ _,.slice _ _ _,.slice _ _ _,.slice _ _ _,.slice _ _ _]) hS rfl) ?_);clear hS;rintro _ w_1⟨b2,rfl,hS⟩;refine qq hS (Qai rfl) (QoN (xp (QwR (qq hS (qb (o':=0) xL rfl xU rfl rfl rfl) (qq hS (qb (o':=0) xO rfl xJ rfl rfl rfl) (qq hS (qf 0 ui rfl rfl rfl) (qq hS (qs rfl xu hs.g.vs rfl) (qq hS (g_eql rfl rfl) (qq hS (Qmb rfl) (qu rfl rfl hS (fun hg=>(qJ (v:=.int .u8 _) rfl)) ?_))))))))));intro u11 hu11 hn11;refine qu rfl rfl hS (fun hg=>(g_geq (hu11 hg) rfl)) ?_;intro u12 hu12 hn12;refine qq hS (g_or rfl rfl (fun hq=>hu12 hq)) (QoN (qk rfl ?_ ?_))
 ·
  intro hc13;clear hu11 hn11 hu12 hn12
  try simp only[zA,zO,zN,zI,zF,zM,zT,zU]at hc13
  have e:versP s n=n:=by
   unfold versP;rw[xF (by omega)]
  refine QwR (qq hS (qJ (v:=.int .u8 _) rfl) (qq hS (je Qq QC rfl (by omega) (by omega)) (qq hS (Qai rfl) (QoN (xx (xS (ret1 results14 (qj (v:=.int .i64 _) rfl) ?_)))))));exact⟨by rw[e] <;> rfl,hS.nil⟩
 ·
  intro hc13;clear hu11 hn11 hu12 hn12
  try simp only[zA,zO,zN,zI,zF,zM,zT,zU]at hc13
  have e:versP s n=s.g.vs.getD (n % (s.g.vs.length:Int)).toNat 0:=xz (by omega);have m1:=Int.emod_nonneg n (show(s.g.vs.length:Int)≠0 by omega);have m2:=Int.emod_lt_of_pos n (show 0 < (s.g.vs.length:Int) by omega);obtain⟨x,hxi⟩:∃x,s.g.vs[(n % (s.g.vs.length:Int)).toNat]? = some x:=⟨_,xn (by omega)⟩
  have hxA:=hs.g.vs.at hxi;rw[getN30 hxi]at e;refine xw (xr (xp (draw (.cons 0 .pure (.cons 1 .pure (.cons 2 .held (.cons 3 .pure (.cons 4 .pure (.cons 5 .pure (.cons 6 .pure (.cons 7 .held (.cons 8 .pure (.cons 9 .pure (.cons 10 .pure (.cons 11 .held (.cons 12 .pure .nil))))))))))))) mixed (by kernel_rfl) hS ?_)));intro w_2 hS;refine sp rfl (qb (o':=0) xL rfl xU rfl rfl rfl) (sp rfl (qb (o':=0) xO rfl xJ rfl rfl rfl) (sh rfl (qf 0 ui rfl rfl rfl) (sp rfl (qJ (v:=.int .u8 _) rfl) (sp rfl (je Qq QC rfl (by omega) (by omega)) (sp rfl (qb (o':=0) xL rfl xU rfl rfl rfl) (sp rfl (qb (o':=0) xO rfl xJ rfl rfl rfl) (sh rfl (qf 0 ui rfl rfl rfl) ?_)))))));refine sp rfl (qs rfl xu hs.g.vs rfl) (sp rfl (g_rem rfl rfl (by omega) (by omega)) (sp rfl (g_ixI xu xq hs.g.vs rfl rfl (by omega) (by omega)) (sh rfl (qy xI hxA rfl rfl) (sp rfl (Qai rfl) (sn (xr (xx (ret1 results14 (qj (v:=.int .i64 _) rfl) ?_))))))));exact⟨by rw[e] <;> rfl,hS.nil⟩
end Go.Proofs.YtcajgkfgjpfmaaaGreat
namespace Go.Proofs.YtcajgkfgjpfmaaaGreat
open Tryz
open Go Go.RowKit Go.Inl
theorem RMade.one {I:Imm}(cs:List Value)(d:MadeL)(h:RMade I cs d):cs.all (·.oneCell')=true:=by
 obtain⟨a,c,ap,m,cp,rfl,_⟩:=h; rfl
set_option maxHeartbeats 2000000 in
theorem rcomposed_c (s : SrvL) (A : SrvA) (aw : Option Addr) (cw : Nat) (way : List Int) (C : PatL) (e : Int) (w0 : World) (I0 : Imm) (hI : Sat I0 w0) (hs : RSrv I0 A s) (hwl : RFl I0 1 intC (.slice aw way.length cw) way) (hwi : ∀ i ∈ way, 0 ≤ i ∧ i < s.ps.length) (hpw : ∀ p ∈ s.ps, p.wf) (hwn : way.length ≤ 65536) (hps : s.ps.length ≤ 65536) (he : allP (patsOf s.ps way) = (C, e)) :
 Ctr prog 68 [.agg #[.slice A.a0 s.g.vs.length A.c0,.slice A.a1 s.g.ls.length A.c1,.slice A.a2 s.ps.length A.c2,.slice A.a3 s.gone.length A.c3,.slice A.a4 s.cache.length A.c4],.slice aw way.length cw] w0 (fun v w'=>∃I' a m c,v = .tuple #[.agg #[.bool C.lifted,.int .i64 C.in_,.int .i64 C.out,.slice a m c],.int .i64 e]∧Ext w0 I0 w' I'∧ROps I' (.slice a m c) C.ops):=by
 refine fn (n:=30) func68 rfl rfl rfl ?_;have hS:=St.start hI;refine QwR (qe (d_box (cs:=[.slice _ _ _,.slice _ _ _,.slice _ _ _,.slice _ _ _,.slice _ _ _]) hS rfl) ?_);clear hS;rintro _ w_1⟨b2,rfl,hS⟩;refine qe (qo (cs:=[.bool _,.int .i64 _,.int .i64 _,.slice _ _ _]) hS xY rfl) ?_;clear hS;rintro _ w_2⟨b4,rfl,hS⟩;refine qq hS (Qai rfl) (QoR (qe (qI hS uu xE) ?_));clear hS;rintro _ w_3⟨hS,b8_,rfl⟩;refine qq hS (qp _) (QoN (xp (QwR (qq hS (Qai rfl) (QoN (xG (loop (fun(x:CmW) σ w=>okS σ [(1,.slice aw way.length cw),(2,.pointer (some ⟨b2,0,none⟩)),(4,.pointer (some ⟨b4,0,none⟩)),(6,.slice x.a x.k x.c),(7,.int .i64 x.k)]∧St [] w0 I0 I0 w [.row (.slice x.a x.k x.c) 46 4 x.k x.css.flatten,.cel b4 46 [.bool false,.int .i64 0,.int .i64 0,.slice none 0 0],.cel b2 38 [.slice A.a0 s.g.vs.length A.c0,.slice A.a1 s.g.ls.length A.c1,.slice A.a2 s.ps.length A.c2,.slice A.a3 s.gone.length A.c3,.slice A.a4 s.cache.length A.c4]]∧x.k≤way.length∧All2 (RPatC I0) x.css (patsOf s.ps (way.take x.k))) (fun x=>way.length - x.k) (⟨0,some ⟨b8_,0,none⟩,0,[]⟩) ?_ ?_)))))))
 ·
  exact⟨⟨rfl,rfl,rfl,rfl,rfl,trivial⟩,hS.sel [true,true,true],by dsimp only; omega,All2.nil _⟩
 ·
  rintro⟨k,a,c,css⟩σ w_l⟨hs,hS,hk0,hA⟩;dsimp only at hs hS hk0 hA ⊢;rw[← qr hs]; clear hs
  refine xp (QwR (qq hS (Qmi rfl) (qq hS (qh _) (qq hS (qs rfl xu hwl rfl) (qq hS (g_lss rfl rfl) (QoN (qk rfl ?_ ?_)))))))
  ·
   intro hc12
   try simp only[zA,zO,zN,zI,zF,zM,zT,zU]at hc12
   obtain⟨i,hii⟩:∃x,way[k]? = some x:=⟨_,xn (by omega)⟩
   obtain⟨hi0,hi1⟩:=hwi i (xC hii);obtain⟨p,hpi⟩:∃p,s.ps[i.toNat]? = some p:=⟨_,xn (by omega)⟩
   obtain⟨csp,hclp,hpA,hpc⟩:=RSl.at hs.ps hpi;obtain⟨ap,mp,cp,rfl,hpo⟩:=hpc;have hsn:=patsOf_snoc hii hpi;refine xw (xr (xp (xG (draw (.cons 0 .pure (.cons 1 .pure (.cons 2 .held (.cons 3 .pure (.cons 4 .pure (.cons 5 .pure (.cons 6 .held (.cons 7 .pure (.cons 8 .held (.cons 9 .eff (.cons 10 .bar (.cons 11 .pure .nil)))))))))))) mixed (by kernel_rfl) hS ?_))));intro w_4 hS;refine sp rfl (qh _) (sp rfl (qb (o':=2) xL rfl QG rfl rfl rfl) (sh rfl (qf 2 Jg rfl rfl rfl) (sp rfl (qh _) (sp rfl (Qmi rfl) (sp rfl (g_ixI xu xq hwl rfl rfl (by omega) (by omega)) (sh rfl (qy xI (hwl.at hii) rfl rfl) (sp rfl (g_ixI uu xE hs.ps rfl rfl (by omega) (by omega)) (sh rfl (g_ldE (us:=[.bool _,.int .i64 _,.int .i64 _,.slice _ _ _]) xE ud hpA rfl rfl rfl) ?_))))))));have hS0:=hS;refine se rfl (d_lit (vs:=[.agg #[.bool _,.int .i64 _,.int .i64 _,.slice _ _ _]]) (cs:=[.bool _,.int .i64 _,.int .i64 _,.slice _ _ _]) hS uu xE xY rfl rfl rfl rfl (fun v hv=>by simp only[xK,xM,or_false]at hv; subst hv; rfl) rfl) ?_;rintro _ w_5⟨b24,rfl,hS⟩;refine⟨_,_,hS0.le (Sub.refl _) (xv _ _),hS,sb rfl (qx 1 0 hS rfl uu info46 rfl rfl rfl rfl rfl rfl rfl rfl (by omega) (by omega)) ?_⟩;rintro _ w_6⟨a25,p25,rfl,hS⟩;refine⟨_,_,hS,sp rfl (qp _) (sn (uF (xr (reg (qq hS (Qmi rfl) (qq hS (g_add rfl rfl (by omega) (by omega)) (qq hS (Qai rfl) ?_)))))))⟩;exact⟨⟨k+1,a25,p25,css++[[.bool p.lifted,.int .i64 p.in_,.int .i64 p.out,.slice ap mp cp]]⟩,_,rfl,⟨⟨rfl,rfl,rfl,rfl,rfl,trivial⟩,by dsimp only; rw[Qh]; exact hS.sel [false,true,true,true],by dsimp only; omega,by dsimp only; rw[hsn]; exact hA.snoc ⟨_,_,_,rfl,hpo⟩⟩,by dsimp only; omega⟩
  ·
   intro hc12
   try simp only[zA,zO,zN,zI,zF,zM,zT,zU]at hc12
   obtain rfl:k=way.length:=by omega
   rw[uC]at hA;refine uc (xZ (xZ (Qd (xr (xp ?_)))));have hF:=St.freezeRowR (u:=.slice a way.length c) (m:=way.length) (xs:=patsOf s.ps way) (css:=css) (by exact hS.ord [0,1,2]) (by rw[jG]) (yg hA) (hA);clear hS;obtain⟨I_hl,hS,hI_hl,hl⟩:=hF;replace hs:=hs.mono hI_hl;replace hwl:=hwl.mono hI_hl;replace hl:RPats I_hl (.slice a way.length c) (patsOf s.ps way):=RSl.mono hl (Sub.refl _) (fun _ _ h=>h.mono hI_hl);refine reg (qq hS (qh _) ?_);refine qe (qi call98 rfl (refAll_E a way.length c (patsOf s.ps way) (C,e) _ _ hS.imm hl (jG _ _).symm (zw hpw way) (by rw[jG]; exact hwn) he)) ?_;rintro _ w_7⟨I_f,a44,m44,c44,rfl,hE,h44⟩;replace hS:=hS.callE hE;replace hs:=hs.mono hE.ext;replace hwl:=hwl.mono hE.ext;replace hl:=hl.mono hE.ext;refine qq hS (qw rfl rfl) (qq hS (Qxi rfl rfl) (qe (qg 0 hS xE rfl rfl rfl (vs:=[.bool _,.int .i64 _,.int .i64 _,.slice _ _ _]) rfl rfl rfl (xm rfl) (cs':=[_,_,_,_]) rfl) ?_));clear hS;rintro _ w_8⟨rfl,hS⟩;refine qq hS (Qai rfl) (QoN (xx (ret2 results68 (qv 0 hS xE ud rfl rfl rfl) (qj (v:=.int .i64 _) rfl) ?_)));exact⟨_,a44,m44,c44,rfl,hS.nil,h44⟩
theorem roffer_c_fill0 (z0 z1 z2 z3 z4 z5:Value)(x0a:Option Addr)(x0m x0c:Nat)(x1:Int):Instr.fill ([(0,1),(1,4),(5,1)][·]?) #[z0,z1,z2,z3,z4,z5] [(0,.slice x0a x0m x0c),(2,.int .i64 x1)]=some #[.slice x0a x0m x0c,z1,z2,z3,z4,.int .i64 x1]:=by
 simp[Instr.fill,Value.cells,List.zipIdx]
set_option maxHeartbeats 4000000 in
theorem roffer_c (s : SrvL) (A : SrvA) (f t c : Int) (l : List Int) (is : Bool) (m : NeedL) (aw : Option Addr) (cw : Nat) (w0 : World) (I0 : Imm) (hI : Sat I0 w0) (hs : RSrv I0 A s) (hg : GoodS s) (hl : RFl I0 1 intC (.slice aw l.length cw) l) (hw : walkW s.g m f l = some (t, c)) (hln : l.length ≤ 16) :
 Ctr prog 47 [.agg #[.slice A.a0 s.g.vs.length A.c0,.slice A.a1 s.g.ls.length A.c1,.slice A.a2 s.ps.length A.c2,.slice A.a3 s.gone.length A.c3,.slice A.a4 s.cache.length A.c4],.int .i64 f,.agg #[.slice aw l.length cw,.int .i64 c,.bool is]] w0 (fun v w'=>∃I' B,v = .tuple #[.agg #[.slice B.a (offO s f l c).way.length B.c,.bool (offO s f l c).p.lifted,.int .i64 (offO s f l c).p.in_,.int .i64 (offO s f l c).p.out,.slice B.ap B.m B.cp,.int .i64 (offO s f l c).c],.int .i64 0]∧Ext w0 I0 w' I'∧ROff I' B (offO s f l c)):=by
 have hix:=vC _ _ rfl _ _ hw;have hnl:=hg.b.nl;have hpl:=hg.pl;refine fn (n:=58) func47 rfl rfl rfl ?_;have hS:=St.start hI;refine QwR (qe (d_box (cs:=[.slice _ _ _,.slice _ _ _,.slice _ _ _,.slice _ _ _,.slice _ _ _]) hS rfl) ?_);clear hS;rintro _ w_1⟨b3,rfl,hS⟩;refine qe (d_box (cs:=[.slice _ _ _,.int .i64 _,.bool _]) hS rfl) ?_;clear hS;rintro _ w_2⟨b5,rfl,hS⟩;refine qe (qo (cs:=[.slice _ _ _,.bool _,.int .i64 _,.int .i64 _,.slice _ _ _,.int .i64 _]) hS Qs rfl) ?_;clear hS;rintro _ w_3⟨b6,rfl,hS⟩;refine qq hS (Qai rfl) (QoR (qq hS (Qmi rfl) ?_));refine qe (d_lit (vs:=[.int .i64 _]) (cs:=[.int .i64 _]) hS xu xq uJ rfl rfl rfl rfl (fun v hv=>by simp only[xK,xM,or_false]at hv; subst hv; rfl) rfl) ?_;clear hS;rintro _ w_4⟨b13,rfl,hS⟩;refine qq hS (qb (o':=1) uk rfl xq rfl rfl rfl) (qq hS (qf 2 xI rfl rfl rfl) (qq hS (ql (pl:=[(0,1),(1,4),(5,1)]) (cs:=[.slice _ _ _,.bool _,.int .i64 _,.int .i64 _,.slice _ _ _,.int .i64 _]) Qs uY (fun w=>by simp[xq,xJ,xE]) (mp (v:=.slice _ _ _) rfl (mp (v:=.int .i64 _) rfl mp0)) (roffer_c_fill0 _ _ _ _ _ _ _ _ _ _)) ?_));refine qe (qo (cs:=[.slice _ _ _,.bool _,.int .i64 _,.int .i64 _,.slice _ _ _,.int .i64 _]) hS Qs rfl) ?_;clear hS;rintro _ w_5⟨b8,rfl,hS⟩;refine qe (qg 0 hS um rfl rfl rfl (vs:=[.slice _ _ _,.bool _,.int .i64 _,.int .i64 _,.slice _ _ _,.int .i64 _]) rfl rfl rfl (xm rfl) (cs':=[_,_,_,_,_,_]) rfl) ?_;clear hS;rintro _ w_6⟨rfl,hS⟩;refine QoN (xp (QwR (qq hS (qb (o':=0) uk rfl xJ rfl rfl rfl) (qq hS (qf 3 ui rfl rfl rfl) (qq hS (qs rfl xu hl rfl) (qq hS (g_eql rfl rfl) (QoN (qk rfl ?_ ?_))))))))
 ·
  intro hc20
  try simp only[zA,zO,zN,zI,zF,zM,zT,zU]at hc20
  have hl0:l=[]:=uT.1 (by omega);have hR:offO s f l c=⟨[f],PatL.zero,c⟩:=by rw[hl0]; rfl
  refine QwR (qq hS (g_ldO 0 (vs:=[.slice _ _ _,.bool _,.int .i64 _,.int .i64 _,.slice _ _ _,.int .i64 _]) um QK rfl rfl rfl rfl) (qe (qg 2 hS um rfl rfl rfl (vs:=[.slice _ _ _,.bool _,.int .i64 _,.int .i64 _,.slice _ _ _,.int .i64 _]) rfl rfl rfl (xm rfl) (cs':=[_,_,_,_,_,_]) rfl) ?_));clear hS;rintro _ w_7⟨rfl,hS⟩;refine qq hS (Qai rfl) (QoN (xx (xS (ret2 results47 (qv 2 hS um QK rfl rfl rfl) (qj (v:=.int .i64 _) rfl) ?_))));have hF:=(hS.sel [false,true,false,false,false]).freezeAt 0 rfl;obtain⟨I1,hS1,hI1,hb1⟩:=hF;have hw1:=RFl.ofAt qz [f] hb1 rfl (by show 1≤maxLen; decide);rw[hR];exact⟨I1,⟨some ⟨b13,0,none⟩,1,none,0,0⟩,rfl,hS1.nil,⟨hw1,RSl.nilR⟩⟩
 ·
  intro hc20
  try simp only[zA,zO,zN,zI,zF,zM,zT,zU]at hc20
  have hl0:l≠[]:=fun h=>hc20 (by rw[h]; rfl)
  obtain⟨P,hP⟩:∃P,(allP (patsOf s.ps l)).1=P:=⟨_,rfl⟩
  have hall:allP (patsOf s.ps l)=(P,0):=Prod.ext hP (vz hg hw hl0);have hR:offO s f l c=⟨f::l.map (lnkT s.g),P,c⟩:=by unfold offO patO; rw[xz hl0,hP]
  refine xw (xr (QwR (qq hS (g_ldO 4 (vs:=[.slice _ _ _,.slice _ _ _,.slice _ _ _,.slice _ _ _,.slice _ _ _]) xP uh rfl rfl rfl rfl) (qq hS (qb (o':=0) uk rfl xJ rfl rfl rfl) (qq hS (qf 3 ui rfl rfl rfl) ?_)))));refine qe (qi call68 rfl (rcomposed_c s A aw cw l P 0 _ _ hS.imm hs hl (fun i hi=>by have:=hix i hi; omega) hg.pw (by omega) (by omega) hall)) ?_;rintro _ w_8⟨I_f,a26,m26,c26,rfl,hE,h26⟩;replace hS:=hS.callE hE;replace hs:=hs.mono hE.ext;replace hl:=hl.mono hE.ext;refine qq hS (qh _) (qq hS (qw rfl rfl) (qq hS (Qxi rfl rfl) (qe (qo (cs:=[.bool _,.int .i64 _,.int .i64 _,.slice _ _ _]) hS xY rfl) ?_)));clear hS;rintro _ w_9⟨b9,rfl,hS⟩;refine qe (qg 0 hS xE rfl rfl rfl (vs:=[.bool _,.int .i64 _,.int .i64 _,.slice _ _ _]) rfl rfl rfl (xm rfl) (cs':=[_,_,_,_]) rfl) ?_;clear hS;rintro _ w_10⟨rfl,hS⟩;refine qq hS (Qai rfl) (QoN (xp (QwR (qq hS (Qmi rfl) (qq hS (g_neq rfl rfl) (QoN (kG (rfl) (xw (xr (xp (xp ?_)))))))))));replace hS:=hS.celRow (b:=b13) (E:=3) (n:=1) (c:=1) (sz:=1) (xs:=flat intC [f]) (rest:=[]) 2 rfl rfl (by decide) (by decide) rfl;refine reg (qq hS (Qai rfl) (QoN (xG (loop (fun(x:WyW) σ w=>okS σ [(3,.pointer (some ⟨b3,0,none⟩)),(5,.pointer (some ⟨b5,0,none⟩)),(6,.pointer (some ⟨b6,0,none⟩)),(8,.pointer (some ⟨b8,0,none⟩)),(9,.pointer (some ⟨b9,0,none⟩)),(11,.int .i64 x.k)]∧St [] w0 I0 I_f w [.cel b9 46 [.bool P.lifted,.int .i64 P.in_,.int .i64 P.out,.slice a26 m26 c26],.cel b8 48 [.slice x.a (x.k+1) x.c,.bool false,.int .i64 0,.int .i64 0,.slice none 0 0,.int .i64 c],.row (.slice x.a (x.k+1) x.c) 3 1 (x.k+1) (flat intC (f::(l.take x.k).map (lnkT s.g))),.cel b6 48 [.slice none 0 0,.bool false,.int .i64 0,.int .i64 0,.slice none 0 0,.int .i64 0],.cel b5 78 [.slice aw l.length cw,.int .i64 c,.bool is],.cel b3 38 [.slice A.a0 s.g.vs.length A.c0,.slice A.a1 s.g.ls.length A.c1,.slice A.a2 s.ps.length A.c2,.slice A.a3 s.gone.length A.c3,.slice A.a4 s.cache.length A.c4]]∧x.k≤l.length) (fun x=>l.length - x.k) (⟨0,some ⟨b13,0,none⟩,1⟩) ?_ ?_))))
  ·
   exact⟨⟨rfl,rfl,rfl,rfl,rfl,rfl,trivial⟩,hS.sel [true,true,true,true,true,true],by dsimp only; omega⟩
  ·
   rintro⟨k,a,cc⟩σ w_l⟨hs,hS,hk0⟩;dsimp only at hs hS hk0 ⊢;rw[← qr hs]; clear hs
   refine xp (QwR (qq hS (Qmi rfl) (qq hS (qb (o':=0) uk rfl xJ rfl rfl rfl) (qq hS (qf 4 ui rfl rfl rfl) (qq hS (qs rfl xu hl rfl) (qq hS (g_lss rfl rfl) (QoN (qk rfl ?_ ?_))))))))
   ·
    intro hc36
    try simp only[zA,zO,zN,zI,zF,zM,zT,zU]at hc36
    obtain⟨i,hii⟩:∃x,l[k]? = some x:=⟨_,xn (by omega)⟩
    obtain⟨hi0,hi1⟩:=hix i (xC hii);obtain⟨q,hqi⟩:∃q,s.g.ls[i.toNat]? = some q:=⟨_,xn (by omega)⟩
    have hkA:=hs.g.ls.at hqi;have hsn:f::(l.take (k+1)).map (lnkT s.g)=(f::(l.take k).map (lnkT s.g))++[q.t]:=by rw[qF hii,uK,Qn,List.map_nil,lnkT_at hqi]; rfl
    refine xw (xr (xp (xG (draw (.cons 0 .pure (.cons 1 .held (.cons 2 .pure (.cons 3 .pure (.cons 4 .held (.cons 5 .pure (.cons 6 .held (.cons 7 .pure (.cons 8 .pure (.cons 9 .held (.cons 10 .pure (.cons 11 .pure (.cons 12 .held (.cons 13 .eff (.cons 14 .bar (.cons 15 .pure (.cons 16 .bar .nil))))))))))))))))) mixed (by kernel_rfl) hS ?_))));intro w_11 hS;refine sp rfl (qb (o':=0) uY rfl xJ rfl rfl rfl) (sh rfl (qf 1 ui rfl rfl rfl) (sp rfl (qb (o':=0) xL rfl xU rfl rfl rfl) (sp rfl (qb (o':=1) xO rfl ut rfl rfl rfl) (sh rfl (qf 5 QQ rfl rfl rfl) (sp rfl (qb (o':=0) uk rfl xJ rfl rfl rfl) (sh rfl (qf 4 ui rfl rfl rfl) (sp rfl (Qmi rfl) (sp rfl (g_ixI xu xq hl rfl rfl (by omega) (by omega)) ?_))))))));refine sh rfl (qy xI (hl.at hii) rfl rfl) (sp rfl (g_ixI xV uE hs.g.ls rfl rfl (by omega) (by omega)) (sp rfl (qA (c':=1) uq rfl xq rfl rfl rfl) (sh rfl (qy xI hkA rfl rfl) ?_)));have hS0:=hS;refine se rfl (d_lit (vs:=[.int .i64 _]) (cs:=[.int .i64 _]) hS xu xq uJ rfl rfl rfl rfl (fun v hv=>by simp only[xK,xM,or_false]at hv; subst hv; rfl) rfl) ?_;rintro _ w_12⟨b52,rfl,hS⟩;refine⟨_,_,hS0.le (Sub.refl _) (xv _ _),hS,sb rfl (qx 3 0 hS rfl xu QO rfl rfl rfl rfl rfl rfl rfl rfl (by omega) (by omega)) ?_⟩;rintro _ w_13⟨a53,p53,rfl,hS⟩;refine⟨_,_,hS,sp rfl (qb (o':=0) uY rfl xJ rfl rfl rfl) (sb rfl (qg 2 hS xJ rfl rfl rfl (vs:=[.slice _ _ _]) rfl rfl rfl (xm rfl) (cs':=[_,_,_,_,_,_]) rfl) ?_)⟩;rintro _ w_14⟨rfl,hS⟩;refine⟨_,_,hS,sn (uF (xr (reg (qq hS (Qmi rfl) (qq hS (g_add rfl rfl (by omega) (by omega)) (qq hS (Qai rfl) ?_))))))⟩
    exact⟨⟨k+1,a53,p53⟩,_,rfl,⟨⟨rfl,rfl,rfl,rfl,rfl,rfl,trivial⟩,by dsimp only; rw[hsn,qt]; exact hS.sel [false,true,true,true,true,true,true],by dsimp only; omega⟩,by dsimp only; omega⟩
   ·
    intro hc36
    try simp only[zA,zO,zN,zI,zF,zM,zT,zU]at hc36
    obtain rfl:k=l.length:=by omega
    rw[uC]at hS;refine uc (xZ (xZ (Qd (xr (QwR (qq hS (g_ldO 0 (vs:=[.bool _,.int .i64 _,.int .i64 _,.slice _ _ _]) xE ud rfl rfl rfl rfl) (qq hS (qb (o':=1) uY rfl xE rfl rfl rfl) (qe (qg 1 hS xE rfl rfl rfl (vs:=[.bool _,.int .i64 _,.int .i64 _,.slice _ _ _]) rfl rfl rfl (xm rfl) (cs':=[_,_,_,_,_,_]) rfl) ?_))))))));clear hS;rintro _ w_15⟨rfl,hS⟩;refine QoR (qq hS (g_ldO 1 (vs:=[.slice _ _ _,.bool _,.int .i64 _,.int .i64 _,.slice _ _ _,.int .i64 _]) um QK rfl rfl rfl rfl) (qe (qg 3 hS um rfl rfl rfl (vs:=[.slice _ _ _,.bool _,.int .i64 _,.int .i64 _,.slice _ _ _,.int .i64 _]) rfl rfl rfl (xm rfl) (cs':=[_,_,_,_,_,_]) rfl) ?_));clear hS;rintro _ w_16⟨rfl,hS⟩;refine qq hS (Qai rfl) (QoN (xx (ret2 results47 (qv 3 hS um QK rfl rfl rfl) (qj (v:=.int .i64 _) rfl) ?_)));obtain⟨I1,hS1,hI1,hw1⟩:=St.freezeRow qz (xs:=f::l.map (lnkT s.g)) (hS.sel [false,false,true,false,false,false]) (by simp);rw[show l.length+1=(f::l.map (lnkT s.g)).length by simp]at hw1 ⊢;rw[hR];exact⟨I1,⟨a,cc,a26,m26,c26⟩,rfl,hS1.nil,⟨hw1,h26.mono hI1⟩⟩
set_option maxHeartbeats 2000000 in
theorem rcached_c (s : SrvL) (A : SrvA) (aw ap : Option Addr) (cw nP cp : Nat) (l : List Int) (P : PatL) (w0 : World) (I0 : Imm) (hI : Sat I0 w0) (hs : RSrv I0 A s) (hc : s.cache = []) (hl : RFl I0 1 intC (.slice aw l.length cw) l) (hp : ROps I0 (.slice ap nP cp) P.ops) :
 Ctr prog 48 [.agg #[.slice A.a0 s.g.vs.length A.c0,.slice A.a1 s.g.ls.length A.c1,.slice A.a2 s.ps.length A.c2,.slice A.a3 s.gone.length A.c3,.slice A.a4 s.cache.length A.c4],.slice aw l.length cw,.agg #[.bool P.lifted,.int .i64 P.in_,.int .i64 P.out,.slice ap nP cp]] w0 (fun v w'=>∃I' A',v = .agg #[.slice A'.a0 (pushC s l P).g.vs.length A'.c0,.slice A'.a1 (pushC s l P).g.ls.length A'.c1,.slice A'.a2 (pushC s l P).ps.length A'.c2,.slice A'.a3 (pushC s l P).gone.length A'.c3,.slice A'.a4 (pushC s l P).cache.length A'.c4]∧Ext w0 I0 w' I'∧RSrv I' A' (pushC s l P)):=by
 have hcl:s.cache.length=0:=by rw[hc]; rfl
 have hR:pushC s l P={ s with cache:=[⟨l,P⟩] }:=by unfold pushC; rw[hc]; rfl
 refine fn (n:=43) func48 rfl rfl rfl ?_;have hS:=St.start hI;refine QwR (qe (d_box (cs:=[.slice _ _ _,.slice _ _ _,.slice _ _ _,.slice _ _ _,.slice _ _ _]) hS rfl) ?_);clear hS;rintro _ w_1⟨b3,rfl,hS⟩;refine qe (d_box (cs:=[.bool _,.int .i64 _,.int .i64 _,.slice _ _ _]) hS rfl) ?_;clear hS;rintro _ w_2⟨b5,rfl,hS⟩;refine qe (qo (cs:=[.slice _ _ _,.slice _ _ _,.slice _ _ _,.slice _ _ _,.slice _ _ _]) hS Qi rfl) ?_;clear hS;rintro _ w_3⟨b6,rfl,hS⟩;refine QoN (xp (QwR (qq hS (Qai rfl) (QoN (xG (loop (fun(k:Nat) σ w=>okS σ [(1,.slice aw l.length cw),(3,.pointer (some ⟨b3,0,none⟩)),(5,.pointer (some ⟨b5,0,none⟩)),(6,.pointer (some ⟨b6,0,none⟩)),(7,.int .i64 k)]∧St [] w0 I0 I0 w [.cel b6 38 [.slice none 0 0,.slice none 0 0,.slice none 0 0,.slice none 0 0,.slice none 0 0],.cel b5 46 [.bool P.lifted,.int .i64 P.in_,.int .i64 P.out,.slice ap nP cp],.cel b3 38 [.slice A.a0 s.g.vs.length A.c0,.slice A.a1 s.g.ls.length A.c1,.slice A.a2 s.ps.length A.c2,.slice A.a3 s.gone.length A.c3,.slice A.a4 s.cache.length A.c4]]∧k=0) (fun k=>0) (0) ?_ ?_))))))
 ·
  exact⟨⟨rfl,rfl,rfl,rfl,rfl,trivial⟩,hS.sel [true,true,true],rfl⟩
 ·
  rintro k σ w_l⟨hs,hS,hk0⟩;rw[← qr hs]; clear hs
  refine xp (QwR (qq hS (Qmi rfl) (qq hS (qb (o':=4) xL rfl QM rfl rfl rfl) (qq hS (qf 2 Jj rfl rfl rfl) (qq hS (qs rfl Qp hs.cache rfl) (qq hS (g_lss rfl rfl) (QoN (qk rfl ?_ ?_))))))))
  ·
   intro hc13
   try simp only[zA,zO,zN,zI,zF,zM,zT,zU]at hc13
   exfalso
   omega
  ·
   intro hc13
   try simp only[zA,zO,zN,zI,zF,zM,zT,zU]at hc13
   obtain rfl:k=0:=by omega
   refine uc (xZ (xZ (Qd (xr (QwR (qe (qI hS Qp Jh) ?_))))));clear hS;rintro _ w_4⟨hS,b25_,rfl⟩;refine qq hS (qb (o':=4) xL rfl QM rfl rfl rfl) (qq hS (qf 3 Jj rfl rfl rfl) (qe (i_appendR 0 hS rfl Qp info114 rfl rfl rfl rfl RMade.one hs.cache rfl (by omega) (by omega)) ?_));clear hS;rintro _ w_5⟨a28,p28,css28,rfl,hcl28,hca28,hS⟩;refine qq hS (qp _) (QoR (qq hS (qh _) (qq hS (qh _) (qq hS (g_ldO 2 (vs:=[.bool _,.int .i64 _,.int .i64 _,.slice _ _ _]) xE ud rfl rfl rfl rfl) (qq hS (ql (pl:=[(0,1),(1,4)]) (cs:=[.slice _ _ _,.bool _,.int .i64 _,.int .i64 _,.slice _ _ _]) JO Jk (fun w=>by simp[xJ,xE]) (mp (v:=.slice _ _ _) rfl (mp (v:=.agg #[.bool _,.int .i64 _,.int .i64 _,.slice _ _ _]) rfl mp0)) rfl) ?_)))));refine qe (d_lit (vs:=[.agg #[.slice _ _ _,.bool _,.int .i64 _,.int .i64 _,.slice _ _ _]]) (cs:=[.slice _ _ _,.bool _,.int .i64 _,.int .i64 _,.slice _ _ _]) hS Qp Jh JO rfl rfl rfl rfl (fun v hv=>by simp only[xK,xM,or_false]at hv; subst hv; rfl) rfl) ?_;clear hS;rintro _ w_6⟨b33,rfl,hS⟩;refine qe (qx 1 0 hS rfl Qp info114 rfl rfl rfl rfl rfl rfl rfl rfl (by omega) (by omega)) ?_;clear hS;rintro _ w_7⟨a34,p34,rfl,hS⟩;refine qq hS (qp _) (QoN (xp (QwR (qq hS (qh _) (qq hS (zX 1 rfl Qp rfl rfl) (qq hS (g_gtr rfl rfl) (QoN (qk rfl ?_ ?_))))))))
   ·
    intro hc37
    try simp only[zA,zO,zN,zI,zF,zM,zT,zU]at hc37
    exfalso
    omega
   ·
    intro hc37
    try simp only[zA,zO,zN,zI,zF,zM,zT,zU]at hc37
    refine xw (xr (QwR (qq hS (qh _) (qq hS (qb (o':=4) xL rfl QM rfl rfl rfl) (qe (qg 4 hS QM rfl rfl rfl (vs:=[.slice _ _ _]) rfl rfl rfl (xm rfl) (cs':=[_,_,_,_,_]) rfl) ?_)))));clear hS;rintro _ w_8⟨rfl,hS⟩;refine QoR (qq hS (g_ldO 4 (vs:=[.slice _ _ _,.slice _ _ _,.slice _ _ _,.slice _ _ _,.slice _ _ _]) xP uh rfl rfl rfl rfl) (qe (qg 2 hS xP rfl rfl rfl (vs:=[.slice _ _ _,.slice _ _ _,.slice _ _ _,.slice _ _ _,.slice _ _ _]) rfl rfl rfl (xm rfl) (cs':=[_,_,_,_,_]) rfl) ?_));clear hS;rintro _ w_9⟨rfl,hS⟩;refine QoN (xx (ret1 results48 (qv 2 hS xP uh rfl rfl rfl) ?_));have hcss:css28=[]:=uT.1 (by rw[hca28.1,hcl]);subst hcss;rw[hcl]at hS;obtain⟨I1,hS1,hI1,hd1⟩:=St.freezeRowR (xs:=([⟨l,P⟩]:List MadeL)) (R:=RMade I0) (css:=[[.slice aw l.length cw,.bool P.lifted,.int .i64 P.in_,.int .i64 P.out,.slice ap nP cp]]) (hS.sel [false,true,false,false,false]) rfl (by simp) (All2.cons ⟨_,_,_,_,_,rfl,hl,hp⟩ (All2.nil _));rw[hR];exact⟨I1,{ A with a4:=a34,c4:=p34 },by rw[hcl] <;> rfl,hS1.nil,⟨hs.g.mono hI1,hs.ps.mono hI1,hs.gone.mono hI1,RSl.mono hd1 (Inl.Sub.refl _) (fun _ _ h=>h.mono hI1)⟩⟩
end Go.Proofs.YtcajgkfgjpfmaaaGreat
