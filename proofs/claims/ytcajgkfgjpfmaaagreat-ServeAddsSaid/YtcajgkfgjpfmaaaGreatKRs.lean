/- inlayref29.Need, Made; inlayref30: Fit, Has, Insert, chain, Length, Version, Unlimited: what they compute. Conditions: good servers where it is said. inlayref30: Fit, Has, Insert, chain, Length, Version, Unlimited: what they compute. Conditions: good servers where it is said. inlayref30: Fit, chain, Composed, offer, cached: what they compute. Conditions: good servers where it is said. -/
import Derived.Test.YtcajgkfgjpfmaaaGreatKSp
import Derived.Test.YtcajgkfgjpfmaaaGreatRg29b
import Derived.Test.YtcajgkfgjpfmaaaGreatKLaw
set_option linter.unusedSimpArgs false
set_option linter.unusedVariables false
namespace Go.Proofs.YtcajgkfgjpfmaaaGreat
open Tryz
open Go Go.RowKit Go.Inl
theorem g_quo8 {P:Program}{n:Nat}{σ:Nat→Value}{S:World→Prop}{t t' ty:TypeId}{x y:Operand}{k:IntKind}{a b:Int}(hx:ev n σ x = .int k a)(hy:ev n σ y = .int k b)(ha:0≤a)(hb:0 < b)(hk:k.wrap (a / b)=a / b):Gives P (ev n σ) S (.binOp .quo t x y t') ty (.int k (a / b)) :=
 fun _ _=>jG hx hy (by simp[binOp,Op.intDiv,show b≠0 by omega,Int.tdiv_eq_ediv_of_nonneg ha,hk])
theorem fillu3 (z0 z1 z2:Value)(a b c:Int):Instr.fill (fun i=>some (i*1,1)) #[z0,z1,z2] [(0,.int .u8 a),(1,.int .u8 b),(2,.int .u8 c)]=some #[.int .u8 a,.int .u8 b,.int .u8 c]:=by
 simp[Instr.fill,Value.cells,List.zipIdx]
structure Q6 where
 a:Int
 b:Int
 c:Int
 d:Int
 e:Int
 f:Int
structure Q6.wf (q : Q6) : Prop where
 a:0≤q.a∧q.a≤255
 b:0≤q.b∧q.b≤255
 c:0≤q.c∧q.c≤255
 d:0≤q.d∧q.d≤255
 e:0≤q.e∧q.e≤255
 f:0≤q.f∧q.f≤255
def q6C (q:Q6):List Value:=[.int .u8 q.a,.int .u8 q.b,.int .u8 q.c,.int .u8 q.d,.int .u8 q.e,.int .u8 q.f]
def needQ (a b c:Int):NeedL:=⟨a % 4,a / 64,b % 8,c % 4,c / 64⟩
theorem needQ_right {a b c:Int}(ha:0≤a∧a≤255)(hb:0≤b∧b≤255)(hc:0≤c∧c≤255):rightN (needQ a b c)=true:=by
 unfold rightN fitN needQ;simp only[xU,xO];omega
structure MadeG (g : GrL) : Prop where
 val:ValG g
 vn:g.vs.length≤7
 ln:g.ls.length≤14
 vb:∀v∈g.vs,1≤v∧v≤21
structure GvW where
 k:Nat
 v:Int
 l:List Int
 a:Option Addr
 c:Nat
structure GvI (n : Nat) (x : GvW) : Prop where
 k0:x.k≤n
 k1:x.k≤7
 len:x.l.length=x.k
 v0:0≤x.v
 v1:x.v≤3*x.k
 inc:x.l.Pairwise (· < ·)
 b:∀u∈x.l,1≤u∧u≤x.v
structure GlW where
 k:Nat
 l:List LnkL
 a:Option Addr
 c:Nat
theorem gv_next {n k:Nat}{v d:Int}{l:List Int}{a a':Option Addr}{c c':Nat}(h:GvI n ⟨k,v,l,a,c⟩)(hk:k < n)(h7:k < 7)(hd:0≤d∧d≤2):GvI n ⟨k+1,v+(1+d),l++[v+(1+d)],a',c'⟩:=by
 obtain⟨k0,k1,len,v0,v1,inc,b⟩:=h;dsimp only at *;refine⟨by dsimp only; omega,by dsimp only; omega,by dsimp only; rw[ug,QH]; omega,by dsimp only; omega,by dsimp only; omega,?_,?_⟩
 · show (l ++ [v + (1 + d)]).Pairwise (· < ·)
   rw[List.pairwise_append];refine⟨inc,List.pairwise_singleton _ _,fun x hx y hy=>?_⟩;rw[uL]at hy;have:=b x hx;omega
 · intro u hu
   show 1≤u∧u≤v+(1+d)
   rcases uX.1 hu with hu | hu
   · have:=b u hu; omega
   · rw[uL]at hu; omega
structure GlI (vs : List Int) (x : GlW) : Prop where
 k1:x.k≤14
 len:x.l.length=x.k
 b:∀k∈x.l,LnkG vs k
theorem gl_next {vs:List Int}{k:Nat}{l:List LnkL}{a a':Option Addr}{c c':Nat}{q:LnkL}(h:GlI vs ⟨k,l,a,c⟩)(h7:k < 14)(hq:LnkG vs q):GlI vs ⟨k+1,l++[q],a',c'⟩:=by
 obtain⟨k1,len,b⟩:=h;dsimp only at *;refine⟨by dsimp only; omega,by dsimp only; rw[ug,QH]; omega,?_⟩;intro u hu;rcases uX.1 hu with hu | hu
 · exact b u hu
 · rw[uL]at hu; subst hu; exact hq
theorem inc_inj {vs:List Int}(h:vs.Pairwise (· < ·)){i j:Nat}{x:Int}(hi:vs[i]? = some x)(hj:vs[j]? = some x):i=j:=by
 obtain⟨a1,a2⟩:=uc.1 hi;obtain⟨b1,b2⟩:=uc.1 hj;have hp:=List.pairwise_iff_getElem.1 h;rcases Nat.lt_trichotomy i j with e | e | e
 · have:=hp _ _ a1 b1 e; omega
 · exact e
 · have:=hp _ _ b1 a1 e; omega
theorem mod_ne {f m n:Int}(h0:0≤f)(h1:f < n)(h2:0≤m)(h3:m < n - 1):0≤(f+1+m) % n∧(f+1+m) % n < n∧(f+1+m) % n≠f:=by
 have a1:=Int.emod_nonneg (f+1+m) (show n≠0 by omega);have a2:=Int.emod_lt_of_pos (f+1+m) (show 0 < n by omega);refine⟨a1,a2,fun h=>?_⟩;rcases Int.lt_or_le (f+1+m) n with e | e
 · rw[Int.emod_eq_of_lt (by omega) e]at h; omega
 · have:(f+1+m) % n=f+1+m - n:=by
    rw[← Int.sub_emod_right,Int.emod_eq_of_lt (by omega) (by omega)]
   omega
theorem needR_c (a b c : Int) (w0 : World) (I0 : Imm) (hI : Sat I0 w0) (ha : 0 ≤ a ∧ a ≤ 255) (hb : 0 ≤ b ∧ b ≤ 255) (hc : 0 ≤ c ∧ c ≤ 255) :
 Ctr prog 13 [.agg #[.int .u8 a,.int .u8 b,.int .u8 c]] w0 (fun v w'=>v = .agg #[.int .i64 (needQ a b c).s,.int .i64 (needQ a b c).u,.int .i64 (needQ a b c).r,.int .i64 (needQ a b c).e,.int .i64 (needQ a b c).o]∧Ext w0 I0 w' I0):=by
 refine fn (n:=24) func13 rfl rfl rfl ?_;have hS:=St.start hI;refine QwR (qe (d_box (cs:=[.int .u8 _,.int .u8 _,.int .u8 _]) hS rfl) ?_);clear hS;rintro _ w_1⟨b1,rfl,hS⟩;refine qe (qw (cs:=[.int .i64 _,.int .i64 _,.int .i64 _,.int .i64 _,.int .i64 _]) hS Jt rfl) ?_;clear hS;rintro _ w_2⟨b2,rfl,hS⟩;refine QoR (qq hS (qA (o':=0) Jo uJ rfl rfl (by decide) (by decide) rfl) (qq hS (qi 1 Qp rfl rfl rfl) (qq hS (g_rem rfl rfl (by omega) (by omega)) (qq hS (qT Qx Qg rfl (by omega) (by omega)) (qq hS (qA (o':=0) Jo uJ rfl rfl (by decide) (by decide) rfl) (qq hS (qi 1 Qp rfl rfl rfl) ?_))))));refine qq hS (g_quo8 rfl rfl (by omega) (by decide) (by rw[IntKind.wrap_u8]; omega)) ?_;refine qq hS (qT Qx Qg rfl (by omega) (by omega)) (qq hS (qA (o':=1) Jo uJ rfl rfl (by decide) (by decide) rfl) (qq hS (qi 1 Qp rfl rfl rfl) (qq hS (g_rem rfl rfl (by omega) (by omega)) (qq hS (qT Qx Qg rfl (by omega) (by omega)) (qq hS (qA (o':=2) Jo uJ rfl rfl (by decide) (by decide) rfl) (qq hS (qi 1 Qp rfl rfl rfl) ?_))))));refine qq hS (g_rem rfl rfl (by omega) (by omega)) (qq hS (qT Qx Qg rfl (by omega) (by omega)) (qq hS (qA (o':=2) Jo uJ rfl rfl (by decide) (by decide) rfl) (qq hS (qi 1 Qp rfl rfl rfl) ?_)));refine qq hS (g_quo8 rfl rfl (by omega) (by decide) (by rw[IntKind.wrap_u8]; omega)) ?_;refine qq hS (qT Qx Qg rfl (by omega) (by omega)) (qq hS (qv (pl:=[(0,1),(1,1),(2,1),(3,1),(4,1)]) (cs:=[.int .i64 _,.int .i64 _,.int .i64 _,.int .i64 _,.int .i64 _]) Jt QL (fun w=>by simp[xX]) (mp (v:=.int .i64 _) rfl (mp (v:=.int .i64 _) rfl (mp (v:=.int .i64 _) rfl (mp (v:=.int .i64 _) rfl (mp (v:=.int .i64 _) rfl mp0))))) rfl) ?_)
 refine qe (qj 0 hS Qe rfl rfl rfl (vs:=[.int .i64 _,.int .i64 _,.int .i64 _,.int .i64 _,.int .i64 _]) rfl rfl rfl (xP rfl) (cs':=[_,_,_,_,_]) rfl) ?_;clear hS;rintro _ w_3⟨rfl,hS⟩;refine QoN (ub (ret1 results13 (qD 0 hS Qe QO rfl rfl rfl) ?_));exact⟨rfl,hS.nil⟩
theorem madeG_c_fill0 (z0 z1 z2 z3 z4 z5 z6 z7:Value)(x0:Int)(x1:Int)(x2:Int)(x3:Int)(x4:Int)(x5:Int)(x6:Int)(x7:Int):Instr.fill ([(0,1),(1,1),(2,1),(3,5)][·]?) #[z0,z1,z2,z3,z4,z5,z6,z7] [(0,.int .i64 x0),(1,.int .i64 x1),(2,.int .i64 x2),(3,.agg #[.int .i64 x3,.int .i64 x4,.int .i64 x5,.int .i64 x6,.int .i64 x7])]=some #[.int .i64 x0,.int .i64 x1,.int .i64 x2,.int .i64 x3,.int .i64 x4,.int .i64 x5,.int .i64 x6,.int .i64 x7]:=by
 simp[Instr.fill,Value.cells,List.zipIdx]
set_option maxHeartbeats 4000000 in
theorem madeG_c (av al : Option Addr) (cv cl : Nat) (V : List Int) (Q : List Q6) (w0 : World) (I0 : Imm) (hI : Sat I0 w0) (hV : RBytes I0 (.slice av V.length cv) V) (hVb : ∀ x ∈ V, 0 ≤ x ∧ x ≤ 255) (hQ : RFl I0 6 q6C (.slice al Q.length cl) Q) (hQw : ∀ q ∈ Q, q.wf) :
 Ctr prog 44 [.agg #[.slice av V.length cv,.slice al Q.length cl]] w0 (fun v w'=>∃I' g a0 c0 a1 c1,v = .agg #[.slice a0 g.vs.length c0,.slice a1 g.ls.length c1]∧Ext w0 I0 w' I'∧RGr I' a0 c0 a1 c1 g∧MadeG g):=by
 have hlv:=RSl.le hV;have hlq:=RSl.le hQ;simp only[maxLen]at hlv hlq;refine fn (n:=107) func44 rfl rfl rfl ?_;have hS:=St.start hI;refine QwR (qe (d_box (cs:=[.slice _ _ _,.slice _ _ _]) hS rfl) ?_);clear hS;rintro _ w_1⟨b1,rfl,hS⟩;refine qe (qw (cs:=[.slice _ _ _,.slice _ _ _]) hS uW rfl) ?_;clear hS;rintro _ w_2⟨b2,rfl,hS⟩;refine QoR (qq hS (qv (pl:=[(0,1),(1,1)]) (cs:=[.slice _ _ _,.slice _ _ _]) uW ut (fun w=>by simp[uo,uZ]) mp0 rfl) (qe (qw (cs:=[.slice _ _ _,.slice _ _ _]) hS uW rfl) ?_));clear hS;rintro _ w_3⟨b3,rfl,hS⟩;refine qe (qj 0 hS uv rfl rfl rfl (vs:=[.slice _ _ _,.slice _ _ _]) rfl rfl rfl (xP rfl) (cs':=[_,_]) rfl) ?_;clear hS;rintro _ w_4⟨rfl,hS⟩;refine qq hS (Qai rfl) (QoN (xL (QwR (qq hS (Qai rfl) (QoN (uk (loop (fun(x:GvW) σ w=>okS σ [(1,.pointer (some ⟨b1,0,none⟩)),(2,.pointer (some ⟨b2,0,none⟩)),(3,.pointer (some ⟨b3,0,none⟩)),(4,.int .i64 x.v),(5,.int .i64 x.k)]∧St [] w0 I0 I0 w [.row (.slice x.a x.l.length x.c) 3 1 x.l.length (flat intC x.l),.cel b3 34 [.slice x.a x.l.length x.c,.slice none 0 0],.cel b2 34 [.slice none 0 0,.slice none 0 0],.cel b1 25 [.slice av V.length cv,.slice al Q.length cl]]∧GvI V.length x) (fun x=>V.length - x.k) (⟨0,0,[],none,0⟩) ?_ ?_)))))))
 ·
  exact⟨⟨rfl,rfl,rfl,rfl,rfl,trivial⟩,(hS.sel [true,true,true]).nilRow 3 1,⟨Nat.zero_le _,by decide,rfl,Int.le_refl _,by decide,List.Pairwise.nil,fun _ h=>by cases h⟩⟩
 ·
  rintro⟨k,v,vs,a,c⟩σ w_l⟨hs,hS,hI⟩;dsimp only at hs hS ⊢;rw[← qx hs]; clear hs
  refine xL (QwR (qq hS (Qmi rfl) (qq hS (qb (o':=0) KG rfl Jf rfl rfl rfl) (qq hS (qi 3 JM rfl rfl rfl) (qq hS (qz rfl uU (hV.mono hS.ext) rfl) (qq hS (g_lss rfl rfl) (qq hS (Qmb rfl) (qu rfl rfl hS (fun hg=>(Qmi rfl)) ?_))))))));intro u18 hu18 hn18;refine qu rfl rfl hS (fun hg=>(g_lss (hu18 hg) rfl)) ?_;intro u19 hu19 hn19;refine qq hS (g_and rfl rfl (fun hq=>hu19 hq)) (QoN (qo rfl ?_ ?_))
  ·
   intro hc20;clear hu18 hn18 hu19 hn19
   try simp only[zA,zO,zN,zI,zF,zM,zT,zU]at hc20
   obtain⟨hkn,hk7⟩:=hc20;obtain⟨y,hyi⟩:∃y,V[k]? = some y:=⟨_,xW (by omega)⟩
   have hyA:=(hV.mono hS.ext).at hyi;have hyb:=hVb y (uf hyi);have hnx:=fun a' c'=>gv_next (a':=a') (c':=c') hI (by omega) (by omega) (show 0≤y % 3∧y % 3≤2 by omega)
   obtain⟨hi1,hi2,hi3,hi4,hi5,hi6,hi7⟩:=hI;dsimp only at hi1 hi2 hi3 hi4 hi5;refine xZ (xN (xL (uk (QwR (qq hS (Qmi rfl) (qq hS (qb (o':=0) KG rfl Jf rfl rfl rfl) (qq hS (qi 3 JM rfl rfl rfl) (qq hS (Qmi rfl) (qq hS (g_ixI uU uJ (hV.mono hS.ext) rfl rfl (by omega) (by omega)) (qq hS (qC Qp hyA rfl rfl) (qq hS (g_rem rfl rfl (by omega) (by omega)) (qq hS (qT Qx Qg rfl (by omega) (by omega)) ?_))))))))))));refine qq hS (g_add rfl rfl (by omega) (by omega)) (qq hS (g_add rfl rfl (by omega) (by omega)) (qq hS (Qai rfl) (QoN (reg (qq hS (qb (o':=0) ut rfl uo rfl rfl rfl) (qq hS (qi 1 uF rfl rfl rfl) (qq hS (Qmi rfl) ?_)))))));refine qe (d_lit (vs:=[.int .i64 _]) (cs:=[.int .i64 _]) hS ua xX QA rfl rfl rfl rfl (fun v hv=>by simp only[uq,ur,or_false]at hv; subst hv; rfl) rfl) ?_;clear hS;rintro _ w_5⟨b36,rfl,hS⟩;refine qe (qE 1 0 hS rfl ua info3 rfl rfl rfl rfl rfl rfl rfl rfl (by omega) (by omega)) ?_;clear hS;rintro _ w_6⟨a37,p37,rfl,hS⟩;refine qq hS (qb (o':=0) ut rfl uo rfl rfl rfl) (qe (qj 2 hS uo rfl rfl rfl (vs:=[.slice _ _ _]) rfl rfl rfl (xP rfl) (cs':=[_,_]) rfl) ?_);clear hS;rintro _ w_7⟨rfl,hS⟩;refine qh (Qh (xN (reg (qq hS (Qmi rfl) (qq hS (g_add rfl rfl (by omega) (by omega)) (qq hS (Qai rfl) ?_))))));exact⟨⟨k+1,v+(1+y % 3),vs++[v+(1+y % 3)],a37,p37⟩,_,rfl,⟨⟨rfl,rfl,rfl,rfl,rfl,trivial⟩,by dsimp only; rw[ug,qB]; exact hS.sel [false,true,true,true,true],hnx _ _⟩,by dsimp only; omega⟩
  ·
   intro hc20;clear hu18 hn18 hu19 hn19
   try simp only[zA,zO,zN,zI,zF,zM,zT,zU]at hc20
   obtain⟨hi1,hi2,hi3,hi4,hi5,hi6,hi7⟩:=hI;dsimp only at hi1 hi2 hi3 hi4 hi5 hi6 hi7;refine uD (uA (uA (Qw (xN (xL ?_)))));have hF:=St.freezeRow (u:=.slice a vs.length c) (m:=vs.length) (xs:=vs) qH (by exact hS.ord [0,1,2,3]) (rfl);clear hS;obtain⟨I_hvs,hS,hI_hvs,hvs⟩:=hF;refine reg (qq hS (qb (o':=0) ut rfl uo rfl rfl rfl) (qq hS (qi 0 uF rfl rfl rfl) (qq hS (qz rfl ua hvs rfl) (qq hS (Qai rfl) (QoN (xL (QwR (qq hS (Qai rfl) (QoN (uk (loop (fun(x:GlW) σ w=>okS σ [(1,.pointer (some ⟨b1,0,none⟩)),(2,.pointer (some ⟨b2,0,none⟩)),(3,.pointer (some ⟨b3,0,none⟩)),(6,.int .i64 vs.length),(7,.int .i64 x.k)]∧St [] w0 I0 I_hvs w [.row (.slice x.a x.l.length x.c) 60 8 x.l.length (flat lnkC x.l),.cel b3 34 [.slice a vs.length c,.slice x.a x.l.length x.c],.cel b2 34 [.slice none 0 0,.slice none 0 0],.cel b1 25 [.slice av V.length cv,.slice al Q.length cl]]∧GlI vs x) (fun x=>Q.length - x.k) (⟨0,[],none,0⟩) ?_ ?_)))))))))))
   ·
    exact⟨⟨rfl,rfl,rfl,rfl,rfl,trivial⟩,(hS.sel [true,true,true]).nilRow 60 8,⟨by decide,rfl,fun _ h=>by cases h⟩⟩
   ·
    rintro⟨i,ls,al1,cl1⟩σ w_l⟨hs,hS,hJ⟩;dsimp only at hs hS ⊢;rw[← qx hs]; clear hs
    refine xL (QwR (qq hS (Qmi rfl) (qq hS (qb (o':=1) KG rfl sizeOf23 rfl rfl rfl) (qq hS (qi 3 isAgg23 rfl rfl rfl) (qq hS (qz rfl underlying23 (hQ.mono hS.ext) rfl) (qq hS (g_lss rfl rfl) (qq hS (Qmb rfl) (qu rfl rfl hS (fun hg=>(Qmi rfl)) ?_))))))));intro u48 hu48 hn48;refine qu rfl rfl hS (fun hg=>(g_lss (hu48 hg) rfl)) ?_;intro u49 hu49 hn49;refine qq hS (g_and rfl rfl (fun hq=>hu49 hq)) (qq hS (Qmb rfl) (qu rfl rfl hS (fun hg=>(Qmi rfl)) ?_));intro u52 hu52 hn52;refine qu rfl rfl hS (fun hg=>(g_gtr (hu52 hg) rfl)) ?_;intro u53 hu53 hn53;refine qq hS (g_and rfl rfl (fun hq=>hu53 hq)) (QoN (qo rfl ?_ ?_))
    ·
     intro hc54;clear hu48 hn48 hu49 hn49 hu52 hn52 hu53 hn53
     try simp only[zA,zO,zN,zI,zF,zM,zT,zU]at hc54
     obtain⟨⟨hin,hi14⟩,hn1⟩:=hc54;obtain⟨q,hqi⟩:∃q,Q[i]? = some q:=⟨_,xW (by omega)⟩
     have hqA:=(hQ.mono hS.ext).at hqi;obtain⟨⟨qa1,qa2⟩,⟨qb1,qb2⟩,⟨qc1,qc2⟩,⟨qd1,qd2⟩,⟨qe1,qe2⟩,⟨qf1,qf2⟩⟩:=hQw q (uf hqi);have f1:=Int.emod_nonneg q.a (show(vs.length:Int)≠0 by omega);have f2:=Int.emod_lt_of_pos q.a (show 0 < (vs.length:Int) by omega);have m1:=Int.emod_nonneg q.b (show(vs.length:Int) - 1≠0 by omega);have m2:=Int.emod_lt_of_pos q.b (show 0 < (vs.length:Int) - 1 by omega);obtain⟨t1,t2,t3⟩:=mod_ne f1 f2 m1 m2;obtain⟨vf,hfi⟩:∃x,vs[(q.a % (vs.length:Int)).toNat]? = some x:=⟨_,xW (by omega)⟩
     obtain⟨vt,hti⟩:∃x,vs[((q.a % (vs.length:Int)+1+q.b % ((vs.length:Int) - 1)) % (vs.length:Int)).toNat]? = some x:=⟨_,xW (by omega)⟩
     have hfA:=hvs.at hfi;have htA:=hvs.at hti;have hnew:LnkG vs ⟨vf,vt,q.c % 8,needQ q.d q.e q.f⟩:=⟨uf hfi,uf hti,fun h=>t3 (by
      replace h:vf=vt:=h;subst h;have:=inc_inj hi6 hfi hti;omega),by dsimp only; omega,by dsimp only; omega,needQ_right ⟨qd1,qd2⟩ ⟨qe1,qe2⟩ ⟨qf1,qf2⟩⟩
     have hnx:=fun a' c'=>gl_next (a':=a') (c':=c') hJ (by omega) hnew
     obtain⟨hj1,hj2,hj3⟩:=hJ;dsimp only at hj1 hj2;refine xZ (xN (xL (uk (QwR (qq hS (qb (o':=1) KG rfl sizeOf23 rfl rfl rfl) (qq hS (qi 3 isAgg23 rfl rfl rfl) (qq hS (Qmi rfl) (qq hS (g_ixI underlying23 sizeOf147 (hQ.mono hS.ext) rfl rfl (by omega) (by omega)) (qq hS (g_ldE (us:=[.int .u8 _,.int .u8 _,.int .u8 _,.int .u8 _,.int .u8 _,.int .u8 _]) sizeOf147 isAgg147 hqA rfl rfl rfl) ?_)))))))));refine qe (qw (cs:=[.int .u8 _,.int .u8 _,.int .u8 _,.int .u8 _,.int .u8 _,.int .u8 _]) hS zeroValue147 rfl) ?_;clear hS;rintro _ w_8⟨b8,rfl,hS⟩;refine qe (qj 0 hS sizeOf147 rfl rfl rfl (vs:=[.int .u8 _,.int .u8 _,.int .u8 _,.int .u8 _,.int .u8 _,.int .u8 _]) rfl rfl rfl (xP rfl) (cs':=[_,_,_,_,_,_]) rfl) ?_;clear hS;rintro _ w_9⟨rfl,hS⟩;refine QoR (qq hS (qA (o':=0) Kk uJ rfl rfl (by decide) (by decide) rfl) (qq hS (qi 0 Qp rfl rfl rfl) (qq hS (qT Qx Qg rfl (by omega) (by omega)) (qq hS (Qmi rfl) (qq hS (g_rem rfl rfl (by omega) (by omega)) (qq hS (Qai rfl) (QoR (qq hS (Qmi rfl) (qq hS (g_add rfl rfl (by omega) (by omega)) (qq hS (qA (o':=1) Kk uJ rfl rfl (by decide) (by decide) rfl) ?_))))))))));refine qq hS (qi 0 Qp rfl rfl rfl) (qq hS (qT Qx Qg rfl (by omega) (by omega)) (qq hS (Qmi rfl) (qq hS (g_sub rfl rfl (by omega) (by omega)) (qq hS (g_rem rfl rfl (by omega) (by omega)) (qq hS (g_add rfl rfl (by omega) (by omega)) (qq hS (Qmi rfl) (qq hS (g_rem rfl rfl (by omega) (by omega)) (qq hS (Qai rfl) (QoN ?_)))))))));refine draw (.cons 0 .pure (.cons 1 .held (.cons 2 .pure (.cons 3 .held (.cons 4 .pure (.cons 5 .pure (.cons 6 .held (.cons 7 .pure (.cons 8 .held (.cons 9 .pure (.cons 10 .pure (.cons 11 .held (.cons 12 .pure (.cons 13 .held (.cons 14 .pure (.cons 15 .pure (.cons 16 .pure (.cons 17 .held (.cons 18 .pure (.cons 19 .held (.cons 20 .pure (.cons 21 .held (.cons 22 .pure (.cons 23 .eff (.cons 24 .pure (.cons 25 .eff (.cons 26 .bar (.cons 27 .pure (.cons 28 .bar .nil))))))))))))))))))))))))))))) mixed (by kernel_rfl) hS ?_
     intro w_10 hS;refine sp rfl (qb (o':=1) ut rfl uZ rfl rfl rfl) (sh rfl (qi 2 Jm rfl rfl rfl) (sp rfl (qb (o':=0) ut rfl uo rfl rfl rfl) (sh rfl (qi 2 uF rfl rfl rfl) (sp rfl (Qmi rfl) (sp rfl (g_ixI ua xX hvs rfl rfl (by omega) (by omega)) (sh rfl (qC uj hfA rfl rfl) (sp rfl (qb (o':=0) ut rfl uo rfl rfl rfl) ?_)))))));refine sh rfl (qi 2 uF rfl rfl rfl) (sp rfl (Qmi rfl) (sp rfl (g_ixI ua xX hvs rfl rfl (by omega) (by omega)) (sh rfl (qC uj htA rfl rfl) (sp rfl (qA (o':=2) Kk uJ rfl rfl (by decide) (by decide) rfl) (sh rfl (qi 0 Qp rfl rfl rfl) (sp rfl (g_rem rfl rfl (by omega) (by omega)) (sp rfl (qT Qx Qg rfl (by omega) (by omega)) ?_)))))));refine sp rfl (qA (o':=3) Kk uJ rfl rfl (by decide) (by decide) rfl) (sh rfl (qi 0 Qp rfl rfl rfl) (sp rfl (qA (o':=4) Kk uJ rfl rfl (by decide) (by decide) rfl) (sh rfl (qi 0 Qp rfl rfl rfl) (sp rfl (qA (o':=5) Kk uJ rfl rfl (by decide) (by decide) rfl) (sh rfl (qi 0 Qp rfl rfl rfl) (sp rfl (jm (cs:=[.int .u8 q.d,.int .u8 q.e,.int .u8 q.f]) KM Jo uJ rfl (fillu3 _ _ _ _ _ _)) ?_))))));have hS0:=hS;refine se rfl (ql Zd rfl (needR_c q.d q.e q.f _ _ hS.imm ⟨qd1,qd2⟩ ⟨qe1,qe2⟩ ⟨qf1,qf2⟩)) ?_;rintro _ w_11⟨rfl,hE⟩;replace hS:=hS.call hE;refine⟨_,_,hS0.le hE.ext (xY _),hS,sp rfl (qv (pl:=[(0,1),(1,1),(2,1),(3,5)]) (cs:=[.int .i64 _,.int .i64 _,.int .i64 _,.int .i64 _,.int .i64 _,.int .i64 _,.int .i64 _,.int .i64 _]) Qv uI (fun w=>by simp[xX,Qe]) (mp (v:=.int .i64 _) rfl (mp (v:=.int .i64 _) rfl (mp (v:=.int .i64 _) rfl (mp (v:=.agg #[.int .i64 _,.int .i64 _,.int .i64 _,.int .i64 _,.int .i64 _]) rfl mp0)))) (madeG_c_fill0 _ _ _ _ _ _ _ _ _ _ _ _ _ _ _ _)) ?_⟩
     have hS0:=hS;refine se rfl (d_lit (vs:=[.agg #[.int .i64 _,.int .i64 _,.int .i64 _,.int .i64 _,.int .i64 _,.int .i64 _,.int .i64 _,.int .i64 _]]) (cs:=[.int .i64 _,.int .i64 _,.int .i64 _,.int .i64 _,.int .i64 _,.int .i64 _,.int .i64 _,.int .i64 _]) hS uy uM Qv rfl rfl rfl rfl (fun v hv=>by simp only[uq,ur,or_false]at hv; subst hv; rfl) rfl) ?_;rintro _ w_12⟨b103,rfl,hS⟩;refine⟨_,_,hS0.le (Sub.refl _) (ue _ _),hS,sb rfl (qE 2 0 hS rfl uy info60 rfl rfl rfl rfl rfl rfl rfl rfl (by omega) (by omega)) ?_⟩;rintro _ w_13⟨a104,p104,rfl,hS⟩;refine⟨_,_,hS,sp rfl (qb (o':=1) ut rfl uZ rfl rfl rfl) (sb rfl (qj 3 hS uZ rfl rfl rfl (vs:=[.slice _ _ _]) rfl rfl rfl (xP rfl) (cs':=[_,_]) rfl) ?_)⟩;rintro _ w_14⟨rfl,hS⟩;refine⟨_,_,hS,sn (Qh (xN (reg (qq hS (Qmi rfl) (qq hS (g_add rfl rfl (by omega) (by omega)) (qq hS (Qai rfl) ?_))))))⟩;exact⟨⟨i+1,ls++[⟨vf,vt,q.c % 8,needQ q.d q.e q.f⟩],a104,p104⟩,_,rfl,⟨⟨rfl,rfl,rfl,rfl,rfl,trivial⟩,by dsimp only; rw[ug,qB]; exact hS.sel [false,false,true,true,true,true],hnx _ _⟩,by dsimp only; omega⟩
    ·
     intro hc54;clear hu48 hn48 hu49 hn49 hu52 hn52 hu53 hn53
     try simp only[zA,zO,zN,zI,zF,zM,zT,zU]at hc54
     obtain⟨hj1,hj2,hj3⟩:=hJ;dsimp only at hj1 hj2 hj3;refine uD (uA (uA (Qw (xN (QwR (qq hS (g_ldO 1 (vs:=[.slice _ _ _,.slice _ _ _]) uv Je rfl rfl rfl rfl) (qe (qj 2 hS uv rfl rfl rfl (vs:=[.slice _ _ _,.slice _ _ _]) rfl rfl rfl (xP rfl) (cs':=[_,_]) rfl) ?_)))))));clear hS;rintro _ w_15⟨rfl,hS⟩;refine QoN (ub (ret1 results44 (qD 2 hS uv Je rfl rfl rfl) ?_));obtain⟨I1,hS1,hI1,hd1⟩:=St.freezeRow qK (xs:=ls) (hS.sel [true,false,false,false]) rfl;exact⟨I1,⟨vs,ls⟩,a,c,al1,cl1,rfl,hS1.nil,⟨hvs.mono hI1,hd1⟩,⟨⟨by dsimp only; omega,by dsimp only; omega,hi6,fun v hv=>by have:=hi7 v hv; omega,hj3⟩,by dsimp only; omega,by dsimp only; omega,fun v hv=>by have:=hi7 v hv; omega⟩⟩
end Go.Proofs.YtcajgkfgjpfmaaaGreat
namespace Go.Proofs.YtcajgkfgjpfmaaaGreat
open Tryz
open Go Go.RowKit Go.Inl
/-! ### Patches fit -/
def fit1 (a b:EndL):Bool := !(((decide (a.f=b.f) && !decide (a.i=b.i)) || (decide (a.t=b.t) && !decide (a.o=b.o))) || (decide (a.t=b.f) && !decide (a.o=b.i)))
def fitZ (Z:List LnkP):Bool:=Z.all fun x=>Z.all fun y=>fit1 (endOf x.l x.p) (endOf y.l y.p)
theorem fits_two (a b:EndL):fitsE a b=(fit1 a b && fit1 b a):=by
 unfold fitsE fit1;by_cases h1:a.f=b.f <;> by_cases h2:a.t=b.t <;> by_cases h3:a.t=b.f <;> by_cases h4:a.f=b.t <;> by_cases h5:a.i=b.i <;> by_cases h6:a.o=b.o <;> by_cases h7:a.o=b.i <;> by_cases h8:a.i=b.o <;> simp_all [eq_comm]
theorem fit1_len {a b:LnkL}{p q:PatL}(hp:FitL a p)(hq:FitL b q):fit1 (endOf a p) (endOf b q)=true:=by
 have:=fitsE_len hp hq;rw[fits_two,xU]at this;exact this.1
theorem zip_snoc : ∀ {a : List LnkL} {b : List PatL} (l : LnkL) (p : PatL), b.length = a.length → zipLP (a ++ [l]) (b ++ [p]) = zipLP a b ++ [⟨l, p⟩]
 | [],[],_,_,_=>rfl
 | [],_::_,_,_,h=>by simp at h
 | _::_,[],_,_,h=>by simp at h
 | x::a,y::b,l,p,h=>by
   show LnkP.mk x y::zipLP (a++[l]) (b++[p])=_
   rw[zip_snoc l p (by simpa using h)]; rfl
theorem fitZ_add {s:SrvL}(hg:GoodS s){l:LnkL}{p:PatL}(hne:l.f≠l.t):fitZ (zipLP (s.g.ls++[l]) (s.ps++[p]))=allFit s l p:=by
 rw[zip_snoc l p hg.pl,Bool.eq_iff_iff];unfold fitZ allFit;rw[Qn,Qn];have hz:fit1 (endOf l p) (endOf l p)=true:=by
  unfold fit1 endOf;have h2:¬l.t=l.f:=fun h=>hne h.symm
  simp[h2]
 constructor
 · intro h x hx
   rw[fits_two,xU];have h1:=h x (List.mem_append_left _ hx);have h2:=h ⟨l,p⟩ (by simp);rw[Qn]at h1 h2;exact⟨h1 ⟨l,p⟩ (by simp),h2 x (List.mem_append_left _ hx)⟩
 · intro h x hx
   rw[Qn];intro y hy;rcases uX.1 hx with hx | hx <;> rcases uX.1 hy with hy | hy
   · exact fit1_len (zip_mem hg hx) (zip_mem hg hy)
   · rw [uL] at hy
     subst hy;have:=h x hx;rw[fits_two,xU]at this;exact this.1
   · rw [uL] at hx
     subst hx;have:=h y hy;rw[fits_two,xU]at this;exact this.2
   · rw [uL] at hx hy
     subst hx hy; exact hz
theorem hasStep {l:List Int}{k:Nat}{x v:Int}(hall:∀i,i < k→l[i]? ≠ some v)(hxi:l[k]? = some x)(hc:¬x=v):∀i,i < k+1→l[i]? ≠ some v:=fun i hi h=>by
 rcases Qk.1 hi with g | g
 · exact hall i g h
 · subst g; rw[hxi]at h; exact hc (Option.some.inj h)
theorem yV {l:List Int}{k:Nat}{d:Int}(h:k < l.length):l[k]? = some (l.getD k d):=by rw[uh,xW h]; rfl
theorem getN30 {l:List Int}{i:Nat}{x d:Int}(h:l[i]? = some x):l.getD i d=x:=by rw[uh,h]; rfl
theorem lt_step30 {l:List Int}{n y:Int}{k:Nat}(h:∀i,i < k→∀z,l[i]? = some z→z < n)(hy:l[k]? = some y)(e:y < n):∀i,i < k+1→∀z,l[i]? = some z→z < n:=fun i hi z hz=>by
 rcases Qk.1 hi with g | g
 · exact h i g z hz
 · subst g; rw[hy]at hz; cases hz; exact e
theorem has_c (ad : Option Addr) (cap : Nat) (l : List Int) (v : Int) (w0 : World) (I0 : Imm) (hI : Sat I0 w0) (hl : RFl I0 1 intC (.slice ad l.length cap) l) :
 Ctr prog 32 [.slice ad l.length cap,.int .i64 v] w0 (fun u w'=>u = .bool (decide (v∈l))∧Ext w0 I0 w' I0):=by
 have hle:=RSl.le hl;simp only[maxLen]at hle;refine fn (n:=18) func32 rfl rfl rfl ?_;have hS:=St.start hI;refine QwR (qq hS (Qab rfl) (QoN (xL (QwR (qq hS (Qai rfl) (QoN (uk (loop (fun(k:Nat) σ w=>okS σ [(0,.slice ad l.length cap),(1,.int .i64 v),(5,.int .i64 k)]∧St [] w0 I0 I0 w []∧k≤l.length∧∀i,i < k→l[i]? ≠ some v) (fun k=>l.length - k) (0) ?_ ?_))))))))
 ·
  exact⟨⟨rfl,rfl,rfl,trivial⟩,hS.sel [],by omega,fun i hi=>by omega⟩
 ·
  rintro k σ w_l⟨hs,hS,hk0,hall⟩;rw[← qx hs]; clear hs
  refine xL (QwR (qq hS (Qmi rfl) (qq hS (qk _) (qq hS (qz rfl ua hl rfl) (qq hS (g_lss rfl rfl) (QoN (qo rfl ?_ ?_)))))))
  ·
   intro hc9
   try simp only[zA,zO,zN,zI,zF,zM,zT,zU]at hc9
   obtain⟨x,hxi⟩:∃x,l[k]? = some x:=⟨_,xW (by omega)⟩
   have hxA:=hl.at hxi;refine xZ (xN (xL (uk (QwR (qq hS (qk _) (qq hS (Qmi rfl) (qq hS (g_ixI ua xX hl rfl rfl (by omega) (by omega)) (qq hS (qC uj hxA rfl rfl) (qq hS (Qmi rfl) (qq hS (g_eql rfl rfl) (QoN (qo rfl ?_ ?_))))))))))))
   ·
    intro hc17
    try simp only[zA,zO,zN,zI,zF,zM,zT,zU]at hc17
    subst hc17;have e:decide (x∈l)=true:=uK (uf hxi);refine QwR (qq hS (Qab rfl) (QoN (ub (Qs (uw (uw (Qs (uw (ret1 results32 (qr (v:=.bool _) rfl) ?_)))))))));exact⟨by rw[e] <;> rfl,hS.nil⟩
   ·
    intro hc17
    try simp only[zA,zO,zN,zI,zF,zM,zT,zU]at hc17
    have hnx:=hasStep hall hxi hc17;refine xZ (Qh (xN (reg (qq hS (Qmi rfl) (qq hS (g_add rfl rfl (by omega) (by omega)) (qq hS (Qai rfl) ?_))))));exact⟨k+1,_,rfl,⟨⟨rfl,rfl,rfl,trivial⟩,hS.sel [],by omega,hnx⟩,by omega⟩
  ·
   intro hc9
   try simp only[zA,zO,zN,zI,zF,zM,zT,zU]at hc9
   obtain rfl:k=l.length:=by omega
   have e:decide (v∈l)=false:=uY (take_no hall);refine uD (uA (uA (Qw (xN (QwR (qq hS (Qab rfl) (QoN (ub (ret1 results32 (qr (v:=.bool _) rfl) ?_)))))))));exact⟨by rw[e] <;> rfl,hS.nil⟩
theorem qZ (ad : Option Addr) (cap : Nat) (l : List Int) (n : Int) (w0 : World) (I0 : Imm) (hI : Sat I0 w0) (hl : RFl I0 1 intC (.slice ad l.length cap) l) (hs : l.Pairwise (· < ·)) (hn : l.length ≤ 1073741824) :
 Ctr prog 45 [.slice ad l.length cap,.int .i64 n] w0 (fun v w'=>∃I' a c,v = .slice a (insI l n).length c∧Ext w0 I0 w' I'∧RFl I' 1 intC (.slice a (insI l n).length c) (insI l n)):=by
 have hle:=RSl.le hl;simp only[maxLen]at hle;have hcap:=(RSl.len_cap hl).1;refine fn (n:=39) func45 rfl rfl rfl ?_;have hS:=St.start hI;refine QwR (qq hS (qy _) (QoN (xL (QwR (qq hS (qk _) (qq hS (Qmi rfl) (qe (ql Kp rfl (has_c ad cap l n _ I0 hS.imm hl)) ?_)))))));rintro _ w_1⟨rfl,hE⟩;replace hS:=hS.callE hE;refine QoN (qo rfl ?_ ?_)
 ·
  intro hc9
  try simp only[zA,zO,zN,zI,zF,zM,zT,zU]at hc9
  have hm:n∈l:=by simpa using hc9
  have e:=vZ hs hm;refine QwR (qq hS (qk _) (qq hS (qy _) (QoN (ub (uw (ret1 results45 (qr rfl) ?_))))))
  first
   | exact⟨I0,ad,cap,by rw[e] <;> rfl,hS.nil,by rw[e]; exact hl⟩
   | (have e2 : insI l n = l.take k ++ ([n] ++ l.drop k) := e
      rw[e2];have hm2:0+(l.take k).length+1+(l.drop k).length=(l.take k++([n]++l.drop k)).length:=by simp only[ug,QH]; omega
      obtain⟨I1,hE1,hI1,hd1⟩:=qS qH (xs:=l.take k++([n]++l.drop k)) (m:=(l.take k++([n]++l.drop k)).length) (by rw[← hm2,qB,qB,jg,← Qr]; exact hS.sel []) rfl;exact⟨I1,a38,p38,by rw[← hm2] <;> rfl,hE1,by rw[← hm2]; exact hd1⟩)
 ·
  intro hc9
  try simp only[zA,zO,zN,zI,zF,zM,zT,zU]at hc9
  have hm:n∉l:=by simpa using hc9
  refine xZ (xN (QwR (qq hS (Qai rfl) (QoN (xL (uk (loop (fun(k:Nat) σ w=>okS σ [(0,.slice ad l.length cap),(1,.int .i64 n),(5,.int .i64 k)]∧St [] w0 I0 I0 w []∧k≤l.length∧∀i,i < k→∀z,l[i]? = some z→z < n) (fun k=>l.length - k) (0) ?_ ?_)))))))
  ·
   exact⟨⟨rfl,rfl,rfl,trivial⟩,hS.sel [],by omega,fun i hi=>by omega⟩
  ·
   rintro k σ w_l⟨hs,hS,hk,hlt⟩;rw[← qx hs]; clear hs
   have hxA:k < l.length→atI I0 (elA (.slice ad l.length cap) k 1 0) [.int .i64 (l.getD k 0)]:=fun h=>hl.at (yV h)
   refine xL (QwR (qq hS (Qmi rfl) (qq hS (qk _) (qq hS (qz rfl ua hl rfl) (qq hS (g_lss rfl rfl) (qq hS (Qmb rfl) (qu rfl rfl hS (fun hg=>(qk _)) ?_)))))));intro u16 hu16 hn16;refine qu rfl rfl hS (fun hg=>(Qmi rfl)) ?_;intro u17 hu17 hn17;refine qu rfl rfl hS (fun hg=>(g_ixI ua xX hl (hu16 hg) (hu17 hg) (by have:=ux hg; omega) (by have:=ux hg; omega))) ?_;intro u18 hu18 hn18;refine qu rfl rfl hS (fun hg=>(qC uj (hxA (by have:=ux hg; omega)) (hu18 hg) rfl)) ?_;intro u19 hu19 hn19;refine qu rfl rfl hS (fun hg=>(Qmi rfl)) ?_;intro u20 hu20 hn20;refine qu rfl rfl hS (fun hg=>(g_lss (hu19 hg) (hu20 hg))) ?_;intro u21 hu21 hn21;refine qq hS (g_and rfl rfl (fun hq=>hu21 hq)) (QoN (qo rfl ?_ ?_))
   ·
    intro hc22;clear hu16 hn16 hu17 hn17 hu18 hn18 hu19 hn19 hu20 hn20 hu21 hn21
    try simp only[zA,zO,zN,zI,zF,zM,zT,zU]at hc22
    have hkl:k < l.length:=by have:=hc22.1; omega
    obtain⟨y,hyi⟩:∃y,l[k]? = some y:=⟨_,xW hkl⟩
    have hyn:l.getD k 0 < n:=hc22.2;rw[getN30 hyi]at hyn;have hlt2:=lt_step30 hlt hyi hyn;refine xZ (xN (uk (reg (qq hS (Qmi rfl) (qq hS (g_add rfl rfl (by omega) (by omega)) (qq hS (Qai rfl) ?_))))));exact⟨k+1,_,rfl,⟨⟨rfl,rfl,rfl,trivial⟩,hS.sel [],by omega,hlt2⟩,by omega⟩
   ·
    intro hc22;clear hu16 hn16 hu17 hn17 hu18 hn18 hu19 hn19 hu20 hn20 hu21 hn21
    try simp only[zA,zO,zN,zI,zF,zM,zT,zU]at hc22
    have hend:∀y,l[k]? = some y→n≤y:=fun y hy=>by
     have h1:=(uc.1 hy).1;have h2:=getN30 (d:=0) hy;have h3:=hc22 (by omega);omega
    have e:=insI_new hk hm hlt hend;refine uD (uA (uA (Qw (xN (xL ?_)))));have hs29:=RSl.slH hl k hk;have hs38:=RSl.slL hl k hk;obtain⟨a29,c29,hv29,_⟩:=hs29.len;obtain⟨a38,c38,hv38,_⟩:=hs38.len;rw[hv29]at hs29;rw[hv38]at hs38;have hl29:(l.take k).length=k:=by rw[uT]; omega
    have hl38:(l.drop k).length=l.length - k:=Qj;refine reg (qe (qN hS ua xX) ?_);clear hS;rintro _ w_2⟨hS,b25_,rfl⟩;refine qq hS (qk _) (qq hS (Qmi rfl) (qq hS (g_toV (zV (h0:=k) ua xX rfl rfl (by omega) (by omega) (by omega)) hv29) (qe (jc 0 hS rfl ua info3 rfl rfl rfl rfl qH (fun _=>rfl) hs29 rfl (by omega) (by omega)) ?_)));clear hS;rintro _ w_3⟨a29,p29,rfl,hS⟩;refine qq hS (qy _) (QoR (qq hS (qk _) (qq hS (Qmi rfl) ?_)));refine qe (d_lit (vs:=[.int .i64 _]) (cs:=[.int .i64 _]) hS ua xX QA rfl rfl rfl rfl (fun v hv=>by simp only[uq,ur,or_false]at hv; subst hv; rfl) rfl) ?_;clear hS;rintro _ w_4⟨b32,rfl,hS⟩;refine qe (qE 1 0 hS rfl ua info3 rfl rfl rfl rfl rfl rfl rfl rfl (by omega) (by omega)) ?_;clear hS;rintro _ w_5⟨a33,p33,rfl,hS⟩;refine qq hS (qy _) (QoR (qq hS (qk _) (qq hS (qk _) (qq hS (Qmi rfl) (qq hS (g_toV (zk (l0:=k) ua xX rfl rfl (by omega) (by omega) (by omega)) hv38) (qe (jc 1 hS rfl ua info3 rfl rfl rfl rfl qH (fun _=>rfl) hs38 rfl (by omega) (by omega)) ?_))))));clear hS;rintro _ w_6⟨a38,p38,rfl,hS⟩;refine qq hS (qy _) (QoN (ub (ret1 results45 (qr rfl) ?_)))
    first
     | exact⟨I0,ad,cap,by rw[e] <;> rfl,hS.nil,by rw[e]; exact hl⟩
     | (have e2 : insI l n = l.take k ++ ([n] ++ l.drop k) := e
        rw[e2];have hm2:0+(l.take k).length+1+(l.drop k).length=(l.take k++([n]++l.drop k)).length:=by simp only[ug,QH]; omega
        obtain⟨I1,hE1,hI1,hd1⟩:=qS qH (xs:=l.take k++([n]++l.drop k)) (m:=(l.take k++([n]++l.drop k)).length) (by rw[← hm2,qB,qB,jg,← Qr]; exact hS.sel [false,true]) rfl;exact⟨I1,a38,p38,by rw[← hm2] <;> rfl,hE1,by rw[← hm2]; exact hd1⟩)
theorem kX (v:Int)(w0:World)(I0:Imm)(hI:Sat I0 w0)(h0:0≤v)(h1:v≤1000000):Ctr prog 39 [.int .i64 v] w0 (fun u w'=>u = .int .i64 (lenV v)∧Ext w0 I0 w' I0):=by
 refine fn (n:=7) func39 rfl rfl rfl ?_;have hS:=St.start hI;refine QwR (qq hS (Qai rfl) (QoR (qq hS (Qmi rfl) (qq hS (g_mul rfl rfl (by omega) (by omega)) (qq hS (g_rem rfl rfl (by omega) (by omega)) (qq hS (g_add rfl rfl (by omega) (by omega)) (qq hS (Qai rfl) (QoN (ub (ret1 results39 (qr (v:=.int .i64 _) rfl) ?_))))))))));exact⟨rfl,hS.nil⟩
end Go.Proofs.YtcajgkfgjpfmaaaGreat
namespace Go.Proofs.YtcajgkfgjpfmaaaGreat
open Tryz
open Go Go.RowKit Go.Inl
theorem RMade.one {I:Imm}(cs:List Value)(d:MadeL)(h:RMade I cs d):cs.all (·.oneCell')=true:=by
 obtain⟨a,c,ap,m,cp,rfl,_⟩:=h; rfl
theorem all_stepZ {α:Type}{l:List α}{f:α→Bool}{k:Nat}{x:α}(h:∀(j:Nat) (y:α),j < k→l[j]? = some y→f y=true)(hx:l[k]? = some x)(hf:f x=true):∀(j:Nat) (y:α),j < k+1→l[j]? = some y→f y=true:=fun j y hj hy=>by
 rcases Qk.1 hj with g | g
 · exact h j y g hy
 · subst g; rw[hx]at hy; rw[← Option.some.inj hy]; exact hf
set_option maxHeartbeats 4000000 in
theorem fit30_c (ls : List LnkL) (ps : List PatL) (al ap : Option Addr) (cl cp : Nat) (w0 : World) (I0 : Imm) (hI : Sat I0 w0) (hl : RFl I0 8 lnkC (.slice al ls.length cl) ls) (hp : RPats I0 (.slice ap ps.length cp) ps) (hpl : ps.length = ls.length) :
 Ctr prog 66 [.slice al ls.length cl,.slice ap ps.length cp] w0 (fun v w'=>v = .bool (fitZ (zipLP ls ps))∧Ext w0 I0 w' I0):=by
 have hle:=RSl.le hl;simp only[maxLen]at hle;have hzl:=zb hpl;refine fn (n:=95) func66 rfl rfl rfl ?_;have hS:=St.start hI;refine QwR (qq hS (Qab rfl) (QoN (xL (QwR (qq hS (Qai rfl) (QoN (uk (loop (fun(i:Nat) σ w=>okS σ [(0,.slice al ls.length cl),(1,.slice ap ps.length cp),(5,.int .i64 i)]∧St [] w0 I0 I0 w []∧i≤ls.length∧∀(j:Nat) (x:LnkP),j < i→(zipLP ls ps)[j]? = some x→((zipLP ls ps).all fun y=>fit1 (endOf x.l x.p) (endOf y.l y.p))=true) (fun i=>ls.length - i) (0) ?_ ?_))))))))
 ·
  exact⟨⟨rfl,rfl,rfl,trivial⟩,hS.sel [],by omega,fun j x hj=>by omega⟩
 ·
  rintro i σ w_l⟨hs,hS,hi0,hall⟩;rw[← qx hs]; clear hs
  refine xL (QwR (qq hS (Qmi rfl) (qq hS (qk _) (qq hS (qz rfl uy hl rfl) (qq hS (g_lss rfl rfl) (QoN (qo rfl ?_ ?_)))))))
  ·
   intro hc10
   try simp only[zA,zO,zN,zI,zF,zM,zT,zU]at hc10
   obtain⟨x,hxi⟩:∃x,ls[i]? = some x:=⟨_,xW (by omega)⟩
   have hxA:=hl.at hxi;obtain⟨p,hpi⟩:∃x,ps[i]? = some x:=⟨_,xW (by omega)⟩
   obtain⟨csp,hclp,hpA,hpcp⟩:=RSl.at hp hpi;obtain⟨app,mpp,cpp,rfl,hpo⟩:=hpcp;have hzx:=zq hxi hpi;refine xZ (xN (xL (uk (QwR (qq hS (Qai rfl) (QoN (uk (loop (fun(k:Nat) σ w=>okS σ [(0,.slice al ls.length cl),(1,.slice ap ps.length cp),(5,.int .i64 i),(6,.int .i64 k)]∧St [] w0 I0 I0 w []∧k≤ls.length∧∀(j:Nat) (y:LnkP),j < k→(zipLP ls ps)[j]? = some y→fit1 (endOf x p) (endOf y.l y.p)=true) (fun k=>ls.length - k) (0) ?_ ?_))))))))
   ·
    exact⟨⟨rfl,rfl,rfl,rfl,trivial⟩,hS.sel [],by omega,fun j y hj=>by omega⟩
   ·
    rintro k σ w_l⟨hs,hS,hk0,hal2⟩;rw[← qx hs]; clear hs
    refine xL (QwR (qq hS (Qmi rfl) (qq hS (qk _) (qq hS (qz rfl uy hl rfl) (qq hS (g_lss rfl rfl) (QoN (qo rfl ?_ ?_)))))))
    ·
     intro hc16
     try simp only[zA,zO,zN,zI,zF,zM,zT,zU]at hc16
     obtain⟨y,hyi⟩:∃x,ls[k]? = some x:=⟨_,xW (by omega)⟩
     have hyA:=hl.at hyi;obtain⟨q,hqi⟩:∃x,ps[k]? = some x:=⟨_,xW (by omega)⟩
     obtain⟨csq,hclq,hqA,hpcq⟩:=RSl.at hp hqi;obtain⟨apq,mpq,cpq,rfl,hqo⟩:=hpcq;have hzy:=zq hyi hqi;refine xZ (xN (xL (uk (xL (draw (.cons 0 .pure (.cons 1 .pure (.cons 2 .pure (.cons 3 .pure (.cons 4 .held (.cons 5 .pure (.cons 6 .pure (.cons 7 .pure (.cons 8 .pure (.cons 9 .held (.cons 10 .pure (.cons 11 .pure (.cons 12 .pure (.cons 13 .pure (.cons 14 .pure (.cons 15 .pure (.cons 16 .held (.cons 17 .pure (.cons 18 .pure (.cons 19 .pure (.cons 20 .pure (.cons 21 .held (.cons 22 .pure (.cons 23 .pure (.cons 24 .pure (.cons 25 .pure (.cons 26 .pure (.cons 27 .pure (.cons 28 .pure (.cons 29 .held (.cons 30 .pure (.cons 31 .pure (.cons 32 .pure (.cons 33 .pure (.cons 34 .held (.cons 35 .pure (.cons 36 .pure (.cons 37 .pure (.cons 38 .pure (.cons 39 .pure (.cons 40 .pure (.cons 41 .held (.cons 42 .pure (.cons 43 .pure (.cons 44 .pure (.cons 45 .pure (.cons 46 .held (.cons 47 .pure (.cons 48 .pure (.cons 49 .pure (.cons 50 .pure (.cons 51 .pure (.cons 52 .pure (.cons 53 .pure (.cons 54 .pure (.cons 55 .held (.cons 56 .pure (.cons 57 .pure (.cons 58 .pure (.cons 59 .pure (.cons 60 .held (.cons 61 .pure (.cons 62 .pure (.cons 63 .pure (.cons 64 .pure (.cons 65 .pure (.cons 66 .pure (.cons 67 .held (.cons 68 .pure (.cons 69 .pure (.cons 70 .pure (.cons 71 .pure (.cons 72 .held (.cons 73 .pure (.cons 74 .pure (.cons 75 .pure .nil)))))))))))))))))))))))))))))))))))))))))))))))))))))))))))))))))))))))))))) mixed (by kernel_rfl) hS ?_)))));intro w_1 hS;refine sp rfl (qk _) (sp rfl (Qmi rfl) (sp rfl (g_ixI uy uM hl rfl rfl (by omega) (by omega)) (sp rfl (qF (c':=0) uI rfl xX rfl rfl rfl) (sh rfl (qC uj hxA rfl rfl) (sp rfl (qk _) (sp rfl (Qmi rfl) (sp rfl (g_ixI uy uM hl rfl rfl (by omega) (by omega)) (sp rfl (qF (c':=0) uI rfl xX rfl rfl rfl) ?_))))))))
     refine sh rfl (qC uj hyA rfl rfl) (sp rfl (g_eql rfl rfl) (sp rfl (Qmb rfl) (spu rfl rfl rfl (fun hg=>(qk _)) ?_)));intro u31 hu31 hn31;refine spu rfl rfl rfl (fun hg=>(Qmi rfl)) ?_;intro u32 hu32 hn32;refine spu rfl rfl rfl (fun hg=>(g_ixI Qf ul hp (hu31 hg) (hu32 hg) (by omega) (by omega))) ?_;intro u33 hu33 hn33;refine spu rfl rfl rfl (fun hg=>(qF (c':=1) uu rfl xX rfl (hu33 hg) rfl)) ?_;intro u34 hu34 hn34;refine shu rfl rfl rfl (fun hg=>(qC uj hpA (hu34 hg) rfl)) ?_;intro u35 hu35 hn35;refine spu rfl rfl rfl (fun hg=>(qk _)) ?_;intro u36 hu36 hn36;refine spu rfl rfl rfl (fun hg=>(Qmi rfl)) ?_;intro u37 hu37 hn37;refine spu rfl rfl rfl (fun hg=>(g_ixI Qf ul hp (hu36 hg) (hu37 hg) (by omega) (by omega))) ?_;intro u38 hu38 hn38;refine spu rfl rfl rfl (fun hg=>(qF (c':=1) uu rfl xX rfl (hu38 hg) rfl)) ?_;intro u39 hu39 hn39;refine shu rfl rfl rfl (fun hg=>(qC uj hqA (hu39 hg) rfl)) ?_;intro u40 hu40 hn40;refine spu rfl rfl rfl (fun hg=>(g_neq (hu35 hg) (hu40 hg))) ?_;intro u41 hu41 hn41;refine sp rfl (g_and rfl rfl (fun hq=>hu41 hq)) (sp rfl (Qmb rfl) (spu rfl rfl rfl (fun hg=>(qk _)) ?_));intro u44 hu44 hn44;refine spu rfl rfl rfl (fun hg=>(Qmi rfl)) ?_;intro u45 hu45 hn45;refine spu rfl rfl rfl (fun hg=>(g_ixI uy uM hl (hu44 hg) (hu45 hg) (by omega) (by omega))) ?_;intro u46 hu46 hn46;refine spu rfl rfl rfl (fun hg=>(qF (c':=1) uI rfl xX rfl (hu46 hg) rfl)) ?_;intro u47 hu47 hn47;refine shu rfl rfl rfl (fun hg=>(qC uj hxA (hu47 hg) rfl)) ?_;intro u48 hu48 hn48;refine spu rfl rfl rfl (fun hg=>(qk _)) ?_
     intro u49 hu49 hn49;refine spu rfl rfl rfl (fun hg=>(Qmi rfl)) ?_;intro u50 hu50 hn50;refine spu rfl rfl rfl (fun hg=>(g_ixI uy uM hl (hu49 hg) (hu50 hg) (by omega) (by omega))) ?_;intro u51 hu51 hn51;refine spu rfl rfl rfl (fun hg=>(qF (c':=1) uI rfl xX rfl (hu51 hg) rfl)) ?_;intro u52 hu52 hn52;refine shu rfl rfl rfl (fun hg=>(qC uj hyA (hu52 hg) rfl)) ?_;intro u53 hu53 hn53;refine spu rfl rfl rfl (fun hg=>(g_eql (hu48 hg) (hu53 hg))) ?_;intro u54 hu54 hn54;refine spu rfl rfl rfl (fun hg=>(qf (hu54 hg))) ?_;intro u55 hu55 hn55;refine spn (P:=prog) rfl rfl (C:=_) hu55 hn55 (fun hg=>(qk _)) ?_;intro u56 hu56 hn56;refine spn (P:=prog) rfl rfl (C:=_) hu55 hn55 (fun hg=>(Qmi rfl)) ?_;intro u57 hu57 hn57;refine spn (P:=prog) rfl rfl (C:=_) hu55 hn55 (fun hg=>(g_ixI Qf ul hp (hu56 hg) (hu57 hg) (by omega) (by omega))) ?_;intro u58 hu58 hn58;refine spn (P:=prog) rfl rfl (C:=_) hu55 hn55 (fun hg=>(qF (c':=2) uu rfl xX rfl (hu58 hg) rfl)) ?_;intro u59 hu59 hn59;refine shn (P:=prog) rfl rfl (C:=_) hu55 hn55 (fun hg=>(qC uj hpA (hu59 hg) rfl)) ?_;intro u60 hu60 hn60;refine spn (P:=prog) rfl rfl (C:=_) hu55 hn55 (fun hg=>(qk _)) ?_;intro u61 hu61 hn61;refine spn (P:=prog) rfl rfl (C:=_) hu55 hn55 (fun hg=>(Qmi rfl)) ?_;intro u62 hu62 hn62;refine spn (P:=prog) rfl rfl (C:=_) hu55 hn55 (fun hg=>(g_ixI Qf ul hp (hu61 hg) (hu62 hg) (by omega) (by omega))) ?_;intro u63 hu63 hn63;refine spn (P:=prog) rfl rfl (C:=_) hu55 hn55 (fun hg=>(qF (c':=2) uu rfl xX rfl (hu63 hg) rfl)) ?_;intro u64 hu64 hn64
     refine shn (P:=prog) rfl rfl (C:=_) hu55 hn55 (fun hg=>(qC uj hqA (hu64 hg) rfl)) ?_;intro u65 hu65 hn65;refine spn (P:=prog) rfl rfl (C:=_) hu55 hn55 (fun hg=>(g_neq (hu60 hg) (hu65 hg))) ?_;intro u66 hu66 hn66;refine spu rfl rfl rfl (fun hg=>(g_and (hu55 hg) rfl (fun hq=>hu66 ⟨hg,hq⟩))) ?_;intro u67 hu67 hn67;refine sp rfl (g_or rfl rfl (fun hq=>hu67 hq)) (sp rfl (Qmb rfl) (spu rfl rfl rfl (fun hg=>(qk _)) ?_));intro u70 hu70 hn70;refine spu rfl rfl rfl (fun hg=>(Qmi rfl)) ?_;intro u71 hu71 hn71;refine spu rfl rfl rfl (fun hg=>(g_ixI uy uM hl (hu70 hg) (hu71 hg) (by omega) (by omega))) ?_;intro u72 hu72 hn72;refine spu rfl rfl rfl (fun hg=>(qF (c':=1) uI rfl xX rfl (hu72 hg) rfl)) ?_;intro u73 hu73 hn73;refine shu rfl rfl rfl (fun hg=>(qC uj hxA (hu73 hg) rfl)) ?_;intro u74 hu74 hn74;refine spu rfl rfl rfl (fun hg=>(qk _)) ?_;intro u75 hu75 hn75;refine spu rfl rfl rfl (fun hg=>(Qmi rfl)) ?_;intro u76 hu76 hn76;refine spu rfl rfl rfl (fun hg=>(g_ixI uy uM hl (hu75 hg) (hu76 hg) (by omega) (by omega))) ?_;intro u77 hu77 hn77;refine spu rfl rfl rfl (fun hg=>(qF (c':=0) uI rfl xX rfl (hu77 hg) rfl)) ?_;intro u78 hu78 hn78;refine shu rfl rfl rfl (fun hg=>(qC uj hyA (hu78 hg) rfl)) ?_;intro u79 hu79 hn79;refine spu rfl rfl rfl (fun hg=>(g_eql (hu74 hg) (hu79 hg))) ?_;intro u80 hu80 hn80;refine spu rfl rfl rfl (fun hg=>(qf (hu80 hg))) ?_;intro u81 hu81 hn81;refine spn (P:=prog) rfl rfl (C:=_) hu81 hn81 (fun hg=>(qk _)) ?_;intro u82 hu82 hn82;refine spn (P:=prog) rfl rfl (C:=_) hu81 hn81 (fun hg=>(Qmi rfl)) ?_
     intro u83 hu83 hn83;refine spn (P:=prog) rfl rfl (C:=_) hu81 hn81 (fun hg=>(g_ixI Qf ul hp (hu82 hg) (hu83 hg) (by omega) (by omega))) ?_;intro u84 hu84 hn84;refine spn (P:=prog) rfl rfl (C:=_) hu81 hn81 (fun hg=>(qF (c':=2) uu rfl xX rfl (hu84 hg) rfl)) ?_;intro u85 hu85 hn85;refine shn (P:=prog) rfl rfl (C:=_) hu81 hn81 (fun hg=>(qC uj hpA (hu85 hg) rfl)) ?_;intro u86 hu86 hn86;refine spn (P:=prog) rfl rfl (C:=_) hu81 hn81 (fun hg=>(qk _)) ?_;intro u87 hu87 hn87;refine spn (P:=prog) rfl rfl (C:=_) hu81 hn81 (fun hg=>(Qmi rfl)) ?_;intro u88 hu88 hn88;refine spn (P:=prog) rfl rfl (C:=_) hu81 hn81 (fun hg=>(g_ixI Qf ul hp (hu87 hg) (hu88 hg) (by omega) (by omega))) ?_;intro u89 hu89 hn89;refine spn (P:=prog) rfl rfl (C:=_) hu81 hn81 (fun hg=>(qF (c':=1) uu rfl xX rfl (hu89 hg) rfl)) ?_;intro u90 hu90 hn90;refine shn (P:=prog) rfl rfl (C:=_) hu81 hn81 (fun hg=>(qC uj hqA (hu90 hg) rfl)) ?_;intro u91 hu91 hn91;refine spn (P:=prog) rfl rfl (C:=_) hu81 hn81 (fun hg=>(g_neq (hu86 hg) (hu91 hg))) ?_;intro u92 hu92 hn92;refine spu rfl rfl rfl (fun hg=>(g_and (hu81 hg) rfl (fun hq=>hu92 ⟨hg,hq⟩))) ?_;intro u93 hu93 hn93;refine sp rfl (g_or rfl rfl (fun hq=>hu93 hq)) (sn (xN (qo rfl ?_ ?_)))
     ·
      intro hc94;clear hu31 hn31 hu32 hn32 hu33 hn33 hu34 hn34 hu35 hn35 hu36 hn36 hu37 hn37 hu38 hn38 hu39 hn39 hu40 hn40 hu41 hn41 hu44 hn44 hu45 hn45 hu46 hn46 hu47 hn47 hu48 hn48 hu49 hn49 hu50 hn50 hu51 hn51 hu52 hn52 hu53 hn53 hu54 hn54 hu55 hn55 hu56 hn56 hu57 hn57 hu58 hn58 hu59 hn59 hu60 hn60 hu61 hn61 hu62 hn62 hu63 hn63 hu64 hn64 hu65 hn65 hu66 hn66 hu67 hn67 hu70 hn70 hu71 hn71 hu72 hn72 hu73 hn73 hu74 hn74 hu75 hn75 hu76 hn76 hu77 hn77 hu78 hn78 hu79 hn79 hu80 hn80 hu81 hn81 hu82 hn82 hu83 hn83 hu84 hn84 hu85 hn85 hu86 hn86 hu87 hn87 hu88 hn88 hu89 hn89 hu90 hn90 hu91 hn91 hu92 hn92 hu93 hn93;have hff:fit1 (endOf x p) (endOf y q)=false:=congrArg Bool.not hc94;have e:fitZ (zipLP ls ps)=false:=by
       unfold fitZ;refine all_not hzx (all_not hzy hff)
      refine QwR (qq hS (Qab rfl) (QoN (ub (Qs (uw (uw (Qs (Qs (uw (uw (Qs (uw (ret1 results66 (qr (v:=.bool _) rfl) ?_)))))))))))));exact⟨by rw[e] <;> rfl,hS.nil⟩
     ·
      intro hc94;clear hu31 hn31 hu32 hn32 hu33 hn33 hu34 hn34 hu35 hn35 hu36 hn36 hu37 hn37 hu38 hn38 hu39 hn39 hu40 hn40 hu41 hn41 hu44 hn44 hu45 hn45 hu46 hn46 hu47 hn47 hu48 hn48 hu49 hn49 hu50 hn50 hu51 hn51 hu52 hn52 hu53 hn53 hu54 hn54 hu55 hn55 hu56 hn56 hu57 hn57 hu58 hn58 hu59 hn59 hu60 hn60 hu61 hn61 hu62 hn62 hu63 hn63 hu64 hn64 hu65 hn65 hu66 hn66 hu67 hn67 hu70 hn70 hu71 hn71 hu72 hn72 hu73 hn73 hu74 hn74 hu75 hn75 hu76 hn76 hu77 hn77 hu78 hn78 hu79 hn79 hu80 hn80 hu81 hn81 hu82 hn82 hu83 hn83 hu84 hn84 hu85 hn85 hu86 hn86 hu87 hn87 hu88 hn88 hu89 hn89 hu90 hn90 hu91 hn91 hu92 hn92 hu93 hn93;have hff:fit1 (endOf x p) (endOf y q)=true:=congrArg Bool.not hc94;have hnx2:=all_stepZ hal2 hzy hff;refine xZ (Qh (xN (reg (qq hS (Qmi rfl) (qq hS (g_add rfl rfl (by omega) (by omega)) (qq hS (Qai rfl) ?_))))));exact⟨k+1,_,rfl,⟨⟨rfl,rfl,rfl,rfl,trivial⟩,hS.sel [],by omega,hnx2⟩,by omega⟩
    ·
     intro hc16
     try simp only[zA,zO,zN,zI,zF,zM,zT,zU]at hc16
     obtain rfl:k=ls.length:=by omega
     have hrow:((zipLP ls ps).all fun y=>fit1 (endOf x p) (endOf y.l y.p))=true:=all_until fun j y hy=>by
      have h1:=(uc.1 hy).1;exact hal2 j y (by omega) hy
     have hnx:=all_stepZ hall hzx hrow;refine uD (uA (uA (Qw (Qh (xN (reg (qq hS (Qmi rfl) (qq hS (g_add rfl rfl (by omega) (by omega)) (qq hS (Qai rfl) ?_)))))))));exact⟨i+1,_,rfl,⟨⟨rfl,rfl,rfl,trivial⟩,hS.sel [],by omega,hnx⟩,by omega⟩
  ·
   intro hc10
   try simp only[zA,zO,zN,zI,zF,zM,zT,zU]at hc10
   obtain rfl:i=ls.length:=by omega
   have e:fitZ (zipLP ls ps)=true:=by
    unfold fitZ;exact all_until fun j y hy=>by
     have h1:=(uc.1 hy).1;exact hall j y (by omega) hy
   refine uD (uA (uA (Qw (xN (QwR (qq hS (Qab rfl) (QoN (ub (ret1 results66 (qr (v:=.bool _) rfl) ?_)))))))));exact⟨by rw[e] <;> rfl,hS.nil⟩
end Go.Proofs.YtcajgkfgjpfmaaaGreat
