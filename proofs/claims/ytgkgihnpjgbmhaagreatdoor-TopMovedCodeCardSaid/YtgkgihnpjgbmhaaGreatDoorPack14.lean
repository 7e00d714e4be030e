/- Package pack: numbers as bytes, their sum. Conditions: numbers within bounds. -/
import Derived.Test.YtgkgihnpjgbmhaaGreatDoorKE
import Derived.Test.YtgkgihnpjgbmhaaGreatDoorKPack
import Derived.Test.YtgkgihnpjgbmhaaGreatDoorKCore3
set_option linter.unusedSimpArgs false
set_option linter.unusedVariables false
namespace Go.Proofs.YtgkgihnpjgbmhaaGreatDoor
open Tryz
open Go Go.RowKit Go.Inl
theorem g_shri {P:Program}{n:Nat}{σ:Nat→Value}{S:World→Prop}{t t' ty:TypeId}{x y:Operand}{k':IntKind}{a b c:Int}{s:Nat}(hx:ev n σ x = .ig a)(hy:ev n σ y = .int k' b)(hb:b=(s:Int))(hs:s≤64)(ha:0≤a)(h:a / 2 ^ s=c):Gives P (ev n σ) S (.binOp .shr t x y t') ty (.ig c):=fun w _=>by
 subst h hb;have h1:¬(s:Int) < 0:=by omega
 have h2:min s (IntKind.i64.bits)=s:=Nat.min_eq_left hs;simp[execOp,hx,hy,Sem.run_bind,eqGuard,binOp,Op.shift,h1,h2,Result.andThen,Int.fdiv_eq_ediv_of_nonneg]
structure NumW where
 k:Nat
 cur:List Int
 a:Option Addr
 c:Nat
structure NumZ where
 j:Nat
 cur:List Int
 a:Option Addr
 c:Nat
structure LstW where
 k:Nat
 a:Option Addr
 c:Nat
 d:Option Addr
 e:Nat
set_option maxHeartbeats 1000000 in
theorem qX (wd wb : Nat) (ao : Option Addr) (a0 : Nat) (xs : List Int) (al : Option Addr) (cl : Nat) (l : List Int) (XX : List Nat) (w0 : World) (I0 : Imm) (hw : wd ≤ 4) (hl : RFl I0 1 intC (.sg al l.length cl) l) (hlb : ∀ n ∈ l, 0 ≤ n ∧ n ≤ 4294967296) (hx : xs.length + 4 * l.length ≤ 1000000) (hS0 : St XX w0 I0 I0 w0 [.row (.sg ao xs.length a0) 5 1 xs.length (flat byteC xs), .cel wb 102 [.sg ao xs.length a0]]) :
 Ctr prog 47 [.zg wb,.ig wd,.sg al l.length cl] w0 (fun v w'=>v = .tuple #[]∧∃a c,St XX w0 I0 I0 w' [.row (.slice a (xs++numsB wd l).length c) 5 1 (xs++numsB wd l).length (flat byteC (xs++numsB wd l)),.cel wb 102 [.slice a (xs++numsB wd l).length c]]):=by
 refine fn (n:=36) func47 rfl rfl rfl ?_;have Z:=hS0;refine QwR (qq Z (qb _) (qq Z (qo rfl uf hl rfl) (qq Z (Qmi rfl) (QoN (xU (loop (fun(x:NumW) σ w=>okS σ [(0,.zg wb),(1,.ig wd),(9,.sg al l.length cl),(10,.ig l.length),(11,.ig x.k)]∧St XX w0 I0 I0 w [.row (.sg x.a x.cur.length x.c) 5 1 x.cur.length (flat byteC x.cur),.cel wb 102 [.sg x.a x.cur.length x.c]]∧x.k≤l.length∧x.cur=xs++numsB wd (l.take x.k)∧x.cur.length+4*(l.length - x.k)≤1000000) (fun x=>l.length - x.k) (⟨0,xs,ao,a0⟩) ?_ ?_))))))
 ·
  exact⟨⟨rfl,rfl,rfl,rfl,rfl,trivial⟩,Z.sel [true,true],Nat.zero_le _,by simp[numsB],by dsimp only; omega⟩
 ·
  rintro⟨k,cur,a,c⟩σ w_l⟨hs,Z,hk0,hcur,hcl⟩;dsimp only at hs Z hk0 hcur hcl ⊢;rw[← qj hs]; clear hs
  refine QwR (qq Z (g_lss rfl rfl) (QoN (xJ (qh rfl ?_ ?_))))
  ·
   intro hc12
   try simp only[zA,zO,zN,zI,zF,zM,zT,zU]at hc12
   obtain⟨n,hni⟩:∃n,l[k]? = some n:=⟨_,xI (by omega)⟩
   have hnA:=hl.at hni;have hnb:=hlb n (xR hni);have hns:=numsB_succ wd hni;refine xM (xL (xJ (xU (QwR (qq Z (g_ixI uf xK hl rfl rfl (by omega) (by omega)) (qq Z (qt xW hnA rfl rfl) (qq Z (Qai rfl) (QoR (qq Z (Qmi rfl) (qq Z (g_sub rfl rfl (by omega) (by omega)) (qq Z (Qai rfl) (QoN (xU (loop (fun(z:NumZ) σ w=>okS σ [(0,.zg wb),(1,.ig wd),(7,.ig n),(8,.ig ((z.j:Int) - 1)),(9,.sg al l.length cl),(10,.ig l.length),(11,.ig k)]∧St XX w0 I0 I0 w [.row (.sg z.a z.cur.length z.c) 5 1 z.cur.length (flat byteC z.cur),.cel wb 102 [.sg z.a z.cur.length z.c]]∧z.j≤wd∧z.cur++numB z.j n=cur++numB wd n∧z.cur.length+z.j=cur.length+wd) (fun z=>z.j) (⟨wd,cur,a,c⟩) ?_ ?_))))))))))))))
   ·
    exact⟨⟨rfl,rfl,rfl,rfl,rfl,rfl,rfl,trivial⟩,Z.sel [true,true],uc _,rfl,rfl⟩
   ·
    rintro⟨j,cur2,a,c⟩σ w_l⟨hs,Z,hj0,he,hcl2⟩;dsimp only at hs Z hj0 he hcl2 ⊢;rw[← qj hs]; clear hs
    refine xJ (QwR (qq Z (Qmi rfl) (qq Z (g_geq rfl rfl) (QoN (qh rfl ?_ ?_)))))
    ·
     intro hc18
     try simp only[zA,zO,zN,zI,zF,zM,zT,zU]at hc18
     obtain⟨j',rfl⟩:∃j',j=j'+1:=⟨j - 1,by omega⟩
     have hcv:IntKind.u8.wrap (n / 2 ^ (8*j'))=n / 256 ^ j' % 256:=by rw[pow_8,IntKind.wrap_u8]
     refine xM (xL (xJ (xU (draw (.pg 0 (.pg 1 (.pg 2 (.pg 3 (.hg 4 (.pg 5 (.pg 6 (.pg 7 (.pg 8 (.pg 9 (.cons 10 .eff (.cons 11 .bar (.pg 12 (.pg 13 (.cons 14 .bar .nil))))))))))))))) mixed (by kernel_rfl) Z ?_))));intro w_1 Z;refine sp rfl (qb _) (sp rfl (qb _) (sp rfl (qm rfl) (sp rfl (qa (o':=0) QX rfl uI rfl rfl rfl) (sh rfl (qc 1 Qx rfl rfl rfl) (sp rfl (Qmi rfl) (sp rfl (Qmi rfl) (sp rfl (g_mul rfl rfl (by omega) (by omega)) (sp rfl (g_shri (s:=8*j') rfl rfl (by omega) (by omega) (by omega) rfl) (sp rfl (jI ut uA rfl hcv) ?_)))))))));have hS0:=Z;refine se rfl (d_lit (vs:=[.bg _]) (cs:=[.bg _]) Z xQ un QZ rfl rfl rfl rfl (fun v hv=>by simp only[xV,xY,or_false]at hv; subst hv; rfl) rfl) ?_;rintro _ w_2⟨b_2,rfl,Z⟩;refine⟨_,_,hS0.le (Sub.refl _) (uq _ _),Z,sb rfl (qB 1 0 Z rfl xQ QP rfl rfl rfl rfl rfl rfl rfl rfl (by omega) (by omega)) ?_⟩;rintro _ w_3⟨a32,p32,rfl,Z⟩;refine⟨_,_,Z,sp rfl (qm rfl) (sp rfl (qa (o':=0) QX rfl uI rfl rfl rfl) (sb rfl (qf 2 Z uI rfl rfl rfl (vs:=[.sg _ _ _]) rfl rfl rfl (xH rfl) (cs':=[_]) rfl) ?_))⟩;rintro _ w_4⟨rfl,Z⟩;refine⟨_,_,Z,sn (uM (xL (reg (qq Z (Qmi rfl) (qq Z (g_sub rfl rfl (by omega) (by omega)) (qq Z (Qai rfl) ?_))))))⟩;refine⟨⟨j',cur2++[n / 256 ^ j' % 256],a32,p32⟩,_,rfl,⟨⟨rfl,rfl,rfl,congrArg (Value.int .i64) (by dsimp only; omega),rfl,rfl,rfl,trivial⟩,?_,by dsimp only; omega,by dsimp only; rw[uh]; exact he,by dsimp only; rw[xN]; simp; omega⟩,by dsimp only; omega⟩;dsimp only;rw[ql,qS,xN];exact Z.sel [false,true,true]
    ·
     intro hc18
     try simp only[zA,zO,zN,zI,zF,zM,zT,zU]at hc18
     obtain rfl:j=0:=by omega
     have he2:cur2=xs++numsB wd (l.take (k+1)):=by
      rw[hns,← uh,← hcur,← he,numB,List.append_nil]
     refine ur (um (um (Qi (uM (xL (reg (qq Z (g_add rfl rfl (by omega) (by omega)) (qq Z (Qmi rfl) ?_))))))));exact⟨⟨k+1,cur2,a,c⟩,_,rfl,⟨⟨rfl,rfl,rfl,rfl,rfl,trivial⟩,Z.sel [true,true],by dsimp only; omega,he2,by dsimp only; omega⟩,by dsimp only; omega⟩
  ·
   intro hc12
   try simp only[zA,zO,zN,zI,zF,zM,zT,zU]at hc12
   obtain rfl:k=l.length:=by omega
   refine ur (um (um (Qi (end0 results47  ?_))));rw[uL]at hcur;subst hcur;exact⟨rfl,a,c,Z⟩
set_option maxHeartbeats 1000000 in
theorem sum14_c (ad : Option Addr) (cap n : Nat) (l : List Int) (w0 : World) (I0 : Imm) (hI : Sat I0 w0) (hl : RBytes I0 (.sg ad n cap) l) (hb : Byt l) (hn : n = l.length) :
 Ctr prog 48 [.sg ad n cap] w0 (fun v w'=>∃I' a c,v = .slice a (sumP l).length c∧Ext w0 I0 w' I'∧RBytes I' (.slice a (sumP l).length c) (sumP l)∧∀b,(Value.slice a (sumP l).length c).ownBlock=some b→w0.heap.size≤b):=by
 subst hn;have hll:=RSl.le hl;simp only[maxLen]at hll;refine fn (n:=35) func48 rfl rfl rfl ?_;have Z:=St.start hI;refine QwR (qq Z (qd _) (QoR (qq Z (Qai rfl) (qq Z (Qai rfl) (QoN (xJ (QwR (qq Z (qb _) (qq Z (qo rfl xQ hl rfl) (qq Z (Qmi rfl) (QoN (xU (loop (fun(k:Nat) σ w=>okS σ [(3,.ig (adl (l.take k)).1),(4,.ig (adl (l.take k)).2),(8,.sg ad l.length cap),(9,.ig l.length),(10,.ig k)]∧St [] w0 I0 I0 w []∧k≤l.length) (fun k=>l.length - k) (0) ?_ ?_)))))))))))))
 ·
  exact⟨⟨rfl,rfl,rfl,rfl,rfl,trivial⟩,Z.sel [],by omega⟩
 ·
  rintro k σ w_l⟨hs,Z,hk0⟩;rw[← qj hs]; clear hs
  refine QwR (qq Z (g_lss rfl rfl) (QoN (xJ (qh rfl ?_ ?_))))
  ·
   intro hc11
   try simp only[zA,zO,zN,zI,zF,zM,zT,zU]at hc11
   obtain⟨x,hxi⟩:∃x,l[k]? = some x:=⟨_,xI (by omega)⟩
   have hxA:=hl.at hxi;have hxb:=hb x (xR hxi);have hsn:=adl_succ hxi;obtain⟨s1,s2,s3,s4⟩:=adl_bd (l.take k);refine xM (xL (xJ (xU (QwR (qq Z (g_ixI xQ un hl rfl rfl (by omega) (by omega)) (qq Z (qt uZ hxA rfl rfl) (qq Z (qv (v:=.bg _) rfl) (QoR (qq Z (Qmi rfl) (qq Z (qx (v:=.bg _) rfl) (qq Z (qK uA ut rfl (by omega) (by omega)) (qq Z (g_add rfl rfl (by omega) (by omega)) (qq Z (g_rem rfl rfl (by omega) (by decide)) ?_)))))))))))));refine qq Z (Qai rfl) (QoN (reg (qq Z (Qmi rfl) (qq Z (Qmi rfl) (qq Z (g_add rfl rfl (by omega) (by omega)) (qq Z (g_rem rfl rfl (by omega) (by decide)) (qq Z (Qai rfl) (qy (uM (xL (reg (qq Z (g_add rfl rfl (by omega) (by omega)) (qq Z (Qmi rfl) (⟨k+1,_,rfl,⟨⟨?_,?_,rfl,rfl,rfl,trivial⟩,Z.sel [],by omega⟩,by omega⟩))))))))))))))
   · rw[hsn]; rfl
   · rw[hsn]; rfl
  ·
   intro hc11
   try simp only[zA,zO,zN,zI,zF,zM,zT,zU]at hc11
   obtain rfl:k=l.length:=by omega
   rw[uL]at *;obtain⟨s1,s2,s3,s4⟩:=adl_bd l;refine ur (um (um (Qi (xL (QwR (qq Z (qs (pl:=[(0,1)]) (cs:=[.sg _ _ _]) Kg QX (fun w=>by simp[uI]) mp0 rfl) (qe (d_box (cs:=[.sg _ _ _]) Z rfl) ?_)))))));clear Z;rintro _ w_1⟨wb,rfl,Z⟩;refine qq Z (qd _) (QoR (qq Z (qb _) (qq Z (Qmi rfl) (qq Z (Qmi rfl) ?_))));refine qe (d_lit (vs:=[.ig _,.ig _]) (cs:=[.ig _,.ig _]) Z uf xK Qe rfl rfl rfl rfl (fun v hv=>by simp only[xV,xY,or_false]at hv; rcases hv with rfl | rfl <;> rfl) rfl) ?_;clear Z;rintro _ w_2⟨b29,rfl,Z⟩;have hF:=Z.freeze1;clear Z;obtain⟨I29,Z,hI29,hb29⟩:=hF;have h29:=RFl.ofAt qM ([(adl l).2,(adl l).1]:List Int) hb29 rfl (by show 2≤maxLen; decide);replace Z:=Z.nilRow 5 1;have hS_o:St _ _ _ _ _ [_,_]:=Z.ord [0,1];replace Z:=hS_o;clear hS_o;refine qe (qi Jh rfl (qX 2 wb _ _ [] _ _ _ _ _ _ (by decide) h29 (fun n hn=>by simp only[xV,xY,or_false]at hn; omega) (by simp only[xN,qI,List.length_cons,List.length_nil]; omega) (St.ownL Z))) ?_;rintro _ w_3⟨rfl,a30,c30,hE⟩;replace Z:=St.callL Z hE;refine QoN (xJ ?_);have hF:=St.freezeRowI (u:=.slice a30 ([]++numsB 2 [(adl l).2,(adl l).1]).length c30) (m:=(([]++numsB 2 [(adl l).2,(adl l).1])).length) (xs:=flat byteC (([]++numsB 2 [(adl l).2,(adl l).1]))) (E:=5) (sz:=1) (by skip; exact Z.ord [0,1]);clear Z;obtain⟨I_hfz,Z,hI_hfz,hRI,hnw⟩:=hF;have hfz:=RowI.flat qA hRI (rfl);replace h29:=h29.mono hI_hfz;refine reg (qq Z (qb _) (qq Z (qm rfl) (qq Z (qa (o':=0) QX rfl uI rfl rfl rfl) (qq Z (qc 0 Qx rfl rfl rfl) (qq Z (qd _) (QoN (xO (ret1 results48 (qg rfl) ?_))))))))
   rw[show sumP l=[]++numsB 2 [(adl l).2,(adl l).1] from rfl];exact⟨_,a30,c30,rfl,Z.nil,hfz,fun b hb=>(hnw b hb).2⟩
set_option maxHeartbeats 2000000 in
theorem plist_c (p : PatL) (ad : Option Addr) (m cap : Nat) (w0 : World) (I0 : Imm) (hI : Sat I0 w0) (hops : ROps I0 (.sg ad m cap) p.ops) (hg : ∀ x ∈ p.ops, OpG x) (hn : p.ops.length ≤ 4096) (hd0 : (dtP p.ops).length ≤ 65536) :
 Ctr prog 45 [.agg #[.bool p.lifted,.ig p.in_,.ig p.out,.sg ad m cap]] w0 (fun v w'=>∃I' a c d e,v = .tuple #[.slice a (lsP p.ops).length c,.slice d (dtP p.ops).length e]∧Ext w0 I0 w' I'∧RBytes I' (.slice a (lsP p.ops).length c) (lsP p.ops)∧RBytes I' (.slice d (dtP p.ops).length e) (dtP p.ops)):=by
 refine fn (n:=62) func45 rfl rfl rfl ?_;have Z:=St.start hI;refine QwR (qe (d_box (cs:=[.bool _,.ig _,.ig _,.sg _ _ _]) Z rfl) ?_);clear Z;rintro _ w_1⟨b1,rfl,Z⟩;refine qq Z (qd _) (qq Z (qd _) (QoR (qq Z (qd _) (QoR (qq Z (qs (pl:=[(0,1)]) (cs:=[.sg _ _ _]) Kg QX (fun w=>by simp[uI]) mp0 rfl) (qe (d_box (cs:=[.sg _ _ _]) Z rfl) ?_))))));clear Z;rintro _ w_2⟨wb,rfl,Z⟩;refine qq Z (qd _) (QoN (xJ (QwR (qq Z (qa (o':=3) uk rfl Qm rfl rfl rfl) (qq Z (qc 1 Jo rfl rfl rfl) (qq Z (qo rfl Qn hops rfl) (qq Z (Qmi rfl) (QoN (xU (loop (fun(x:LstW) σ w=>okS σ [(4,.slice x.d (dtP (p.ops.take x.k)).length x.e),(5,.zg wb),(11,.sg ad m cap),(12,.ig p.ops.length),(13,.ig x.k)]∧∃I,St [] w0 I0 I w [.row (.slice x.a (lsP (p.ops.take x.k)).length x.c) 5 1 (lsP (p.ops.take x.k)).length (flat byteC (lsP (p.ops.take x.k))),.cel wb 102 [.slice x.a (lsP (p.ops.take x.k)).length x.c],.row (.slice x.d (dtP (p.ops.take x.k)).length x.e) 5 1 (dtP (p.ops.take x.k)).length (flat byteC (dtP (p.ops.take x.k)))]∧x.k≤p.ops.length∧ROps I (.sg ad m cap) p.ops) (fun x=>p.ops.length - x.k) (⟨0,none,0,none,0⟩) ?_ ?_))))))))))
 ·
  exact⟨⟨rfl,rfl,rfl,rfl,rfl,trivial⟩,_,(((Z.sel [true,false]).nilRow 5 1).nilRow 5 1).ord [0,2,1],Nat.zero_le _,hops⟩
 ·
  rintro⟨k,a,c,d,e⟩σ w_l⟨hs,I,Z,hk0,hops⟩;dsimp only at hs Z hk0 hops ⊢;rw[← qj hs]; clear hs
  refine QwR (qq Z (g_lss rfl rfl) (QoN (xJ (qh rfl ?_ ?_))))
  ·
   intro hc14
   try simp only[zA,zO,zN,zI,zF,zM,zT,zU]at hc14
   obtain⟨x,hx⟩:∃x,p.ops[k]? = some x:=⟨_,xI (by omega)⟩
   obtain⟨⟨g1,g2⟩,⟨g3,g4⟩,⟨g5,g6⟩,⟨g7,g8⟩,g9,g10⟩:=hg x (xR hx);obtain⟨cs,hcl,hoA,hro⟩:=RSl.at hops hx;obtain⟨adx,mx,capx,rfl,hd⟩:=hro;obtain⟨ad2,cap2,hv2⟩:=RSl.sl hd;obtain⟨rfl,rfl,rfl⟩:adx=ad2∧mx=x.data.length∧capx=cap2:=by injection hv2 with h1 h2 h3; exact⟨h1,h2,h3⟩
   have hl1:=lsP_le (p.ops.take k);rw[uo]at hl1;have hl2:=dtP_take p.ops (k+1);have hds:=dtP_succ hx;have hls:=lsP_succ hx;have hdl:=congrArg List.length hds;rw[xN]at hdl;refine xM (xL (xJ (xU (QwR (qq Z (g_ixI Qn uz hops rfl rfl (by omega) (by omega)) (qq Z (g_ldE (us:=[.ig _,.ig _,.ig _,.bg _,.sg _ _ _]) uz Qo hoA rfl rfl rfl) (qe (qr (cs:=[.ig _,.ig _,.ig _,.bg _,.sg _ _ _]) Z QE rfl) ?_)))))));clear Z;rintro _ w_3⟨b7,rfl,Z⟩;refine qe (qf 0 Z uz rfl rfl rfl (vs:=[.ig _,.ig _,.ig _,.bg _,.sg _ _ _]) rfl rfl rfl (xH rfl) (cs':=[_,_,_,_,_]) rfl) ?_;clear Z;rintro _ w_4⟨rfl,Z⟩;refine QoR (qq Z (qb _) (qq Z (qa (o':=0) uj rfl xK rfl rfl rfl) (qq Z (qc 0 xW rfl rfl rfl) ?_)));refine qe (d_lit (vs:=[.ig _]) (cs:=[.ig _]) Z uf xK Qe rfl rfl rfl rfl (fun v hv=>by simp only[xV,xY,or_false]at hv; subst hv; rfl) rfl) ?_;clear Z;rintro _ w_5⟨b20,rfl,Z⟩;have hF:=Z.freeze1;clear Z;obtain⟨I20,Z,hI20,hb20⟩:=hF;replace hops:=hops.mono hI20;replace hd:=hd.mono hI20;have h20:=RFl.ofAt qM ([x.kind]:List Int) hb20 rfl (by show 1≤maxLen; decide);have hS_o:St _ _ _ _ _ [_,_,_,_]:=Z.ord [1,2,0,3];replace Z:=hS_o;clear hS_o;refine qe (qi Jh rfl (qX 1 wb _ _ _ _ _ _ _ _ _ (by decide) h20 (fun n hn=>by simp only[xV,xY,or_false]at hn; omega) (by simp only[xN,qI,List.length_cons,List.length_nil]; omega) (St.ownL Z))) ?_;rintro _ w_6⟨rfl,a21,c21,hE⟩;replace Z:=St.callL Z hE;refine QoN (xJ (QwR (qq Z (qa (o':=0) uj rfl xK rfl rfl rfl) (qq Z (qc 2 xW rfl rfl rfl) (QoN (xU (xJ (QwR (qq Z (g_eql rfl rfl) (qq Z (Qab rfl) (QoN (qh rfl ?_ ?_))))))))))))
   ·
    intro hc29
    try simp only[zA,zO,zN,zI,zF,zM,zT,zU]at hc29
    refine xM (xL (qh rfl ?_ ?_))
    ·
     intro hc29_2
     try simp only[zA,zO,zN,zI,zF,zM,zT,zU]at hc29_2
     refine reg (qq Z (qb _) (qq Z (qa (o':=1) uj rfl xK rfl rfl rfl) (qq Z (qc 2 xW rfl rfl rfl) (qq Z (qa (o':=2) uj rfl xK rfl rfl rfl) (qq Z (qc 2 xW rfl rfl rfl) ?_)))));refine qe (d_lit (vs:=[.ig _,.ig _]) (cs:=[.ig _,.ig _]) Z uf xK Qe rfl rfl rfl rfl (fun v hv=>by simp only[xV,xY,or_false]at hv; rcases hv with rfl | rfl <;> rfl) rfl) ?_;clear Z;rintro _ w_7⟨b37,rfl,Z⟩;have hF:=Z.freeze1;clear Z;obtain⟨I37,Z,hI37,hb37⟩:=hF;replace hops:=hops.mono hI37;replace hd:=hd.mono hI37;replace h20:=h20.mono hI37;have h37:=RFl.ofAt qM ([x.from_,x.len]:List Int) hb37 rfl (by show 2≤maxLen; decide);have hS_o:St _ _ _ _ _ [_,_,_,_]:=Z.ord [0,1,2,3];replace Z:=hS_o;clear hS_o;refine qe (qi Jh rfl (qX 3 wb _ _ _ _ _ _ _ _ _ (by decide) h37 (fun n hn=>by simp only[xV,xY,or_false]at hn; omega) (by simp only[xN,qI,List.length_cons,List.length_nil]; omega) (St.ownL Z))) ?_;rintro _ w_8⟨rfl,a38,c38,hE⟩;replace Z:=St.callL Z hE;refine qy (uM (xL (reg (qq Z (qb _) (qq Z (qa (o':=4) uj rfl uI rfl rfl rfl) (qq Z (qc 2 Qx rfl rfl rfl) (qe (qO 3 Z rfl xQ QP rfl rfl rfl rfl qA (fun _=>rfl) hd rfl (by omega) (by omega)) ?_)))))));clear Z;rintro _ w_9⟨a55,p55,rfl,Z⟩;refine qq Z (qd _) (qy (uM (xL (reg (qq Z (g_add rfl rfl (by omega) (by omega)) (qq Z (Qmi rfl) ?_))))))
     first
      | (have h2:lsP (p.ops.take (k+1))=lsP (p.ops.take k)++numsB 1 [x.kind]++numsB 3 [x.from_,x.len]:=by
          rw[hls]; unfold opB; rw[xS (by omega)]; simp only[uh]
         rw[← h2,← ql,← xN,← hds]at Z;exact⟨⟨k+1,_,_,_,_⟩,_,rfl,⟨⟨(by dsimp only; rw[hdl]; rfl),rfl,rfl,rfl,rfl,trivial⟩,_,Z.sel [true,true,false,true],by dsimp only; omega,hops⟩,by dsimp only; omega⟩)
      | (have h2:lsP (p.ops.take (k+1))=lsP (p.ops.take k)++numsB 1 [x.kind]++numsB 3 [x.len]++numsB 1 [x.b]:=by
          rw[hls]; unfold opB; rw[xP (by omega),xS (by omega)]; simp only[uh]
         rw[← h2,← ql,← xN,← hds]at Z;exact⟨⟨k+1,_,_,_,_⟩,_,rfl,⟨⟨(by dsimp only; rw[hdl]; rfl),rfl,rfl,rfl,rfl,trivial⟩,_,Z.sel [true,true,false,true],by dsimp only; omega,hops⟩,by dsimp only; omega⟩)
      | (have h2:lsP (p.ops.take (k+1))=lsP (p.ops.take k)++numsB 1 [x.kind]++numsB 3 [x.len]:=by
          rw[hls]; unfold opB; rw[xP (by omega),xP (by omega)]; simp only[uh]
         rw[← h2,← ql,← xN,← hds]at Z;exact⟨⟨k+1,_,_,_,_⟩,_,rfl,⟨⟨(by dsimp only; rw[hdl]; rfl),rfl,rfl,rfl,rfl,trivial⟩,_,Z.sel [true,true,false,true],by dsimp only; omega,hops⟩,by dsimp only; omega⟩)
    ·
     intro hc29_2
     try simp only[zA,zO,zN,zI,zF,zM,zT,zU]at hc29_2
     refine QwR (qq Z (g_eql rfl rfl) (qq Z (Qab rfl) (QoN (qh rfl ?_ ?_))))
     ·
      intro hc39
      try simp only[zA,zO,zN,zI,zF,zM,zT,zU]at hc39
      refine QwR (qq Z (qb _) (qq Z (qa (o':=2) uj rfl xK rfl rfl rfl) (qq Z (qc 2 xW rfl rfl rfl) ?_)));refine qe (d_lit (vs:=[.ig _]) (cs:=[.ig _]) Z uf xK Qe rfl rfl rfl rfl (fun v hv=>by simp only[xV,xY,or_false]at hv; subst hv; rfl) rfl) ?_;clear Z;rintro _ w_10⟨b44,rfl,Z⟩;have hF:=Z.freeze1;clear Z;obtain⟨I44,Z,hI44,hb44⟩:=hF;replace hops:=hops.mono hI44;replace hd:=hd.mono hI44;replace h20:=h20.mono hI44;have h44:=RFl.ofAt qM ([x.len]:List Int) hb44 rfl (by show 1≤maxLen; decide);have hS_o:St _ _ _ _ _ [_,_,_,_]:=Z.ord [0,1,2,3];replace Z:=hS_o;clear hS_o;refine qe (qi Jh rfl (qX 3 wb _ _ _ _ _ _ _ _ _ (by decide) h44 (fun n hn=>by simp only[xV,xY,or_false]at hn; omega) (by simp only[xN,qI,List.length_cons,List.length_nil]; omega) (St.ownL Z))) ?_;rintro _ w_11⟨rfl,a45,c45,hE⟩;replace Z:=St.callL Z hE;refine QoN (reg (qq Z (qb _) (qq Z (qa (o':=3) uj rfl un rfl rfl rfl) (qq Z (qc 2 uZ rfl rfl rfl) (qq Z (qK uA ut rfl (by omega) (by omega)) ?_)))));refine qe (d_lit (vs:=[.ig _]) (cs:=[.ig _]) Z uf xK Qe rfl rfl rfl rfl (fun v hv=>by simp only[xV,xY,or_false]at hv; subst hv; rfl) rfl) ?_;clear Z;rintro _ w_12⟨b50,rfl,Z⟩;have hF:=Z.freeze1;clear Z;obtain⟨I50,Z,hI50,hb50⟩:=hF;replace hops:=hops.mono hI50;replace hd:=hd.mono hI50;replace h20:=h20.mono hI50;replace h44:=h44.mono hI50;have h50:=RFl.ofAt qM ([x.b]:List Int) hb50 rfl (by show 1≤maxLen; decide);have hS_o:St _ _ _ _ _ [_,_,_,_]:=Z.ord [0,1,2,3];replace Z:=hS_o;clear hS_o;refine qe (qi Jh rfl (qX 1 wb _ _ _ _ _ _ _ _ _ (by decide) h50 (fun n hn=>by simp only[xV,xY,or_false]at hn; omega) (by simp only[xN,qI,List.length_cons,List.length_nil]; omega) (St.ownL Z))) ?_
      rintro _ w_13⟨rfl,a51,c51,hE⟩;replace Z:=St.callL Z hE;refine qy (uM (xL (reg (qq Z (qb _) (qq Z (qa (o':=4) uj rfl uI rfl rfl rfl) (qq Z (qc 2 Qx rfl rfl rfl) (qe (qO 3 Z rfl xQ QP rfl rfl rfl rfl qA (fun _=>rfl) hd rfl (by omega) (by omega)) ?_)))))));clear Z;rintro _ w_14⟨a55,p55,rfl,Z⟩;refine qq Z (qd _) (qy (uM (xL (reg (qq Z (g_add rfl rfl (by omega) (by omega)) (qq Z (Qmi rfl) ?_))))))
      first
       | (have h2:lsP (p.ops.take (k+1))=lsP (p.ops.take k)++numsB 1 [x.kind]++numsB 3 [x.from_,x.len]:=by
           rw[hls]; unfold opB; rw[xS (by omega)]; simp only[uh]
          rw[← h2,← ql,← xN,← hds]at Z;exact⟨⟨k+1,_,_,_,_⟩,_,rfl,⟨⟨(by dsimp only; rw[hdl]; rfl),rfl,rfl,rfl,rfl,trivial⟩,_,Z.sel [true,true,false,true],by dsimp only; omega,hops⟩,by dsimp only; omega⟩)
       | (have h2:lsP (p.ops.take (k+1))=lsP (p.ops.take k)++numsB 1 [x.kind]++numsB 3 [x.len]++numsB 1 [x.b]:=by
           rw[hls]; unfold opB; rw[xP (by omega),xS (by omega)]; simp only[uh]
          rw[← h2,← ql,← xN,← hds]at Z;exact⟨⟨k+1,_,_,_,_⟩,_,rfl,⟨⟨(by dsimp only; rw[hdl]; rfl),rfl,rfl,rfl,rfl,trivial⟩,_,Z.sel [true,true,false,true],by dsimp only; omega,hops⟩,by dsimp only; omega⟩)
       | (have h2:lsP (p.ops.take (k+1))=lsP (p.ops.take k)++numsB 1 [x.kind]++numsB 3 [x.len]:=by
           rw[hls]; unfold opB; rw[xP (by omega),xP (by omega)]; simp only[uh]
          rw[← h2,← ql,← xN,← hds]at Z;exact⟨⟨k+1,_,_,_,_⟩,_,rfl,⟨⟨(by dsimp only; rw[hdl]; rfl),rfl,rfl,rfl,rfl,trivial⟩,_,Z.sel [true,true,false,true],by dsimp only; omega,hops⟩,by dsimp only; omega⟩)
     ·
      intro hc39
      try simp only[zA,zO,zN,zI,zF,zM,zT,zU]at hc39
      refine reg (qq Z (qb _) (qq Z (qa (o':=2) uj rfl xK rfl rfl rfl) (qq Z (qc 2 xW rfl rfl rfl) ?_)));refine qe (d_lit (vs:=[.ig _]) (cs:=[.ig _]) Z uf xK Qe rfl rfl rfl rfl (fun v hv=>by simp only[xV,xY,or_false]at hv; subst hv; rfl) rfl) ?_;clear Z;rintro _ w_15⟨b27,rfl,Z⟩;have hF:=Z.freeze1;clear Z;obtain⟨I27,Z,hI27,hb27⟩:=hF;replace hops:=hops.mono hI27;replace hd:=hd.mono hI27;replace h20:=h20.mono hI27;have h27:=RFl.ofAt qM ([x.len]:List Int) hb27 rfl (by show 1≤maxLen; decide);have hS_o:St _ _ _ _ _ [_,_,_,_]:=Z.ord [0,1,2,3];replace Z:=hS_o;clear hS_o;refine qe (qi Jh rfl (qX 3 wb _ _ _ _ _ _ _ _ _ (by decide) h27 (fun n hn=>by simp only[xV,xY,or_false]at hn; omega) (by simp only[xN,qI,List.length_cons,List.length_nil]; omega) (St.ownL Z))) ?_;rintro _ w_16⟨rfl,a28,c28,hE⟩;replace Z:=St.callL Z hE;refine qy (uM (xL (reg (qq Z (qb _) (qq Z (qa (o':=4) uj rfl uI rfl rfl rfl) (qq Z (qc 2 Qx rfl rfl rfl) (qe (qO 3 Z rfl xQ QP rfl rfl rfl rfl qA (fun _=>rfl) hd rfl (by omega) (by omega)) ?_)))))));clear Z;rintro _ w_17⟨a55,p55,rfl,Z⟩;refine qq Z (qd _) (qy (uM (xL (reg (qq Z (g_add rfl rfl (by omega) (by omega)) (qq Z (Qmi rfl) ?_))))))
      first
       | (have h2:lsP (p.ops.take (k+1))=lsP (p.ops.take k)++numsB 1 [x.kind]++numsB 3 [x.from_,x.len]:=by
           rw[hls]; unfold opB; rw[xS (by omega)]; simp only[uh]
          rw[← h2,← ql,← xN,← hds]at Z;exact⟨⟨k+1,_,_,_,_⟩,_,rfl,⟨⟨(by dsimp only; rw[hdl]; rfl),rfl,rfl,rfl,rfl,trivial⟩,_,Z.sel [true,true,false,true],by dsimp only; omega,hops⟩,by dsimp only; omega⟩)
       | (have h2:lsP (p.ops.take (k+1))=lsP (p.ops.take k)++numsB 1 [x.kind]++numsB 3 [x.len]++numsB 1 [x.b]:=by
           rw[hls]; unfold opB; rw[xP (by omega),xS (by omega)]; simp only[uh]
          rw[← h2,← ql,← xN,← hds]at Z;exact⟨⟨k+1,_,_,_,_⟩,_,rfl,⟨⟨(by dsimp only; rw[hdl]; rfl),rfl,rfl,rfl,rfl,trivial⟩,_,Z.sel [true,true,false,true],by dsimp only; omega,hops⟩,by dsimp only; omega⟩)
       | (have h2:lsP (p.ops.take (k+1))=lsP (p.ops.take k)++numsB 1 [x.kind]++numsB 3 [x.len]:=by
           rw[hls]; unfold opB; rw[xP (by omega),xP (by omega)]; simp only[uh]
          rw[← h2,← ql,← xN,← hds]at Z;exact⟨⟨k+1,_,_,_,_⟩,_,rfl,⟨⟨(by dsimp only; rw[hdl]; rfl),rfl,rfl,rfl,rfl,trivial⟩,_,Z.sel [true,true,false,true],by dsimp only; omega,hops⟩,by dsimp only; omega⟩)
   ·
    intro hc29
    try simp only[zA,zO,zN,zI,zF,zM,zT,zU]at hc29
    refine reg (qq Z (g_eql rfl rfl) (qq Z (Qab rfl) (QoN (qh rfl ?_ ?_))))
    ·
     intro hc29_2
     try simp only[zA,zO,zN,zI,zF,zM,zT,zU]at hc29_2
     refine reg (qq Z (qb _) (qq Z (qa (o':=1) uj rfl xK rfl rfl rfl) (qq Z (qc 2 xW rfl rfl rfl) (qq Z (qa (o':=2) uj rfl xK rfl rfl rfl) (qq Z (qc 2 xW rfl rfl rfl) ?_)))));refine qe (d_lit (vs:=[.ig _,.ig _]) (cs:=[.ig _,.ig _]) Z uf xK Qe rfl rfl rfl rfl (fun v hv=>by simp only[xV,xY,or_false]at hv; rcases hv with rfl | rfl <;> rfl) rfl) ?_;clear Z;rintro _ w_18⟨b37,rfl,Z⟩;have hF:=Z.freeze1;clear Z;obtain⟨I37,Z,hI37,hb37⟩:=hF;replace hops:=hops.mono hI37;replace hd:=hd.mono hI37;replace h20:=h20.mono hI37;have h37:=RFl.ofAt qM ([x.from_,x.len]:List Int) hb37 rfl (by show 2≤maxLen; decide);have hS_o:St _ _ _ _ _ [_,_,_,_]:=Z.ord [0,1,2,3];replace Z:=hS_o;clear hS_o;refine qe (qi Jh rfl (qX 3 wb _ _ _ _ _ _ _ _ _ (by decide) h37 (fun n hn=>by simp only[xV,xY,or_false]at hn; omega) (by simp only[xN,qI,List.length_cons,List.length_nil]; omega) (St.ownL Z))) ?_;rintro _ w_19⟨rfl,a38,c38,hE⟩;replace Z:=St.callL Z hE;refine qy (uM (xL (reg (qq Z (qb _) (qq Z (qa (o':=4) uj rfl uI rfl rfl rfl) (qq Z (qc 2 Qx rfl rfl rfl) (qe (qO 3 Z rfl xQ QP rfl rfl rfl rfl qA (fun _=>rfl) hd rfl (by omega) (by omega)) ?_)))))));clear Z;rintro _ w_20⟨a55,p55,rfl,Z⟩;refine qq Z (qd _) (qy (uM (xL (reg (qq Z (g_add rfl rfl (by omega) (by omega)) (qq Z (Qmi rfl) ?_))))))
     first
      | (have h2:lsP (p.ops.take (k+1))=lsP (p.ops.take k)++numsB 1 [x.kind]++numsB 3 [x.from_,x.len]:=by
          rw[hls]; unfold opB; rw[xS (by omega)]; simp only[uh]
         rw[← h2,← ql,← xN,← hds]at Z;exact⟨⟨k+1,_,_,_,_⟩,_,rfl,⟨⟨(by dsimp only; rw[hdl]; rfl),rfl,rfl,rfl,rfl,trivial⟩,_,Z.sel [true,true,false,true],by dsimp only; omega,hops⟩,by dsimp only; omega⟩)
      | (have h2:lsP (p.ops.take (k+1))=lsP (p.ops.take k)++numsB 1 [x.kind]++numsB 3 [x.len]++numsB 1 [x.b]:=by
          rw[hls]; unfold opB; rw[xP (by omega),xS (by omega)]; simp only[uh]
         rw[← h2,← ql,← xN,← hds]at Z;exact⟨⟨k+1,_,_,_,_⟩,_,rfl,⟨⟨(by dsimp only; rw[hdl]; rfl),rfl,rfl,rfl,rfl,trivial⟩,_,Z.sel [true,true,false,true],by dsimp only; omega,hops⟩,by dsimp only; omega⟩)
      | (have h2:lsP (p.ops.take (k+1))=lsP (p.ops.take k)++numsB 1 [x.kind]++numsB 3 [x.len]:=by
          rw[hls]; unfold opB; rw[xP (by omega),xP (by omega)]; simp only[uh]
         rw[← h2,← ql,← xN,← hds]at Z;exact⟨⟨k+1,_,_,_,_⟩,_,rfl,⟨⟨(by dsimp only; rw[hdl]; rfl),rfl,rfl,rfl,rfl,trivial⟩,_,Z.sel [true,true,false,true],by dsimp only; omega,hops⟩,by dsimp only; omega⟩)
    ·
     intro hc29_2
     try simp only[zA,zO,zN,zI,zF,zM,zT,zU]at hc29_2
     refine QwR (qq Z (g_eql rfl rfl) (qq Z (Qab rfl) (QoN (qh rfl ?_ ?_))))
     ·
      intro hc39
      try simp only[zA,zO,zN,zI,zF,zM,zT,zU]at hc39
      refine QwR (qq Z (qb _) (qq Z (qa (o':=2) uj rfl xK rfl rfl rfl) (qq Z (qc 2 xW rfl rfl rfl) ?_)));refine qe (d_lit (vs:=[.ig _]) (cs:=[.ig _]) Z uf xK Qe rfl rfl rfl rfl (fun v hv=>by simp only[xV,xY,or_false]at hv; subst hv; rfl) rfl) ?_;clear Z;rintro _ w_21⟨b44,rfl,Z⟩;have hF:=Z.freeze1;clear Z;obtain⟨I44,Z,hI44,hb44⟩:=hF;replace hops:=hops.mono hI44;replace hd:=hd.mono hI44;replace h20:=h20.mono hI44;have h44:=RFl.ofAt qM ([x.len]:List Int) hb44 rfl (by show 1≤maxLen; decide);have hS_o:St _ _ _ _ _ [_,_,_,_]:=Z.ord [0,1,2,3];replace Z:=hS_o;clear hS_o;refine qe (qi Jh rfl (qX 3 wb _ _ _ _ _ _ _ _ _ (by decide) h44 (fun n hn=>by simp only[xV,xY,or_false]at hn; omega) (by simp only[xN,qI,List.length_cons,List.length_nil]; omega) (St.ownL Z))) ?_;rintro _ w_22⟨rfl,a45,c45,hE⟩;replace Z:=St.callL Z hE;refine QoN (reg (qq Z (qb _) (qq Z (qa (o':=3) uj rfl un rfl rfl rfl) (qq Z (qc 2 uZ rfl rfl rfl) (qq Z (qK uA ut rfl (by omega) (by omega)) ?_)))));refine qe (d_lit (vs:=[.ig _]) (cs:=[.ig _]) Z uf xK Qe rfl rfl rfl rfl (fun v hv=>by simp only[xV,xY,or_false]at hv; subst hv; rfl) rfl) ?_;clear Z;rintro _ w_23⟨b50,rfl,Z⟩;have hF:=Z.freeze1;clear Z;obtain⟨I50,Z,hI50,hb50⟩:=hF;replace hops:=hops.mono hI50;replace hd:=hd.mono hI50;replace h20:=h20.mono hI50;replace h44:=h44.mono hI50;have h50:=RFl.ofAt qM ([x.b]:List Int) hb50 rfl (by show 1≤maxLen; decide);have hS_o:St _ _ _ _ _ [_,_,_,_]:=Z.ord [0,1,2,3];replace Z:=hS_o;clear hS_o;refine qe (qi Jh rfl (qX 1 wb _ _ _ _ _ _ _ _ _ (by decide) h50 (fun n hn=>by simp only[xV,xY,or_false]at hn; omega) (by simp only[xN,qI,List.length_cons,List.length_nil]; omega) (St.ownL Z))) ?_
      rintro _ w_24⟨rfl,a51,c51,hE⟩;replace Z:=St.callL Z hE;refine qy (uM (xL (reg (qq Z (qb _) (qq Z (qa (o':=4) uj rfl uI rfl rfl rfl) (qq Z (qc 2 Qx rfl rfl rfl) (qe (qO 3 Z rfl xQ QP rfl rfl rfl rfl qA (fun _=>rfl) hd rfl (by omega) (by omega)) ?_)))))));clear Z;rintro _ w_25⟨a55,p55,rfl,Z⟩;refine qq Z (qd _) (qy (uM (xL (reg (qq Z (g_add rfl rfl (by omega) (by omega)) (qq Z (Qmi rfl) ?_))))))
      first
       | (have h2:lsP (p.ops.take (k+1))=lsP (p.ops.take k)++numsB 1 [x.kind]++numsB 3 [x.from_,x.len]:=by
           rw[hls]; unfold opB; rw[xS (by omega)]; simp only[uh]
          rw[← h2,← ql,← xN,← hds]at Z;exact⟨⟨k+1,_,_,_,_⟩,_,rfl,⟨⟨(by dsimp only; rw[hdl]; rfl),rfl,rfl,rfl,rfl,trivial⟩,_,Z.sel [true,true,false,true],by dsimp only; omega,hops⟩,by dsimp only; omega⟩)
       | (have h2:lsP (p.ops.take (k+1))=lsP (p.ops.take k)++numsB 1 [x.kind]++numsB 3 [x.len]++numsB 1 [x.b]:=by
           rw[hls]; unfold opB; rw[xP (by omega),xS (by omega)]; simp only[uh]
          rw[← h2,← ql,← xN,← hds]at Z;exact⟨⟨k+1,_,_,_,_⟩,_,rfl,⟨⟨(by dsimp only; rw[hdl]; rfl),rfl,rfl,rfl,rfl,trivial⟩,_,Z.sel [true,true,false,true],by dsimp only; omega,hops⟩,by dsimp only; omega⟩)
       | (have h2:lsP (p.ops.take (k+1))=lsP (p.ops.take k)++numsB 1 [x.kind]++numsB 3 [x.len]:=by
           rw[hls]; unfold opB; rw[xP (by omega),xP (by omega)]; simp only[uh]
          rw[← h2,← ql,← xN,← hds]at Z;exact⟨⟨k+1,_,_,_,_⟩,_,rfl,⟨⟨(by dsimp only; rw[hdl]; rfl),rfl,rfl,rfl,rfl,trivial⟩,_,Z.sel [true,true,false,true],by dsimp only; omega,hops⟩,by dsimp only; omega⟩)
     ·
      intro hc39
      try simp only[zA,zO,zN,zI,zF,zM,zT,zU]at hc39
      refine reg (qq Z (qb _) (qq Z (qa (o':=2) uj rfl xK rfl rfl rfl) (qq Z (qc 2 xW rfl rfl rfl) ?_)));refine qe (d_lit (vs:=[.ig _]) (cs:=[.ig _]) Z uf xK Qe rfl rfl rfl rfl (fun v hv=>by simp only[xV,xY,or_false]at hv; subst hv; rfl) rfl) ?_;clear Z;rintro _ w_26⟨b27,rfl,Z⟩;have hF:=Z.freeze1;clear Z;obtain⟨I27,Z,hI27,hb27⟩:=hF;replace hops:=hops.mono hI27;replace hd:=hd.mono hI27;replace h20:=h20.mono hI27;have h27:=RFl.ofAt qM ([x.len]:List Int) hb27 rfl (by show 1≤maxLen; decide);have hS_o:St _ _ _ _ _ [_,_,_,_]:=Z.ord [0,1,2,3];replace Z:=hS_o;clear hS_o;refine qe (qi Jh rfl (qX 3 wb _ _ _ _ _ _ _ _ _ (by decide) h27 (fun n hn=>by simp only[xV,xY,or_false]at hn; omega) (by simp only[xN,qI,List.length_cons,List.length_nil]; omega) (St.ownL Z))) ?_;rintro _ w_27⟨rfl,a28,c28,hE⟩;replace Z:=St.callL Z hE;refine qy (uM (xL (reg (qq Z (qb _) (qq Z (qa (o':=4) uj rfl uI rfl rfl rfl) (qq Z (qc 2 Qx rfl rfl rfl) (qe (qO 3 Z rfl xQ QP rfl rfl rfl rfl qA (fun _=>rfl) hd rfl (by omega) (by omega)) ?_)))))));clear Z;rintro _ w_28⟨a55,p55,rfl,Z⟩;refine qq Z (qd _) (qy (uM (xL (reg (qq Z (g_add rfl rfl (by omega) (by omega)) (qq Z (Qmi rfl) ?_))))))
      first
       | (have h2:lsP (p.ops.take (k+1))=lsP (p.ops.take k)++numsB 1 [x.kind]++numsB 3 [x.from_,x.len]:=by
           rw[hls]; unfold opB; rw[xS (by omega)]; simp only[uh]
          rw[← h2,← ql,← xN,← hds]at Z;exact⟨⟨k+1,_,_,_,_⟩,_,rfl,⟨⟨(by dsimp only; rw[hdl]; rfl),rfl,rfl,rfl,rfl,trivial⟩,_,Z.sel [true,true,false,true],by dsimp only; omega,hops⟩,by dsimp only; omega⟩)
       | (have h2:lsP (p.ops.take (k+1))=lsP (p.ops.take k)++numsB 1 [x.kind]++numsB 3 [x.len]++numsB 1 [x.b]:=by
           rw[hls]; unfold opB; rw[xP (by omega),xS (by omega)]; simp only[uh]
          rw[← h2,← ql,← xN,← hds]at Z;exact⟨⟨k+1,_,_,_,_⟩,_,rfl,⟨⟨(by dsimp only; rw[hdl]; rfl),rfl,rfl,rfl,rfl,trivial⟩,_,Z.sel [true,true,false,true],by dsimp only; omega,hops⟩,by dsimp only; omega⟩)
       | (have h2:lsP (p.ops.take (k+1))=lsP (p.ops.take k)++numsB 1 [x.kind]++numsB 3 [x.len]:=by
           rw[hls]; unfold opB; rw[xP (by omega),xP (by omega)]; simp only[uh]
          rw[← h2,← ql,← xN,← hds]at Z;exact⟨⟨k+1,_,_,_,_⟩,_,rfl,⟨⟨(by dsimp only; rw[hdl]; rfl),rfl,rfl,rfl,rfl,trivial⟩,_,Z.sel [true,true,false,true],by dsimp only; omega,hops⟩,by dsimp only; omega⟩)
  ·
   intro hc14
   try simp only[zA,zO,zN,zI,zF,zM,zT,zU]at hc14
   obtain rfl:k=p.ops.length:=by omega
   rw[uL]at Z ⊢;refine ur (um (um (Qi (xL (xJ ?_)))));have hF:=St.freezeRow (u:=.slice a (lsP p.ops).length c) (m:=(lsP p.ops).length) (xs:=(lsP p.ops)) qA (by exact Z.ord [0,1,2]) (rfl);clear Z;obtain⟨I_hr,Z,hI_hr,hr⟩:=hF;replace hops:=hops.mono hI_hr;have hF:=St.freezeRow (u:=.slice d (dtP p.ops).length e) (m:=(dtP p.ops).length) (xs:=(dtP p.ops)) qA (by exact Z.ord [1,0]) (rfl);clear Z;obtain⟨I_hq,Z,hI_hq,hq⟩:=hF;replace hops:=hops.mono hI_hq;replace hr:=hr.mono hI_hq;refine reg (qq Z (qb _) (qq Z (qm rfl) (qq Z (qa (o':=0) QX rfl uI rfl rfl rfl) (qq Z (qc 0 Qx rfl rfl rfl) (qq Z (qb _) (qq Z (qd _) (qq Z (qd _) (QoN (xO (ret2 results45 (qg rfl) (qg rfl) ?_))))))))));exact⟨_,a,c,d,e,rfl,Z.nil,hr,hq⟩
end Go.Proofs.YtgkgihnpjgbmhaaGreatDoor
