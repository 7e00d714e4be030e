/- Package pack: numbers as bytes, their sum. Conditions: numbers within bounds. -/
import Derived.Test.YtgkgihnpjgbmhaaGreatDoorAft13
import Derived.Test.YtgkgihnpjgbmhaaGreatDoorKPack
import Derived.Test.YtgkgihnpjgbmhaaGreatDoorKCore3
set_option linter.unusedSimpArgs false
set_option linter.unusedVariables false
namespace Go.Proofs.YtgkgihnpjgbmhaaGreatDoor
open Tryz
open Go Go.RowKit Go.Inl
theorem g_shri {P:Program}{n:Nat}{σ:Nat→Value}{S:World→Prop}{t t' ty:TypeId}{x y:Operand}{k':IntKind}{a b c:Int}{s:Nat}(hx:ev n σ x = .int .i64 a)(hy:ev n σ y = .int k' b)(hb:b=(s:Int))(hs:s≤64)(ha:0≤a)(h:a / 2 ^ s=c):Gives P (ev n σ) S (.binOp .shr t x y t') ty (.int .i64 c):=fun w _=>by
 subst h hb;have h1:¬(s:Int) < 0:=by omega
 have h2:min s (IntKind.i64.bits)=s:=Nat.min_eq_left hs;simp[execOp,hx,hy,Sem.run_bind,eqGuard,binOp,Op.shift,h1,h2,Result.andThen,Int.fdiv_eq_ediv_of_nonneg]
structure NumW where
 k:Nat
 cur:List Int
 a:Option Addr
 c:Nat
structure NumZ where
 j:Nat
 cur:List Int
 a:Option Addr
 c:Nat
structure LstW where
 k:Nat
 a:Option Addr
 c:Nat
 d:Option Addr
 e:Nat
set_option maxHeartbeats 1000000 in
theorem qK (wd wb : Nat) (ao : Option Addr) (a0 : Nat) (xs : List Int) (al : Option Addr) (cl : Nat) (l : List Int) (XX : List Nat) (w0 : World) (I0 : Imm) (hw : wd ≤ 4) (hl : RFl I0 1 intC (.slice al l.length cl) l) (hlb : ∀ n ∈ l, 0 ≤ n ∧ n ≤ 4294967296) (hx : xs.length + 4 * l.length ≤ 1000000) (hS0 : St XX w0 I0 I0 w0 [.row (.slice ao xs.length a0) 5 1 xs.length (flat byteC xs), .cel wb 102 [.slice ao xs.length a0]]) :
 Ctr prog 47 [.pointer (some ⟨wb,0,none⟩),.int .i64 wd,.slice al l.length cl] w0 (fun v w'=>v = .tuple #[]∧∃a c,St XX w0 I0 I0 w' [.row (.slice a (xs++numsB wd l).length c) 5 1 (xs++numsB wd l).length (flat byteC (xs++numsB wd l)),.cel wb 102 [.slice a (xs++numsB wd l).length c]]):=by
 refine fn (n:=36) func47 rfl rfl rfl ?_;have hS:=hS0;refine QwR (qq hS (qb _) (qq hS (qo rfl xk hl rfl) (qq hS (Qmi rfl) (QoN (vS (loop (fun(x:NumW) σ w=>okS σ [(0,.pointer (some ⟨wb,0,none⟩)),(1,.int .i64 wd),(9,.slice al l.length cl),(10,.int .i64 l.length),(11,.int .i64 x.k)]∧St XX w0 I0 I0 w [.row (.slice x.a x.cur.length x.c) 5 1 x.cur.length (flat byteC x.cur),.cel wb 102 [.slice x.a x.cur.length x.c]]∧x.k≤l.length∧x.cur=xs++numsB wd (l.take x.k)∧x.cur.length+4*(l.length - x.k)≤1000000) (fun x=>l.length - x.k) (⟨0,xs,ao,a0⟩) ?_ ?_))))))
 ·
  exact⟨⟨rfl,rfl,rfl,rfl,rfl,trivial⟩,hS.sel [true,true],Nat.zero_le _,by simp[numsB],by dsimp only; omega⟩
 ·
  rintro⟨k,cur,a,c⟩σ w_l⟨hs,hS,hk0,hcur,hcl⟩;dsimp only at hs hS hk0 hcur hcl ⊢;rw[← qk hs]; clear hs
  refine QwR (qq hS (g_lss rfl rfl) (QoN (vD (qj rfl ?_ ?_))))
  ·
   intro hc12
   try simp only[zA,zO,zN,zI,zF,zM,zT,zU]at hc12
   obtain⟨n,hni⟩:∃n,l[k]? = some n:=⟨_,vC (by omega)⟩
   have hnA:=hl.at hni;have hnb:=hlb n (vI hni);have hns:=numsB_succ wd hni;refine vL (vK (vD (vS (QwR (qq hS (g_ixI xk vF hl rfl rfl (by omega) (by omega)) (qq hS (qJ vV hnA rfl rfl) (qq hS (Qai rfl) (QoR (qq hS (Qmi rfl) (qq hS (g_sub rfl rfl (by omega) (by omega)) (qq hS (Qai rfl) (QoN (vS (loop (fun(z:NumZ) σ w=>okS σ [(0,.pointer (some ⟨wb,0,none⟩)),(1,.int .i64 wd),(7,.int .i64 n),(8,.int .i64 ((z.j:Int) - 1)),(9,.slice al l.length cl),(10,.int .i64 l.length),(11,.int .i64 k)]∧St XX w0 I0 I0 w [.row (.slice z.a z.cur.length z.c) 5 1 z.cur.length (flat byteC z.cur),.cel wb 102 [.slice z.a z.cur.length z.c]]∧z.j≤wd∧z.cur++numB z.j n=cur++numB wd n∧z.cur.length+z.j=cur.length+wd) (fun z=>z.j) (⟨wd,cur,a,c⟩) ?_ ?_))))))))))))))
   ·
    exact⟨⟨rfl,rfl,rfl,rfl,rfl,rfl,rfl,trivial⟩,hS.sel [true,true],vX _,rfl,rfl⟩
   ·
    rintro⟨j,cur2,a,c⟩σ w_l⟨hs,hS,hj0,he,hcl2⟩;dsimp only at hs hS hj0 he hcl2 ⊢;rw[← qk hs]; clear hs
    refine vD (QwR (qq hS (Qmi rfl) (qq hS (g_geq rfl rfl) (QoN (qj rfl ?_ ?_)))))
    ·
     intro hc18
     try simp only[zA,zO,zN,zI,zF,zM,zT,zU]at hc18
     obtain⟨j',rfl⟩:∃j',j=j'+1:=⟨j - 1,by omega⟩
     have hcv:IntKind.u8.wrap (n / 2 ^ (8*j'))=n / 256 ^ j' % 256:=by rw[pow_8,IntKind.wrap_u8]
     refine vL (vK (vD (vS (draw (.cons 0 .pure (.cons 1 .pure (.cons 2 .pure (.cons 3 .pure (.cons 4 .held (.cons 5 .pure (.cons 6 .pure (.cons 7 .pure (.cons 8 .pure (.cons 9 .pure (.cons 10 .eff (.cons 11 .bar (.cons 12 .pure (.cons 13 .pure (.cons 14 .bar .nil))))))))))))))) mixed (by kernel_rfl) hS ?_))));intro w_1 hS;refine sp rfl (qb _) (sp rfl (qb _) (sp rfl (qi rfl) (sp rfl (qa (o':=0) ux rfl xj rfl rfl rfl) (sh rfl (qd 1 ub rfl rfl rfl) (sp rfl (Qmi rfl) (sp rfl (Qmi rfl) (sp rfl (g_mul rfl rfl (by omega) (by omega)) (sp rfl (g_shri (s:=8*j') rfl rfl (by omega) (by omega) (by omega) rfl) (sp rfl (jm uv xI rfl hcv) ?_)))))))));have hS0:=hS;refine se rfl (d_lit (vs:=[.int .u8 _]) (cs:=[.int .u8 _]) hS vH xd uR rfl rfl rfl rfl (fun v hv=>by simp only[vN,vP,or_false]at hv; subst hv; rfl) rfl) ?_;rintro _ w_2⟨b_2,rfl,hS⟩;refine⟨_,_,hS0.le (Sub.refl _) (xQ _ _),hS,sb rfl (qV 1 0 hS rfl vH uH rfl rfl rfl rfl rfl rfl rfl rfl (by omega) (by omega)) ?_⟩;rintro _ w_3⟨a32,p32,rfl,hS⟩;refine⟨_,_,hS,sp rfl (qi rfl) (sp rfl (qa (o':=0) ux rfl xj rfl rfl rfl) (sb rfl (qf 2 hS xj rfl rfl rfl (vs:=[.slice _ _ _]) rfl rfl rfl (vB rfl) (cs':=[_]) rfl) ?_))⟩;rintro _ w_4⟨rfl,hS⟩;refine⟨_,_,hS,sn (xO (vK (reg (qq hS (Qmi rfl) (qq hS (g_sub rfl rfl (by omega) (by omega)) (qq hS (Qai rfl) ?_))))))⟩;refine⟨⟨j',cur2++[n / 256 ^ j' % 256],a32,p32⟩,_,rfl,⟨⟨rfl,rfl,rfl,congrArg (Value.int .i64) (by dsimp only; omega),rfl,rfl,rfl,trivial⟩,?_,by dsimp only; omega,by dsimp only; rw[xa]; exact he,by dsimp only; rw[vE]; simp; omega⟩,by dsimp only; omega⟩
     dsimp only;rw[ql,ju,vE];exact hS.sel [false,true,true]
    ·
     intro hc18
     try simp only[zA,zO,zN,zI,zF,zM,zT,zU]at hc18
     obtain rfl:j=0:=by omega
     have he2:cur2=xs++numsB wd (l.take (k+1)):=by
      rw[hns,← xa,← hcur,← he,numB,List.append_nil]
     refine xm (xh (xh (ua (xO (vK (reg (qq hS (g_add rfl rfl (by omega) (by omega)) (qq hS (Qmi rfl) ?_))))))));exact⟨⟨k+1,cur2,a,c⟩,_,rfl,⟨⟨rfl,rfl,rfl,rfl,rfl,trivial⟩,hS.sel [true,true],by dsimp only; omega,he2,by dsimp only; omega⟩,by dsimp only; omega⟩
  ·
   intro hc12
   try simp only[zA,zO,zN,zI,zF,zM,zT,zU]at hc12
   obtain rfl:k=l.length:=by omega
   refine xm (xh (xh (ua (end0 results47  ?_))));rw[xB]at hcur;subst hcur;exact⟨rfl,a,c,hS⟩
set_option maxHeartbeats 1000000 in
theorem yW (ad : Option Addr) (cap n : Nat) (l : List Int) (w0 : World) (I0 : Imm) (hI : Sat I0 w0) (hl : RBytes I0 (.slice ad n cap) l) (hb : Byt l) (hn : n = l.length) :
 Ctr prog 48 [.slice ad n cap] w0 (fun v w'=>∃I' a c,v = .slice a (sumP l).length c∧Ext w0 I0 w' I'∧RBytes I' (.slice a (sumP l).length c) (sumP l)∧∀b,(Value.slice a (sumP l).length c).ownBlock=some b→w0.heap.size≤b):=by
 subst hn;have hll:=RSl.le hl;simp only[maxLen]at hll;refine fn (n:=35) func48 rfl rfl rfl ?_;have hS:=St.start hI;refine QwR (qq hS (qc _) (QoR (qq hS (Qai rfl) (qq hS (Qai rfl) (QoN (vD (QwR (qq hS (qb _) (qq hS (qo rfl vH hl rfl) (qq hS (Qmi rfl) (QoN (vS (loop (fun(k:Nat) σ w=>okS σ [(3,.int .i64 (adl (l.take k)).1),(4,.int .i64 (adl (l.take k)).2),(8,.slice ad l.length cap),(9,.int .i64 l.length),(10,.int .i64 k)]∧St [] w0 I0 I0 w []∧k≤l.length) (fun k=>l.length - k) (0) ?_ ?_)))))))))))))
 ·
  exact⟨⟨rfl,rfl,rfl,rfl,rfl,trivial⟩,hS.sel [],by omega⟩
 ·
  rintro k σ w_l⟨hs,hS,hk0⟩;rw[← qk hs]; clear hs
  refine QwR (qq hS (g_lss rfl rfl) (QoN (vD (qj rfl ?_ ?_))))
  ·
   intro hc11
   try simp only[zA,zO,zN,zI,zF,zM,zT,zU]at hc11
   obtain⟨x,hxi⟩:∃x,l[k]? = some x:=⟨_,vC (by omega)⟩
   have hxA:=hl.at hxi;have hxb:=hb x (vI hxi);have hsn:=adl_succ hxi;obtain⟨s1,s2,s3,s4⟩:=adl_bd (l.take k);refine vL (vK (vD (vS (QwR (qq hS (g_ixI vH xd hl rfl rfl (by omega) (by omega)) (qq hS (qJ xR hxA rfl rfl) (qq hS (qr (v:=.int .u8 _) rfl) (QoR (qq hS (Qmi rfl) (qq hS (qs (v:=.int .u8 _) rfl) (qq hS (yw xI uv rfl (by omega) (by omega)) (qq hS (g_add rfl rfl (by omega) (by omega)) (qq hS (g_rem rfl rfl (by omega) (by decide)) ?_)))))))))))));refine qq hS (Qai rfl) (QoN (reg (qq hS (Qmi rfl) (qq hS (Qmi rfl) (qq hS (g_add rfl rfl (by omega) (by omega)) (qq hS (g_rem rfl rfl (by omega) (by decide)) (qq hS (Qai rfl) (qB (xO (vK (reg (qq hS (g_add rfl rfl (by omega) (by omega)) (qq hS (Qmi rfl) (⟨k+1,_,rfl,⟨⟨?_,?_,rfl,rfl,rfl,trivial⟩,hS.sel [],by omega⟩,by omega⟩))))))))))))))
   · rw[hsn]; rfl
   · rw[hsn]; rfl
  ·
   intro hc11
   try simp only[zA,zO,zN,zI,zF,zM,zT,zU]at hc11
   obtain rfl:k=l.length:=by omega
   rw[xB]at *;obtain⟨s1,s2,s3,s4⟩:=adl_bd l;refine xm (xh (xh (ua (vK (QwR (qq hS (qt (pl:=[(0,1)]) (cs:=[.slice _ _ _]) Qn ux (fun w=>by simp[xj]) mp0 rfl) (qe (d_box (cs:=[.slice _ _ _]) hS rfl) ?_)))))));clear hS;rintro _ w_1⟨wb,rfl,hS⟩;refine qq hS (qc _) (QoR (qq hS (qb _) (qq hS (Qmi rfl) (qq hS (Qmi rfl) ?_))));refine qe (d_lit (vs:=[.int .i64 _,.int .i64 _]) (cs:=[.int .i64 _,.int .i64 _]) hS xk vF xL rfl rfl rfl rfl (fun v hv=>by simp only[vN,vP,or_false]at hv; rcases hv with rfl | rfl <;> rfl) rfl) ?_;clear hS;rintro _ w_2⟨b29,rfl,hS⟩;have hF:=hS.freeze1;clear hS;obtain⟨I29,hS,hI29,hb29⟩:=hF;have h29:=RFl.ofAt qO ([(adl l).2,(adl l).1]:List Int) hb29 rfl (by show 2≤maxLen; decide);replace hS:=hS.nilRow 5 1;have hS_o:St _ _ _ _ _ [_,_]:=hS.ord [0,1];replace hS:=hS_o;clear hS_o;refine qe (qg uK rfl (qK 2 wb _ _ [] _ _ _ _ _ _ (by decide) h29 (fun n hn=>by simp only[vN,vP,or_false]at hn; omega) (by simp only[vE,qE,List.length_cons,List.length_nil]; omega) (St.ownL hS))) ?_;rintro _ w_3⟨rfl,a30,c30,hE⟩;replace hS:=St.callL hS hE;refine QoN (vD ?_);have hF:=St.freezeRowI (u:=.slice a30 ([]++numsB 2 [(adl l).2,(adl l).1]).length c30) (m:=(([]++numsB 2 [(adl l).2,(adl l).1])).length) (xs:=flat byteC (([]++numsB 2 [(adl l).2,(adl l).1]))) (E:=5) (sz:=1) (by skip; exact hS.ord [0,1]);clear hS;obtain⟨I_hfz,hS,hI_hfz,hRI,hnw⟩:=hF;have hfz:=RowI.flat qx hRI (rfl);replace h29:=h29.mono hI_hfz;refine reg (qq hS (qb _) (qq hS (qi rfl) (qq hS (qa (o':=0) ux rfl xj rfl rfl rfl) (qq hS (qd 0 ub rfl rfl rfl) (qq hS (qc _) (QoN (vM (ret1 results48 (qh rfl) ?_))))))))
   rw[show sumP l=[]++numsB 2 [(adl l).2,(adl l).1] from rfl];exact⟨_,a30,c30,rfl,hS.nil,hfz,fun b hb=>(hnw b hb).2⟩
set_option maxHeartbeats 2000000 in
theorem plist_c (p : PatL) (ad : Option Addr) (m cap : Nat) (w0 : World) (I0 : Imm) (hI : Sat I0 w0) (hops : ROps I0 (.slice ad m cap) p.ops) (hg : ∀ x ∈ p.ops, OpG x) (hn : p.ops.length ≤ 4096) (hd0 : (dtP p.ops).length ≤ 65536) :
 Ctr prog 45 [.agg #[.bool p.lifted,.int .i64 p.in_,.int .i64 p.out,.slice ad m cap]] w0 (fun v w'=>∃I' a c d e,v = .tuple #[.slice a (lsP p.ops).length c,.slice d (dtP p.ops).length e]∧Ext w0 I0 w' I'∧RBytes I' (.slice a (lsP p.ops).length c) (lsP p.ops)∧RBytes I' (.slice d (dtP p.ops).length e) (dtP p.ops)):=by
 refine fn (n:=62) func45 rfl rfl rfl ?_;have hS:=St.start hI;refine QwR (qe (d_box (cs:=[.bool _,.int .i64 _,.int .i64 _,.slice _ _ _]) hS rfl) ?_);clear hS;rintro _ w_1⟨b1,rfl,hS⟩;refine qq hS (qc _) (qq hS (qc _) (QoR (qq hS (qc _) (QoR (qq hS (qt (pl:=[(0,1)]) (cs:=[.slice _ _ _]) Qn ux (fun w=>by simp[xj]) mp0 rfl) (qe (d_box (cs:=[.slice _ _ _]) hS rfl) ?_))))));clear hS;rintro _ w_2⟨wb,rfl,hS⟩;refine qq hS (qc _) (QoN (vD (QwR (qq hS (qa (o':=3) vT rfl xD rfl rfl rfl) (qq hS (qd 1 um rfl rfl rfl) (qq hS (qo rfl xz hops rfl) (qq hS (Qmi rfl) (QoN (vS (loop (fun(x:LstW) σ w=>okS σ [(4,.slice x.d (dtP (p.ops.take x.k)).length x.e),(5,.pointer (some ⟨wb,0,none⟩)),(11,.slice ad m cap),(12,.int .i64 p.ops.length),(13,.int .i64 x.k)]∧∃I,St [] w0 I0 I w [.row (.slice x.a (lsP (p.ops.take x.k)).length x.c) 5 1 (lsP (p.ops.take x.k)).length (flat byteC (lsP (p.ops.take x.k))),.cel wb 102 [.slice x.a (lsP (p.ops.take x.k)).length x.c],.row (.slice x.d (dtP (p.ops.take x.k)).length x.e) 5 1 (dtP (p.ops.take x.k)).length (flat byteC (dtP (p.ops.take x.k)))]∧x.k≤p.ops.length∧ROps I (.slice ad m cap) p.ops) (fun x=>p.ops.length - x.k) (⟨0,none,0,none,0⟩) ?_ ?_))))))))))
 ·
  exact⟨⟨rfl,rfl,rfl,rfl,rfl,trivial⟩,_,(((hS.sel [true,false]).nilRow 5 1).nilRow 5 1).ord [0,2,1],Nat.zero_le _,hops⟩
 ·
  rintro⟨k,a,c,d,e⟩σ w_l⟨hs,I,hS,hk0,hops⟩;dsimp only at hs hS hk0 hops ⊢;rw[← qk hs]; clear hs
  refine QwR (qq hS (g_lss rfl rfl) (QoN (vD (qj rfl ?_ ?_))))
  ·
   intro hc14
   try simp only[zA,zO,zN,zI,zF,zM,zT,zU]at hc14
   obtain⟨x,hx⟩:∃x,p.ops[k]? = some x:=⟨_,vC (by omega)⟩
   obtain⟨⟨g1,g2⟩,⟨g3,g4⟩,⟨g5,g6⟩,⟨g7,g8⟩,g9,g10⟩:=hg x (vI hx);obtain⟨cs,hcl,hoA,hro⟩:=RSl.at hops hx;obtain⟨adx,mx,capx,rfl,hd⟩:=hro;obtain⟨ad2,cap2,hv2⟩:=RSl.sl hd;obtain⟨rfl,rfl,rfl⟩:adx=ad2∧mx=x.data.length∧capx=cap2:=by injection hv2 with h1 h2 h3; exact⟨h1,h2,h3⟩
   have hl1:=vh (p.ops.take k);rw[xc]at hl1;have hl2:=dtP_take p.ops (k+1);have hds:=dtP_succ hx;have hls:=lsP_succ hx;have hdl:=congrArg List.length hds;rw[vE]at hdl;refine vL (vK (vD (vS (QwR (qq hS (g_ixI xz xb hops rfl rfl (by omega) (by omega)) (qq hS (g_ldE (us:=[.int .i64 _,.int .i64 _,.int .i64 _,.int .u8 _,.slice _ _ _]) xb xJ hoA rfl rfl rfl) (qe (qv (cs:=[.int .i64 _,.int .i64 _,.int .i64 _,.int .u8 _,.slice _ _ _]) hS xY rfl) ?_)))))));clear hS;rintro _ w_3⟨b7,rfl,hS⟩;refine qe (qf 0 hS xb rfl rfl rfl (vs:=[.int .i64 _,.int .i64 _,.int .i64 _,.int .u8 _,.slice _ _ _]) rfl rfl rfl (vB rfl) (cs':=[_,_,_,_,_]) rfl) ?_;clear hS;rintro _ w_4⟨rfl,hS⟩;refine QoR (qq hS (qb _) (qq hS (qa (o':=0) vO rfl vF rfl rfl rfl) (qq hS (qd 0 vV rfl rfl rfl) ?_)));refine qe (d_lit (vs:=[.int .i64 _]) (cs:=[.int .i64 _]) hS xk vF xL rfl rfl rfl rfl (fun v hv=>by simp only[vN,vP,or_false]at hv; subst hv; rfl) rfl) ?_;clear hS;rintro _ w_5⟨b20,rfl,hS⟩;have hF:=hS.freeze1;clear hS;obtain⟨I20,hS,hI20,hb20⟩:=hF;replace hops:=hops.mono hI20;replace hd:=hd.mono hI20;have h20:=RFl.ofAt qO ([x.kind]:List Int) hb20 rfl (by show 1≤maxLen; decide);have hS_o:St _ _ _ _ _ [_,_,_,_]:=hS.ord [1,2,0,3];replace hS:=hS_o;clear hS_o;refine qe (qg uK rfl (qK 1 wb _ _ _ _ _ _ _ _ _ (by decide) h20 (fun n hn=>by simp only[vN,vP,or_false]at hn; omega) (by simp only[vE,qE,List.length_cons,List.length_nil]; omega) (St.ownL hS))) ?_;rintro _ w_6⟨rfl,a21,c21,hE⟩;replace hS:=St.callL hS hE;refine QoN (vD (QwR (qq hS (qa (o':=0) vO rfl vF rfl rfl rfl) (qq hS (qd 2 vV rfl rfl rfl) (QoN (vS (vD (QwR (qq hS (g_eql rfl rfl) (qq hS (Qab rfl) (QoN (qj rfl ?_ ?_))))))))))))
   ·
    intro hc29
    try simp only[zA,zO,zN,zI,zF,zM,zT,zU]at hc29
    refine vL (vK (qj rfl ?_ ?_))
    ·
     intro hc29_2
     try simp only[zA,zO,zN,zI,zF,zM,zT,zU]at hc29_2
     refine reg (qq hS (qb _) (qq hS (qa (o':=1) vO rfl vF rfl rfl rfl) (qq hS (qd 2 vV rfl rfl rfl) (qq hS (qa (o':=2) vO rfl vF rfl rfl rfl) (qq hS (qd 2 vV rfl rfl rfl) ?_)))));refine qe (d_lit (vs:=[.int .i64 _,.int .i64 _]) (cs:=[.int .i64 _,.int .i64 _]) hS xk vF xL rfl rfl rfl rfl (fun v hv=>by simp only[vN,vP,or_false]at hv; rcases hv with rfl | rfl <;> rfl) rfl) ?_;clear hS;rintro _ w_7⟨b37,rfl,hS⟩;have hF:=hS.freeze1;clear hS;obtain⟨I37,hS,hI37,hb37⟩:=hF;replace hops:=hops.mono hI37;replace hd:=hd.mono hI37;replace h20:=h20.mono hI37;have h37:=RFl.ofAt qO ([x.from_,x.len]:List Int) hb37 rfl (by show 2≤maxLen; decide);have hS_o:St _ _ _ _ _ [_,_,_,_]:=hS.ord [0,1,2,3];replace hS:=hS_o;clear hS_o;refine qe (qg uK rfl (qK 3 wb _ _ _ _ _ _ _ _ _ (by decide) h37 (fun n hn=>by simp only[vN,vP,or_false]at hn; omega) (by simp only[vE,qE,List.length_cons,List.length_nil]; omega) (St.ownL hS))) ?_;rintro _ w_8⟨rfl,a38,c38,hE⟩;replace hS:=St.callL hS hE;refine qB (xO (vK (reg (qq hS (qb _) (qq hS (qa (o':=4) vO rfl xj rfl rfl rfl) (qq hS (qd 2 ub rfl rfl rfl) (qe (qW 3 hS rfl vH uH rfl rfl rfl rfl qx (fun _=>rfl) hd rfl (by omega) (by omega)) ?_)))))));clear hS;rintro _ w_9⟨a55,p55,rfl,hS⟩;refine qq hS (qc _) (qB (xO (vK (reg (qq hS (g_add rfl rfl (by omega) (by omega)) (qq hS (Qmi rfl) ?_))))))
     first
      | (have h2:lsP (p.ops.take (k+1))=lsP (p.ops.take k)++numsB 1 [x.kind]++numsB 3 [x.from_,x.len]:=by
          rw[hls]; unfold opB; rw[vJ (by omega)]; simp only[xa]
         rw[← h2,← ql,← vE,← hds]at hS;exact⟨⟨k+1,_,_,_,_⟩,_,rfl,⟨⟨(by dsimp only; rw[hdl]; rfl),rfl,rfl,rfl,rfl,trivial⟩,_,hS.sel [true,true,false,true],by dsimp only; omega,hops⟩,by dsimp only; omega⟩)
      | (have h2:lsP (p.ops.take (k+1))=lsP (p.ops.take k)++numsB 1 [x.kind]++numsB 3 [x.len]++numsB 1 [x.b]:=by
          rw[hls]; unfold opB; rw[vG (by omega),vJ (by omega)]; simp only[xa]
         rw[← h2,← ql,← vE,← hds]at hS;exact⟨⟨k+1,_,_,_,_⟩,_,rfl,⟨⟨(by dsimp only; rw[hdl]; rfl),rfl,rfl,rfl,rfl,trivial⟩,_,hS.sel [true,true,false,true],by dsimp only; omega,hops⟩,by dsimp only; omega⟩)
      | (have h2:lsP (p.ops.take (k+1))=lsP (p.ops.take k)++numsB 1 [x.kind]++numsB 3 [x.len]:=by
          rw[hls]; unfold opB; rw[vG (by omega),vG (by omega)]; simp only[xa]
         rw[← h2,← ql,← vE,← hds]at hS;exact⟨⟨k+1,_,_,_,_⟩,_,rfl,⟨⟨(by dsimp only; rw[hdl]; rfl),rfl,rfl,rfl,rfl,trivial⟩,_,hS.sel [true,true,false,true],by dsimp only; omega,hops⟩,by dsimp only; omega⟩)
    ·
     intro hc29_2
     try simp only[zA,zO,zN,zI,zF,zM,zT,zU]at hc29_2
     refine QwR (qq hS (g_eql rfl rfl) (qq hS (Qab rfl) (QoN (qj rfl ?_ ?_))))
     ·
      intro hc39
      try simp only[zA,zO,zN,zI,zF,zM,zT,zU]at hc39
      refine QwR (qq hS (qb _) (qq hS (qa (o':=2) vO rfl vF rfl rfl rfl) (qq hS (qd 2 vV rfl rfl rfl) ?_)));refine qe (d_lit (vs:=[.int .i64 _]) (cs:=[.int .i64 _]) hS xk vF xL rfl rfl rfl rfl (fun v hv=>by simp only[vN,vP,or_false]at hv; subst hv; rfl) rfl) ?_;clear hS;rintro _ w_10⟨b44,rfl,hS⟩;have hF:=hS.freeze1;clear hS;obtain⟨I44,hS,hI44,hb44⟩:=hF;replace hops:=hops.mono hI44;replace hd:=hd.mono hI44;replace h20:=h20.mono hI44;have h44:=RFl.ofAt qO ([x.len]:List Int) hb44 rfl (by show 1≤maxLen; decide);have hS_o:St _ _ _ _ _ [_,_,_,_]:=hS.ord [0,1,2,3];replace hS:=hS_o;clear hS_o;refine qe (qg uK rfl (qK 3 wb _ _ _ _ _ _ _ _ _ (by decide) h44 (fun n hn=>by simp only[vN,vP,or_false]at hn; omega) (by simp only[vE,qE,List.length_cons,List.length_nil]; omega) (St.ownL hS))) ?_;rintro _ w_11⟨rfl,a45,c45,hE⟩;replace hS:=St.callL hS hE;refine QoN (reg (qq hS (qb _) (qq hS (qa (o':=3) vO rfl xd rfl rfl rfl) (qq hS (qd 2 xR rfl rfl rfl) (qq hS (yw xI uv rfl (by omega) (by omega)) ?_)))));refine qe (d_lit (vs:=[.int .i64 _]) (cs:=[.int .i64 _]) hS xk vF xL rfl rfl rfl rfl (fun v hv=>by simp only[vN,vP,or_false]at hv; subst hv; rfl) rfl) ?_;clear hS;rintro _ w_12⟨b50,rfl,hS⟩;have hF:=hS.freeze1;clear hS;obtain⟨I50,hS,hI50,hb50⟩:=hF;replace hops:=hops.mono hI50;replace hd:=hd.mono hI50;replace h20:=h20.mono hI50;replace h44:=h44.mono hI50;have h50:=RFl.ofAt qO ([x.b]:List Int) hb50 rfl (by show 1≤maxLen; decide);have hS_o:St _ _ _ _ _ [_,_,_,_]:=hS.ord [0,1,2,3];replace hS:=hS_o;clear hS_o
      refine qe (qg uK rfl (qK 1 wb _ _ _ _ _ _ _ _ _ (by decide) h50 (fun n hn=>by simp only[vN,vP,or_false]at hn; omega) (by simp only[vE,qE,List.length_cons,List.length_nil]; omega) (St.ownL hS))) ?_;rintro _ w_13⟨rfl,a51,c51,hE⟩;replace hS:=St.callL hS hE;refine qB (xO (vK (reg (qq hS (qb _) (qq hS (qa (o':=4) vO rfl xj rfl rfl rfl) (qq hS (qd 2 ub rfl rfl rfl) (qe (qW 3 hS rfl vH uH rfl rfl rfl rfl qx (fun _=>rfl) hd rfl (by omega) (by omega)) ?_)))))));clear hS;rintro _ w_14⟨a55,p55,rfl,hS⟩;refine qq hS (qc _) (qB (xO (vK (reg (qq hS (g_add rfl rfl (by omega) (by omega)) (qq hS (Qmi rfl) ?_))))))
      first
       | (have h2:lsP (p.ops.take (k+1))=lsP (p.ops.take k)++numsB 1 [x.kind]++numsB 3 [x.from_,x.len]:=by
           rw[hls]; unfold opB; rw[vJ (by omega)]; simp only[xa]
          rw[← h2,← ql,← vE,← hds]at hS;exact⟨⟨k+1,_,_,_,_⟩,_,rfl,⟨⟨(by dsimp only; rw[hdl]; rfl),rfl,rfl,rfl,rfl,trivial⟩,_,hS.sel [true,true,false,true],by dsimp only; omega,hops⟩,by dsimp only; omega⟩)
       | (have h2:lsP (p.ops.take (k+1))=lsP (p.ops.take k)++numsB 1 [x.kind]++numsB 3 [x.len]++numsB 1 [x.b]:=by
           rw[hls]; unfold opB; rw[vG (by omega),vJ (by omega)]; simp only[xa]
          rw[← h2,← ql,← vE,← hds]at hS;exact⟨⟨k+1,_,_,_,_⟩,_,rfl,⟨⟨(by dsimp only; rw[hdl]; rfl),rfl,rfl,rfl,rfl,trivial⟩,_,hS.sel [true,true,false,true],by dsimp only; omega,hops⟩,by dsimp only; omega⟩)
       | (have h2:lsP (p.ops.take (k+1))=lsP (p.ops.take k)++numsB 1 [x.kind]++numsB 3 [x.len]:=by
           rw[hls]; unfold opB; rw[vG (by omega),vG (by omega)]; simp only[xa]
          rw[← h2,← ql,← vE,← hds]at hS;exact⟨⟨k+1,_,_,_,_⟩,_,rfl,⟨⟨(by dsimp only; rw[hdl]; rfl),rfl,rfl,rfl,rfl,trivial⟩,_,hS.sel [true,true,false,true],by dsimp only; omega,hops⟩,by dsimp only; omega⟩)
     ·
      intro hc39
      try simp only[zA,zO,zN,zI,zF,zM,zT,zU]at hc39
      refine reg (qq hS (qb _) (qq hS (qa (o':=2) vO rfl vF rfl rfl rfl) (qq hS (qd 2 vV rfl rfl rfl) ?_)));refine qe (d_lit (vs:=[.int .i64 _]) (cs:=[.int .i64 _]) hS xk vF xL rfl rfl rfl rfl (fun v hv=>by simp only[vN,vP,or_false]at hv; subst hv; rfl) rfl) ?_;clear hS;rintro _ w_15⟨b27,rfl,hS⟩;have hF:=hS.freeze1;clear hS;obtain⟨I27,hS,hI27,hb27⟩:=hF;replace hops:=hops.mono hI27;replace hd:=hd.mono hI27;replace h20:=h20.mono hI27;have h27:=RFl.ofAt qO ([x.len]:List Int) hb27 rfl (by show 1≤maxLen; decide);have hS_o:St _ _ _ _ _ [_,_,_,_]:=hS.ord [0,1,2,3];replace hS:=hS_o;clear hS_o;refine qe (qg uK rfl (qK 3 wb _ _ _ _ _ _ _ _ _ (by decide) h27 (fun n hn=>by simp only[vN,vP,or_false]at hn; omega) (by simp only[vE,qE,List.length_cons,List.length_nil]; omega) (St.ownL hS))) ?_;rintro _ w_16⟨rfl,a28,c28,hE⟩;replace hS:=St.callL hS hE;refine qB (xO (vK (reg (qq hS (qb _) (qq hS (qa (o':=4) vO rfl xj rfl rfl rfl) (qq hS (qd 2 ub rfl rfl rfl) (qe (qW 3 hS rfl vH uH rfl rfl rfl rfl qx (fun _=>rfl) hd rfl (by omega) (by omega)) ?_)))))));clear hS;rintro _ w_17⟨a55,p55,rfl,hS⟩;refine qq hS (qc _) (qB (xO (vK (reg (qq hS (g_add rfl rfl (by omega) (by omega)) (qq hS (Qmi rfl) ?_))))))
      first
       | (have h2:lsP (p.ops.take (k+1))=lsP (p.ops.take k)++numsB 1 [x.kind]++numsB 3 [x.from_,x.len]:=by
           rw[hls]; unfold opB; rw[vJ (by omega)]; simp only[xa]
          rw[← h2,← ql,← vE,← hds]at hS;exact⟨⟨k+1,_,_,_,_⟩,_,rfl,⟨⟨(by dsimp only; rw[hdl]; rfl),rfl,rfl,rfl,rfl,trivial⟩,_,hS.sel [true,true,false,true],by dsimp only; omega,hops⟩,by dsimp only; omega⟩)
       | (have h2:lsP (p.ops.take (k+1))=lsP (p.ops.take k)++numsB 1 [x.kind]++numsB 3 [x.len]++numsB 1 [x.b]:=by
           rw[hls]; unfold opB; rw[vG (by omega),vJ (by omega)]; simp only[xa]
          rw[← h2,← ql,← vE,← hds]at hS;exact⟨⟨k+1,_,_,_,_⟩,_,rfl,⟨⟨(by dsimp only; rw[hdl]; rfl),rfl,rfl,rfl,rfl,trivial⟩,_,hS.sel [true,true,false,true],by dsimp only; omega,hops⟩,by dsimp only; omega⟩)
       | (have h2:lsP (p.ops.take (k+1))=lsP (p.ops.take k)++numsB 1 [x.kind]++numsB 3 [x.len]:=by
           rw[hls]; unfold opB; rw[vG (by omega),vG (by omega)]; simp only[xa]
          rw[← h2,← ql,← vE,← hds]at hS;exact⟨⟨k+1,_,_,_,_⟩,_,rfl,⟨⟨(by dsimp only; rw[hdl]; rfl),rfl,rfl,rfl,rfl,trivial⟩,_,hS.sel [true,true,false,true],by dsimp only; omega,hops⟩,by dsimp only; omega⟩)
   ·
    intro hc29
    try simp only[zA,zO,zN,zI,zF,zM,zT,zU]at hc29
    refine reg (qq hS (g_eql rfl rfl) (qq hS (Qab rfl) (QoN (qj rfl ?_ ?_))))
    ·
     intro hc29_2
     try simp only[zA,zO,zN,zI,zF,zM,zT,zU]at hc29_2
     refine reg (qq hS (qb _) (qq hS (qa (o':=1) vO rfl vF rfl rfl rfl) (qq hS (qd 2 vV rfl rfl rfl) (qq hS (qa (o':=2) vO rfl vF rfl rfl rfl) (qq hS (qd 2 vV rfl rfl rfl) ?_)))));refine qe (d_lit (vs:=[.int .i64 _,.int .i64 _]) (cs:=[.int .i64 _,.int .i64 _]) hS xk vF xL rfl rfl rfl rfl (fun v hv=>by simp only[vN,vP,or_false]at hv; rcases hv with rfl | rfl <;> rfl) rfl) ?_;clear hS;rintro _ w_18⟨b37,rfl,hS⟩;have hF:=hS.freeze1;clear hS;obtain⟨I37,hS,hI37,hb37⟩:=hF;replace hops:=hops.mono hI37;replace hd:=hd.mono hI37;replace h20:=h20.mono hI37;have h37:=RFl.ofAt qO ([x.from_,x.len]:List Int) hb37 rfl (by show 2≤maxLen; decide);have hS_o:St _ _ _ _ _ [_,_,_,_]:=hS.ord [0,1,2,3];replace hS:=hS_o;clear hS_o;refine qe (qg uK rfl (qK 3 wb _ _ _ _ _ _ _ _ _ (by decide) h37 (fun n hn=>by simp only[vN,vP,or_false]at hn; omega) (by simp only[vE,qE,List.length_cons,List.length_nil]; omega) (St.ownL hS))) ?_;rintro _ w_19⟨rfl,a38,c38,hE⟩;replace hS:=St.callL hS hE;refine qB (xO (vK (reg (qq hS (qb _) (qq hS (qa (o':=4) vO rfl xj rfl rfl rfl) (qq hS (qd 2 ub rfl rfl rfl) (qe (qW 3 hS rfl vH uH rfl rfl rfl rfl qx (fun _=>rfl) hd rfl (by omega) (by omega)) ?_)))))));clear hS;rintro _ w_20⟨a55,p55,rfl,hS⟩;refine qq hS (qc _) (qB (xO (vK (reg (qq hS (g_add rfl rfl (by omega) (by omega)) (qq hS (Qmi rfl) ?_))))))
     first
      | (have h2:lsP (p.ops.take (k+1))=lsP (p.ops.take k)++numsB 1 [x.kind]++numsB 3 [x.from_,x.len]:=by
          rw[hls]; unfold opB; rw[vJ (by omega)]; simp only[xa]
         rw[← h2,← ql,← vE,← hds]at hS;exact⟨⟨k+1,_,_,_,_⟩,_,rfl,⟨⟨(by dsimp only; rw[hdl]; rfl),rfl,rfl,rfl,rfl,trivial⟩,_,hS.sel [true,true,false,true],by dsimp only; omega,hops⟩,by dsimp only; omega⟩)
      | (have h2:lsP (p.ops.take (k+1))=lsP (p.ops.take k)++numsB 1 [x.kind]++numsB 3 [x.len]++numsB 1 [x.b]:=by
          rw[hls]; unfold opB; rw[vG (by omega),vJ (by omega)]; simp only[xa]
         rw[← h2,← ql,← vE,← hds]at hS;exact⟨⟨k+1,_,_,_,_⟩,_,rfl,⟨⟨(by dsimp only; rw[hdl]; rfl),rfl,rfl,rfl,rfl,trivial⟩,_,hS.sel [true,true,false,true],by dsimp only; omega,hops⟩,by dsimp only; omega⟩)
      | (have h2:lsP (p.ops.take (k+1))=lsP (p.ops.take k)++numsB 1 [x.kind]++numsB 3 [x.len]:=by
          rw[hls]; unfold opB; rw[vG (by omega),vG (by omega)]; simp only[xa]
         rw[← h2,← ql,← vE,← hds]at hS;exact⟨⟨k+1,_,_,_,_⟩,_,rfl,⟨⟨(by dsimp only; rw[hdl]; rfl),rfl,rfl,rfl,rfl,trivial⟩,_,hS.sel [true,true,false,true],by dsimp only; omega,hops⟩,by dsimp only; omega⟩)
    ·
     intro hc29_2
     try simp only[zA,zO,zN,zI,zF,zM,zT,zU]at hc29_2
     refine QwR (qq hS (g_eql rfl rfl) (qq hS (Qab rfl) (QoN (qj rfl ?_ ?_))))
     ·
      intro hc39
      try simp only[zA,zO,zN,zI,zF,zM,zT,zU]at hc39
      refine QwR (qq hS (qb _) (qq hS (qa (o':=2) vO rfl vF rfl rfl rfl) (qq hS (qd 2 vV rfl rfl rfl) ?_)));refine qe (d_lit (vs:=[.int .i64 _]) (cs:=[.int .i64 _]) hS xk vF xL rfl rfl rfl rfl (fun v hv=>by simp only[vN,vP,or_false]at hv; subst hv; rfl) rfl) ?_;clear hS;rintro _ w_21⟨b44,rfl,hS⟩;have hF:=hS.freeze1;clear hS;obtain⟨I44,hS,hI44,hb44⟩:=hF;replace hops:=hops.mono hI44;replace hd:=hd.mono hI44;replace h20:=h20.mono hI44;have h44:=RFl.ofAt qO ([x.len]:List Int) hb44 rfl (by show 1≤maxLen; decide);have hS_o:St _ _ _ _ _ [_,_,_,_]:=hS.ord [0,1,2,3];replace hS:=hS_o;clear hS_o;refine qe (qg uK rfl (qK 3 wb _ _ _ _ _ _ _ _ _ (by decide) h44 (fun n hn=>by simp only[vN,vP,or_false]at hn; omega) (by simp only[vE,qE,List.length_cons,List.length_nil]; omega) (St.ownL hS))) ?_;rintro _ w_22⟨rfl,a45,c45,hE⟩;replace hS:=St.callL hS hE;refine QoN (reg (qq hS (qb _) (qq hS (qa (o':=3) vO rfl xd rfl rfl rfl) (qq hS (qd 2 xR rfl rfl rfl) (qq hS (yw xI uv rfl (by omega) (by omega)) ?_)))));refine qe (d_lit (vs:=[.int .i64 _]) (cs:=[.int .i64 _]) hS xk vF xL rfl rfl rfl rfl (fun v hv=>by simp only[vN,vP,or_false]at hv; subst hv; rfl) rfl) ?_;clear hS;rintro _ w_23⟨b50,rfl,hS⟩;have hF:=hS.freeze1;clear hS;obtain⟨I50,hS,hI50,hb50⟩:=hF;replace hops:=hops.mono hI50;replace hd:=hd.mono hI50;replace h20:=h20.mono hI50;replace h44:=h44.mono hI50;have h50:=RFl.ofAt qO ([x.b]:List Int) hb50 rfl (by show 1≤maxLen; decide);have hS_o:St _ _ _ _ _ [_,_,_,_]:=hS.ord [0,1,2,3];replace hS:=hS_o;clear hS_o
      refine qe (qg uK rfl (qK 1 wb _ _ _ _ _ _ _ _ _ (by decide) h50 (fun n hn=>by simp only[vN,vP,or_false]at hn; omega) (by simp only[vE,qE,List.length_cons,List.length_nil]; omega) (St.ownL hS))) ?_;rintro _ w_24⟨rfl,a51,c51,hE⟩;replace hS:=St.callL hS hE;refine qB (xO (vK (reg (qq hS (qb _) (qq hS (qa (o':=4) vO rfl xj rfl rfl rfl) (qq hS (qd 2 ub rfl rfl rfl) (qe (qW 3 hS rfl vH uH rfl rfl rfl rfl qx (fun _=>rfl) hd rfl (by omega) (by omega)) ?_)))))));clear hS;rintro _ w_25⟨a55,p55,rfl,hS⟩;refine qq hS (qc _) (qB (xO (vK (reg (qq hS (g_add rfl rfl (by omega) (by omega)) (qq hS (Qmi rfl) ?_))))))
      first
       | (have h2:lsP (p.ops.take (k+1))=lsP (p.ops.take k)++numsB 1 [x.kind]++numsB 3 [x.from_,x.len]:=by
           rw[hls]; unfold opB; rw[vJ (by omega)]; simp only[xa]
          rw[← h2,← ql,← vE,← hds]at hS;exact⟨⟨k+1,_,_,_,_⟩,_,rfl,⟨⟨(by dsimp only; rw[hdl]; rfl),rfl,rfl,rfl,rfl,trivial⟩,_,hS.sel [true,true,false,true],by dsimp only; omega,hops⟩,by dsimp only; omega⟩)
       | (have h2:lsP (p.ops.take (k+1))=lsP (p.ops.take k)++numsB 1 [x.kind]++numsB 3 [x.len]++numsB 1 [x.b]:=by
           rw[hls]; unfold opB; rw[vG (by omega),vJ (by omega)]; simp only[xa]
          rw[← h2,← ql,← vE,← hds]at hS;exact⟨⟨k+1,_,_,_,_⟩,_,rfl,⟨⟨(by dsimp only; rw[hdl]; rfl),rfl,rfl,rfl,rfl,trivial⟩,_,hS.sel [true,true,false,true],by dsimp only; omega,hops⟩,by dsimp only; omega⟩)
       | (have h2:lsP (p.ops.take (k+1))=lsP (p.ops.take k)++numsB 1 [x.kind]++numsB 3 [x.len]:=by
           rw[hls]; unfold opB; rw[vG (by omega),vG (by omega)]; simp only[xa]
          rw[← h2,← ql,← vE,← hds]at hS;exact⟨⟨k+1,_,_,_,_⟩,_,rfl,⟨⟨(by dsimp only; rw[hdl]; rfl),rfl,rfl,rfl,rfl,trivial⟩,_,hS.sel [true,true,false,true],by dsimp only; omega,hops⟩,by dsimp only; omega⟩)
     ·
      intro hc39
      try simp only[zA,zO,zN,zI,zF,zM,zT,zU]at hc39
      refine reg (qq hS (qb _) (qq hS (qa (o':=2) vO rfl vF rfl rfl rfl) (qq hS (qd 2 vV rfl rfl rfl) ?_)));refine qe (d_lit (vs:=[.int .i64 _]) (cs:=[.int .i64 _]) hS xk vF xL rfl rfl rfl rfl (fun v hv=>by simp only[vN,vP,or_false]at hv; subst hv; rfl) rfl) ?_;clear hS;rintro _ w_26⟨b27,rfl,hS⟩;have hF:=hS.freeze1;clear hS;obtain⟨I27,hS,hI27,hb27⟩:=hF;replace hops:=hops.mono hI27;replace hd:=hd.mono hI27;replace h20:=h20.mono hI27;have h27:=RFl.ofAt qO ([x.len]:List Int) hb27 rfl (by show 1≤maxLen; decide);have hS_o:St _ _ _ _ _ [_,_,_,_]:=hS.ord [0,1,2,3];replace hS:=hS_o;clear hS_o;refine qe (qg uK rfl (qK 3 wb _ _ _ _ _ _ _ _ _ (by decide) h27 (fun n hn=>by simp only[vN,vP,or_false]at hn; omega) (by simp only[vE,qE,List.length_cons,List.length_nil]; omega) (St.ownL hS))) ?_;rintro _ w_27⟨rfl,a28,c28,hE⟩;replace hS:=St.callL hS hE;refine qB (xO (vK (reg (qq hS (qb _) (qq hS (qa (o':=4) vO rfl xj rfl rfl rfl) (qq hS (qd 2 ub rfl rfl rfl) (qe (qW 3 hS rfl vH uH rfl rfl rfl rfl qx (fun _=>rfl) hd rfl (by omega) (by omega)) ?_)))))));clear hS;rintro _ w_28⟨a55,p55,rfl,hS⟩;refine qq hS (qc _) (qB (xO (vK (reg (qq hS (g_add rfl rfl (by omega) (by omega)) (qq hS (Qmi rfl) ?_))))))
      first
       | (have h2:lsP (p.ops.take (k+1))=lsP (p.ops.take k)++numsB 1 [x.kind]++numsB 3 [x.from_,x.len]:=by
           rw[hls]; unfold opB; rw[vJ (by omega)]; simp only[xa]
          rw[← h2,← ql,← vE,← hds]at hS;exact⟨⟨k+1,_,_,_,_⟩,_,rfl,⟨⟨(by dsimp only; rw[hdl]; rfl),rfl,rfl,rfl,rfl,trivial⟩,_,hS.sel [true,true,false,true],by dsimp only; omega,hops⟩,by dsimp only; omega⟩)
       | (have h2:lsP (p.ops.take (k+1))=lsP (p.ops.take k)++numsB 1 [x.kind]++numsB 3 [x.len]++numsB 1 [x.b]:=by
           rw[hls]; unfold opB; rw[vG (by omega),vJ (by omega)]; simp only[xa]
          rw[← h2,← ql,← vE,← hds]at hS;exact⟨⟨k+1,_,_,_,_⟩,_,rfl,⟨⟨(by dsimp only; rw[hdl]; rfl),rfl,rfl,rfl,rfl,trivial⟩,_,hS.sel [true,true,false,true],by dsimp only; omega,hops⟩,by dsimp only; omega⟩)
       | (have h2:lsP (p.ops.take (k+1))=lsP (p.ops.take k)++numsB 1 [x.kind]++numsB 3 [x.len]:=by
           rw[hls]; unfold opB; rw[vG (by omega),vG (by omega)]; simp only[xa]
          rw[← h2,← ql,← vE,← hds]at hS;exact⟨⟨k+1,_,_,_,_⟩,_,rfl,⟨⟨(by dsimp only; rw[hdl]; rfl),rfl,rfl,rfl,rfl,trivial⟩,_,hS.sel [true,true,false,true],by dsimp only; omega,hops⟩,by dsimp only; omega⟩)
  ·
   intro hc14
   try simp only[zA,zO,zN,zI,zF,zM,zT,zU]at hc14
   obtain rfl:k=p.ops.length:=by omega
   rw[xB]at hS ⊢;refine xm (xh (xh (ua (vK (vD ?_)))));have hF:=St.freezeRow (u:=.slice a (lsP p.ops).length c) (m:=(lsP p.ops).length) (xs:=(lsP p.ops)) qx (by exact hS.ord [0,1,2]) (rfl);clear hS;obtain⟨I_hr,hS,hI_hr,hr⟩:=hF;replace hops:=hops.mono hI_hr;have hF:=St.freezeRow (u:=.slice d (dtP p.ops).length e) (m:=(dtP p.ops).length) (xs:=(dtP p.ops)) qx (by exact hS.ord [1,0]) (rfl);clear hS;obtain⟨I_hq,hS,hI_hq,hq⟩:=hF;replace hops:=hops.mono hI_hq;replace hr:=hr.mono hI_hq;refine reg (qq hS (qb _) (qq hS (qi rfl) (qq hS (qa (o':=0) ux rfl xj rfl rfl rfl) (qq hS (qd 0 ub rfl rfl rfl) (qq hS (qb _) (qq hS (qc _) (qq hS (qc _) (QoN (vM (ret2 results45 (qh rfl) (qh rfl) ?_))))))))));exact⟨_,a,c,d,e,rfl,hS.nil,hr,hq⟩
end Go.Proofs.YtgkgihnpjgbmhaaGreatDoor
