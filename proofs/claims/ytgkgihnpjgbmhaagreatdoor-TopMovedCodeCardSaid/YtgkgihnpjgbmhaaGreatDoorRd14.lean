/- pack.read of a head that was packed: the patch, or that the length is wrong. Conditions: none. -/
import Derived.Test.YtgkgihnpjgbmhaaGreatDoorKR0
import Derived.Test.YtgkgihnpjgbmhaaGreatDoorPk14
set_option linter.unusedSimpArgs false
set_option linter.unusedVariables false
namespace Go.Proofs.YtgkgihnpjgbmhaaGreatDoor
open Tryz
open Go Go.RowKit Go.Inl
theorem headP_app (p:PatL)(r:List Int):headP p++r=numB 1 80++(numB 1 (lft p)++(numB 3 p.in_++(numB 3 p.out++(numB 2 (p.ops.length:Int)++(numB 3 ((lsP p.ops).length:Int)++(numB 3 ((code1 (lsP p.ops)).length:Int)++(numB 3 ((dtP p.ops).length:Int)++(numB 3 ((code2 (dtP p.ops)).length:Int)++r)))))))):=by
 unfold headP numsB;simp only[Ja,List.flatMap_cons,List.flatMap_nil,List.append_nil,uh]
structure HdT (p : PatL) (r bb t1 t2 t3 t4 t5 t6 t7 t8 : List Int) : Prop where
 e0:bb=numB 1 80++t1
 e1:t1=numB 1 (lft p)++t2
 e2:t2=numB 3 p.in_++t3
 e3:t3=numB 3 p.out++t4
 e4:t4=numB 2 (p.ops.length:Int)++t5
 e5:t5=numB 3 ((lsP p.ops).length:Int)++t6
 e6:t6=numB 3 ((code1 (lsP p.ops)).length:Int)++t7
 e7:t7=numB 3 ((dtP p.ops).length:Int)++t8
 e8:t8=numB 3 ((code2 (dtP p.ops)).length:Int)++r
 b1:Byt t1
 b2:Byt t2
 b3:Byt t3
 b4:Byt t4
 b5:Byt t5
 b6:Byt t6
 b7:Byt t7
 b8:Byt t8
theorem hdT_of (p:PatL)(r bb:List Int)(h:bb=headP p++r)(hr:Byt r):∃t1 t2 t3 t4 t5 t6 t7 t8,HdT p r bb t1 t2 t3 t4 t5 t6 t7 t8:=by
 have b8:=jw (jq 3 ((code2 (dtP p.ops)).length:Int)) hr;have b7:=jw (jq 3 ((dtP p.ops).length:Int)) b8;have b6:=jw (jq 3 ((code1 (lsP p.ops)).length:Int)) b7;have b5:=jw (jq 3 ((lsP p.ops).length:Int)) b6;have b4:=jw (jq 2 (p.ops.length:Int)) b5;have b3:=jw (jq 3 p.out) b4;have b2:=jw (jq 3 p.in_) b3;have b1:=jw (jq 1 (lft p)) b2;exact⟨_,_,_,_,_,_,_,_,h.trans (headP_app p r),rfl,rfl,rfl,rfl,rfl,rfl,rfl,rfl,b1,b2,b3,b4,b5,b6,b7,b8⟩
theorem lsP_drop {l:List OpL}{k:Nat}{x:OpL}(h:l[k]? = some x):lsP (l.drop k)=opB x++lsP (l.drop (k+1)):=by rw[zx h]; rfl
theorem dtP_drop {l:List OpL}{k:Nat}{x:OpL}(h:l[k]? = some x):dtP (l.drop k)=x.data++dtP (l.drop (k+1)):=by rw[zx h]; rfl
theorem lft_bool (p:PatL):decide (lft p=1)=p.lifted:=by unfold lft; cases p.lifted <;> rfl
theorem inv46 (b:Nat)(w:World):(invoke (.fn (.func 97) [.zg b].toArray) #[]).run prog w = .ok (.enter 97 [.zg b].toArray) w:=by
 simp[invoke,call97]
structure RdW where
 k:Nat
 css:List (List Value)
 a:Option Addr
 c:Nat
 la:Option Addr
 lc:Nat
 da:Option Addr
 dc:Nat
theorem code1_eq (b:List Int):encP mdl1 adOne b=code1 b:=rfl
theorem code2_eq (b:List Int):encP mdl2 s2z b=code2 b:=rfl
attribute [local irreducible] packP bodyP headP code1 code2 sumP numsB
set_option maxHeartbeats 2000000 in
theorem read_c (p : PatL) (hp : p.wf) (hG : PatG p) (hsh : ∀ x ∈ p.ops, OpS x) (ad : Option Addr) (cap : Nat) (rest bb : List Int) (hrb : Byt rest) (hbe : bb = headP p ++ rest) (hre : bb.length = 26 + (code1 (lsP p.ops)).length + (code2 (dtP p.ops)).length → ∃ s, rest = code1 (lsP p.ops) ++ (code2 (dtP p.ops) ++ s)) (w0 : World) (I0 : Imm) (hI : Sat I0 w0) (hb : RBytes I0 (.sg ad bb.length cap) bb) :
 Ctr prog 50 [.sg ad bb.length cap] w0 (fun v w'=>∃I' q ok a m c,v = .tuple #[.agg #[.bool q.lifted,.ig q.in_,.ig q.out,.sg a m c],.bool ok]∧Ext w0 I0 w' I'∧ROps I' (.sg a m c) q.ops∧q.wf∧(ok=true↔bb.length=26+(code1 (lsP p.ops)).length+(code2 (dtP p.ops)).length)∧(ok=true→q=p)):=by
 have hll:=RSl.le hb;simp only[maxLen]at hll;obtain⟨t1,t2,t3,t4,t5,t6,t7,t8,hT⟩:=hdT_of p rest bb hbe hrb;obtain⟨hG1,hG2⟩:=hG.in_;obtain⟨hG3,hG4⟩:=hG.out;have hG5:=hG.n;have hG6:=hG.dat;have hlb:lft p=0∨lft p=1:=by unfold lft; split <;> omega
 have hl0:=lsP_le p.ops;have hl1:=(vB (zJ p.ops)).2;have hl2:=(vA (yI hG.ops)).2;refine fnD (n:=70) func50 rfl rfl rfl ?_;have Z:=St.start hI;refine QwR (qe (qr (cs:=[.bool _,.ig _,.ig _,.sg _ _ _]) Z uK rfl) ?_);clear Z;rintro _ w_1⟨b2,rfl,Z⟩;refine qe (qr (cs:=[.bool _]) Z JN rfl) ?_;clear Z;rintro _ w_2⟨b3,rfl,Z⟩;refine QoN (xJ (reg_defer (lc:=[.tmp 3]) (cs:=[.zg b3]) rfl rfl rfl (xL (QwR (qq Z (qb _) (qq Z (qs (pl:=[(0,1)]) (cs:=[.sg _ _ _]) zeroValue186 Jy (fun w=>by simp[uI]) (mp rfl mp0) rfl) (qe (d_box (cs:=[.sg _ _ _]) Z rfl) ?_)))))));clear Z;rintro _ w_3⟨rd,rfl,Z⟩;refine qq Z (qd _) (QoR (qq Z (qb _) ?_));refine qe (qi JK rfl (kG rd _ _ bb (numB 1 80) t1 1 _ _ Z.imm (qG Z (k:=0) rfl) (qF Z (k:=0) rfl) hb hT.e0 (by rw[kz]; rfl))) ?_;rintro _ w_4⟨a17,c17,aL,cL,rfl,hE,h17,hsL⟩;replace Z:=Z.callX (k:=0) rfl hE;refine QoR (qq Z (qb _) (qe (qi Jg rfl (num_c rd _ _ _ 1 (lft p) (t2) _ _ Z.imm (qG Z (k:=0) rfl) (qF Z (k:=0) rfl) hsL hT.e1 (by decide) (yu (by omega)) hT.b2)) ?_));rintro _ w_5⟨aL,cL,rfl,hE,hsL⟩;replace Z:=Z.callX (k:=0) rfl hE;refine qq Z (kt (g_eql rfl rfl) (congrArg Value.bool (lft_bool p))) (qq Z (qa (o':=0) uk rfl uy rfl rfl rfl) (qe (qf 2 Z uy rfl rfl rfl (vs:=[.bool _]) rfl rfl rfl (xH rfl) (cs':=[_,_,_,_]) rfl) ?_));clear Z;rintro _ w_6⟨rfl,Z⟩;refine QoR (qq Z (qb _) (qe (qi Jg rfl (num_c rd _ _ _ 3 p.in_ (t3) _ _ Z.imm (qG Z (k:=0) rfl) (qF Z (k:=0) rfl) hsL hT.e2 (by decide) (ji (by omega)) hT.b3)) ?_));rintro _ w_7⟨aL,cL,rfl,hE,hsL⟩;replace Z:=Z.callX (k:=0) rfl hE
 refine qq Z (qb _) (qe (qi Jg rfl (num_c rd _ _ _ 3 p.out (t4) _ _ Z.imm (qG Z (k:=0) rfl) (qF Z (k:=0) rfl) hsL hT.e3 (by decide) (ji (by omega)) hT.b4)) ?_);rintro _ w_8⟨aL,cL,rfl,hE,hsL⟩;replace Z:=Z.callX (k:=0) rfl hE;refine qq Z (qa (o':=1) uk rfl xK rfl rfl rfl) (qe (qf 2 Z xK rfl rfl rfl (vs:=[.ig _]) rfl rfl rfl (xH rfl) (cs':=[_,_,_,_]) rfl) ?_);clear Z;rintro _ w_9⟨rfl,Z⟩;refine qq Z (qa (o':=2) uk rfl xK rfl rfl rfl) (qe (qf 2 Z xK rfl rfl rfl (vs:=[.ig _]) rfl rfl rfl (xH rfl) (cs':=[_,_,_,_]) rfl) ?_);clear Z;rintro _ w_10⟨rfl,Z⟩;refine QoR (qq Z (qb _) (qe (qi Jg rfl (num_c rd _ _ _ 2 (p.ops.length:Int) (t5) _ _ Z.imm (qG Z (k:=0) rfl) (qF Z (k:=0) rfl) hsL hT.e4 (by decide) (valC_num2 (by omega)) hT.b5)) ?_));rintro _ w_11⟨aL,cL,rfl,hE,hsL⟩;replace Z:=Z.callX (k:=0) rfl hE;refine qq Z (Qai rfl) (QoR (qq Z (qb _) (qe (qi Jg rfl (num_c rd _ _ _ 3 ((lsP p.ops).length:Int) (t6) _ _ Z.imm (qG Z (k:=0) rfl) (qF Z (k:=0) rfl) hsL hT.e5 (by decide) (ji (by omega)) hT.b6)) ?_)));rintro _ w_12⟨aL,cL,rfl,hE,hsL⟩;replace Z:=Z.callX (k:=0) rfl hE;refine qq Z (qb _) (qe (qi Jg rfl (num_c rd _ _ _ 3 ((code1 (lsP p.ops)).length:Int) (t7) _ _ Z.imm (qG Z (k:=0) rfl) (qF Z (k:=0) rfl) hsL hT.e6 (by decide) (ji (by omega)) hT.b7)) ?_);rintro _ w_13⟨aL,cL,rfl,hE,hsL⟩;replace Z:=Z.callX (k:=0) rfl hE;refine qq Z (qb _) (qe (qi Jg rfl (num_c rd _ _ _ 3 ((dtP p.ops).length:Int) (t8) _ _ Z.imm (qG Z (k:=0) rfl) (qF Z (k:=0) rfl) hsL hT.e7 (by decide) (ji (by omega)) hT.b8)) ?_);rintro _ w_14⟨aL,cL,rfl,hE,hsL⟩
 replace Z:=Z.callX (k:=0) rfl hE;refine qq Z (qb _) (qe (qi Jg rfl (num_c rd _ _ _ 3 ((code2 (dtP p.ops)).length:Int) (rest) _ _ Z.imm (qG Z (k:=0) rfl) (qF Z (k:=0) rfl) hsL hT.e8 (by decide) (ji (by omega)) hrb)) ?_);rintro _ w_15⟨aL,cL,rfl,hE,hsL⟩;replace Z:=Z.callX (k:=0) rfl hE;refine qq Z (Qai rfl) (qq Z (Qai rfl) (qq Z (Qai rfl) (qq Z (Qai rfl) (QoN (xJ (QwR (qq Z (qb _) (qq Z (qo rfl xQ hb rfl) (qq Z (Qmi rfl) (qq Z (g_add rfl rfl (by omega) (by omega)) (qq Z (Qmi rfl) (qq Z (g_add rfl rfl (by omega) (by omega)) (qq Z (g_add rfl rfl (by omega) (by omega)) (qq Z (g_neq rfl rfl) ?_))))))))))))));refine QoN (qh rfl ?_ ?_)
 ·
  intro hc45
  try simp only[zA,zO,zN,zI,zF,zM,zT,zU]at hc45
  refine QwR (qq Z (g_ldO 2 (vs:=[.bool _,.ig _,.ig _,.sg _ _ _]) ug uO rfl rfl rfl rfl) (qe (qf 2 Z ug rfl rfl rfl (vs:=[.bool _,.ig _,.ig _,.sg _ _ _]) rfl rfl rfl (xH rfl) (cs':=[_,_,_,_]) rfl) ?_));clear Z;rintro _ w_16⟨rfl,Z⟩;refine qe (qf 1 Z uy rfl rfl rfl (vs:=[.bool _]) rfl rfl rfl (xH rfl) (cs':=[_]) rfl) ?_;clear Z;rintro _ w_17⟨rfl,Z⟩;refine QoN (xO (ul (retDf2 (inv46 b3) (fun w=>readD_idle b3 w) results50 (qw 2 Z ug uO rfl rfl rfl) (rv_cel1 1 Z QA rfl rfl rfl) ?_)));exact⟨_,⟨p.lifted,p.in_,p.out,[]⟩,false,none,0,0,rfl,Z.nil,RSl.nilR,⟨hp.in_,hp.out,(fun x hx=>by cases hx),by show(0:Int)≤1099511627776; decide⟩,⟨fun h=>(by cases h),fun h=>by omega⟩,fun h=>(by cases h)⟩
 ·
  intro hc45
  try simp only[zA,zO,zN,zI,zF,zM,zT,zU]at hc45
  obtain⟨s,hrs⟩:=hre (by omega);refine xM (xL (QwR (qq Z (qb _) (qq Z (Qmi rfl) (qe (qi JK rfl (kG rd _ _ rest (code1 (lsP p.ops)) (code2 (dtP p.ops)++s) _ _ _ Z.imm (qG Z (k:=0) rfl) (qF Z (k:=0) rfl) hsL hrs rfl)) ?_)))));rintro _ w_18⟨a49,c49,aL,cL,rfl,hE,h49,hsL⟩;replace Z:=Z.callX (k:=0) rfl hE;refine qq Z (Qmi rfl) (qe (qi call100 rfl (decode_c mdl1 mdl1_ok adOne adOne_ok 1 (fun w I h=>begin1_c w I h) (lsP p.ops) (zJ _) (by omega) _ _ _ (code1_eq _) _ _ Z.imm h49)) ?_);rintro _ w_19⟨I_f,rl,al,cl,rfl,hE,hls⟩;replace Z:=Z.call hE;replace hsL:=hsL.mono hE.ext;refine qq Z (qd _) (QoR (qq Z (qb _) (qq Z (Qmi rfl) (qe (qi JK rfl (kG rd _ _ (code2 (dtP p.ops)++s) (code2 (dtP p.ops)) s _ _ _ Z.imm (qG Z (k:=1) rfl) (qF Z (k:=1) rfl) hsL rfl rfl)) ?_))));rintro _ w_20⟨a54,c54,aL,cL,rfl,hE,h54,hsL⟩;replace Z:=Z.callX (k:=1) rfl hE;refine qq Z (Qmi rfl) (qe (qi call100 rfl (decode_c mdl2 mdl2_ok s2z s2z_ok 2 (fun w I h=>begin2_c w I h) (dtP p.ops) (yI hG.ops) hG.dat _ _ _ (code2_eq _) _ _ Z.imm h54)) ?_);rintro _ w_21⟨I_f,rdt,adt,cdt,rfl,hE,hdt⟩;replace Z:=Z.call hE;replace hls:=hls.mono hE.ext;refine qq Z (qd _) (QoN (xJ (QwR (qq Z (Qmi rfl) (qq Z (Qmi rfl) (QoN (xU (loop (fun(x:RdW) σ w=>okS σ [(2,.zg b2),(3,.zg b3),(10,.zg rl),(11,.zg rdt),(57,.ig p.ops.length),(58,.ig x.k)]∧∃I,St [] w0 I0 I w [.cel rl 186 [.slice x.la (lsP (p.ops.drop x.k)).length x.lc],.cel rdt 186 [.slice x.da (dtP (p.ops.drop x.k)).length x.dc],.row (.sg x.a x.k x.c) 57 5 x.k x.css.flatten,.cel b3 4 [.bool false],.cel b2 26 [.bool p.lifted,.ig p.in_,.ig p.out,.sg x.a x.k x.c]]∧x.k≤p.ops.length∧RBytes I (.slice x.la (lsP (p.ops.drop x.k)).length x.lc) (lsP (p.ops.drop x.k))∧RBytes I (.slice x.da (dtP (p.ops.drop x.k)).length x.dc) (dtP (p.ops.drop x.k))∧All2 (ROp I) x.css (p.ops.take x.k)∧(∀cs∈x.css,cs.length=5)) (fun x=>p.ops.length - x.k) (⟨0,[],none,0,al,cl,adt,cdt⟩) ?_ ?_))))))))
  ·
   exact⟨⟨rfl,rfl,rfl,rfl,rfl,rfl,trivial⟩,_,((Z.sel [true,true,false,true,true]).nilRow 57 5).ord [2,1,0,3,4],Nat.zero_le _,hls,hdt,All2.nil _,by simp⟩
  ·
   clear Z;rintro⟨k,css,a,c,la,lc,da,dc⟩σ w_l⟨hs,I,Z,hk0,hls,hdt,hall,hcl⟩;dsimp only at hs Z hk0 hls hdt hall hcl ⊢;rw[← qj hs]; clear hs
   refine QwR (qq Z (g_lss rfl rfl) (QoN (xJ (qh rfl ?_ ?_))))
   ·
    intro hc59
    try simp only[zA,zO,zN,zI,zF,zM,zT,zU]at hc59
    obtain⟨x,hx⟩:∃x,p.ops[k]? = some x:=⟨_,xI (by omega)⟩
    have hxm:=xR hx;rw[lsP_drop hx]at Z hls;rw[dtP_drop hx]at Z hdt;refine xM (xL (xJ (xU (drawS [false,false,true,true,true] (.pg 0 (.hg 1 (.pg 2 (.pg 3 (.cons 4 .eff (.cons 5 .eff (.cons 6 .bar (.pg 7 (.cons 8 .bar .nil))))))))) mixed (by kernel_rfl) Z ?_))));intro w_22 Z;refine sp rfl (qa (o':=3) uk rfl Qm rfl rfl rfl) (sh rfl (qc 2 Jo rfl rfl rfl) (sp rfl (qb _) (sp rfl (qb _) ?_)));have hS0:=Z;refine se rfl (qi call101 rfl (op_c x (hG.ops x hxm) (hsh x hxm) (lsP (p.ops.drop (k+1))) (dtP (p.ops.drop (k+1))) (zJ _) rl rdt _ _ _ _ _ _ _ hls hdt (St.ownA [_,_] Z))) ?_;rintro _ w_23⟨I_f,a64,m64,c64,la2,lc2,da2,dc2,rfl,hE,h64,hls2,hdt2⟩;replace Z:=St.callA [_,_] Z hE;replace hls2:=hls2.mono hE.ext;replace hdt2:=hdt2.mono hE.ext;replace hall:=hall.mono fun _ _ h=>h.mono hE.ext
    refine⟨_,_,(hS0.sel [false,false,true,true,true]).le hE.ext (uu _),Z.sel [false,false,true,true,true],?_⟩;have hS0:=Z;refine se rfl (d_lit (vs:=[.agg #[.ig _,.ig _,.ig _,.bg _,.sg _ _ _]]) (cs:=[.ig _,.ig _,.ig _,.bg _,.sg _ _ _]) Z Qn uz QE rfl rfl rfl rfl (fun v hv=>by simp only[xV,xY,or_false]at hv; subst hv; rfl) rfl) ?_;rintro _ w_24⟨b65,rfl,Z⟩;refine⟨_,_,(hS0.sel [false,false,true,true,true]).le (Sub.refl _) (uq _ _),Z.sel [true,false,false,true,true,true],sb rfl (qB 3 0 Z rfl Qn info57 rfl rfl rfl rfl rfl rfl rfl rfl (by omega) (by omega)) ?_⟩;rintro _ w_25⟨a66,p66,rfl,Z⟩;refine⟨_,_,Z,sp rfl (qa (o':=3) uk rfl Qm rfl rfl rfl) (sb rfl (qf 5 Z Qm rfl rfl rfl (vs:=[.sg _ _ _]) rfl rfl rfl (xH rfl) (cs':=[_,_,_,_]) rfl) ?_)⟩;rintro _ w_26⟨rfl,Z⟩;refine⟨_,_,Z,sn (uM (xL (reg (qq Z (g_add rfl rfl (by omega) (by omega)) (qq Z (Qmi rfl) ?_)))))⟩;refine⟨⟨k+1,css++[[.ig x.kind,.ig x.from_,.ig x.len,.bg x.b,.sg a64 m64 c64]],a66,p66,la2,lc2,da2,dc2⟩,_,rfl,⟨⟨rfl,rfl,rfl,rfl,rfl,rfl,trivial⟩,_,?_,by dsimp only; omega,hls2,hdt2,?_,?_⟩,by dsimp only; omega⟩
    · dsimp only
      rw[JO,List.flatten_singleton];exact Z.ord [1,2,3,4,5]
    · dsimp only
      rw[qz hx];exact All2.snoc hall ⟨_,_,_,rfl,h64⟩
    · intro cs hcs
      rcases uJ.1 hcs with h | h
      · exact hcl cs h
      · simp only[uG]at h; subst h; rfl
   ·
    intro hc59
    try simp only[zA,zO,zN,zI,zF,zM,zT,zU]at hc59
    obtain rfl:k=p.ops.length:=by omega
    rw[uL]at hall;refine ur (um (um (Qi (xL (QwR (qq Z (g_ldO 4 (vs:=[.bool _,.ig _,.ig _,.sg _ _ _]) ug uO rfl rfl rfl rfl) (qe (qf 4 Z ug rfl rfl rfl (vs:=[.bool _,.ig _,.ig _,.sg _ _ _]) rfl rfl rfl (xH rfl) (cs':=[_,_,_,_]) rfl) ?_)))))));clear Z;rintro _ w_27⟨rfl,Z⟩;refine qe (qf 3 Z uy rfl rfl rfl (vs:=[.bool _]) rfl rfl rfl (xH rfl) (cs':=[_]) rfl) ?_;clear Z;rintro _ w_28⟨rfl,Z⟩;refine QoN (xO (retDf2 (inv46 b3) (fun w=>readD_idle b3 w) results50 (qw 4 Z ug uO rfl rfl rfl) (rv_cel1 3 Z QA rfl rfl rfl) ?_));obtain⟨I6,hS3,hI3,ho3⟩:=St.freezeRowR (Z.sel [false,false,true,false,false]) rfl hcl hall;exact⟨I6,p,true,a,p.ops.length,c,rfl,hS3,RSl.mono ho3 (Sub.refl _) fun _ _ h=>h.mono hI3,hp,⟨fun _=>by omega,fun _=>rfl⟩,fun _=>rfl⟩
end Go.Proofs.YtgkgihnpjgbmhaaGreatDoor
