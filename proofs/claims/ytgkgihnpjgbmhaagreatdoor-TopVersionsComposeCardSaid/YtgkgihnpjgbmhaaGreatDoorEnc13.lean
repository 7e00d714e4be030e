/- coder.Encode: what it computes, for any model. Conditions: at most 65536 bytes. -/
import Derived.Test.YtgkgihnpjgbmhaaGreatDoorTrim13
set_option linter.unusedSimpArgs false
set_option linter.unusedVariables false
namespace Go.Proofs.YtgkgihnpjgbmhaaGreatDoor
open Tryz
open Go Go.RowKit Go.Inl
section
variable {P:Program} {n:Nat} {σ:Nat→Value} {S:World→Prop} {t t' ty:TypeId} {x y:Operand} {k k':IntKind} {a b c:Int}
theorem kj (hx:ev n σ x = .int k a)(hy:ev n σ y = .int k b)(h:k.wrap (a*b)=c):Gives P (ev n σ) S (.binOp .mul t x y t') ty (.int k c):=by subst h; exact g_mulw hx hy
theorem ye (hx:ev n σ x = .int k a)(hy:ev n σ y = .int k b)(h:k.wrap (a+b)=c):Gives P (ev n σ) S (.binOp .add t x y t') ty (.int k c):=by subst h; exact kV hx hy
theorem g_subu (hx:ev n σ x = .int k a)(hy:ev n σ y = .int k b)(h:k.wrap (a - b)=c):Gives P (ev n σ) S (.binOp .sub t x y t') ty (.int k c):=by subst h; exact fun _ _=>jr hx hy (by simp[binOp,Op.intArith])
theorem vz {s:Nat}(hx:ev n σ x = .int .u64 a)(hy:ev n σ y = .int k' (s:Int))(hs:s≤64)(ha:0≤a)(h:a / 2 ^ s=c):Gives P (ev n σ) S (.binOp .shr t x y t') ty (.int .u64 c):=fun w _=>by
 subst h;have h1:¬(s:Int) < 0:=by omega
 have h2:min s (IntKind.u64.bits)=s:=Nat.min_eq_left hs;simp[execOp,hx,hy,Sem.run_bind,eqGuard,binOp,Op.shift,h1,h2,Result.andThen,Int.fdiv_eq_ediv_of_nonneg]
theorem jm {d:TypeDesc}(hs:P.underlying t=some d)(hd:P.underlying t'=some (.int k'))(hx:ev n σ x = .int k a)(h:k'.wrap a=c):Gives P (ev n σ) S (.convert t t' x) ty (.int k' c):=by subst h; exact vo hs hd hx
theorem g_ifaceNil {T:TypeId}{v:Value}(ht:P.underlying t=some (.interface (P.methodsAt t)))(hx:ev n σ x = .iface T v)(hy:ev n σ y = .nilIface):Gives P (ev n σ) S (.binOp .eql t x y t') ty (.bool false):=fun w _=>by
 simp[execOp,hx,hy,Sem.run_bind,eqGuard,Result.andThen,run_eql_held_nil w t T v ht]
theorem g_sliceArrT {e : TypeId} {N sz b o h0 : Nat} {K : IntKind} {h : Int} {hi : Operand} (hA : P.underlying t = some (.array N e)) (hs : ∀ w, (sizeOf e).run P w = .ok sz w)
 (hx:ev n σ x = .pointer (some ⟨b,o,none⟩)) (hh:ev n σ hi = .int K h) (h1:0≤h) (h2:h≤N) (h3:h.toNat=h0) :
 Gives P (ev n σ) S (.slice t x none (some hi) none) ty (.slice (some ⟨b,o,none⟩) h0 N):=fun w _=>by
 subst h3;have e2:(Instr.sliceBound (.int K h) N .sliceAlen).run P w = .ok h.toNat w:=run_sliceBound w K h _ _ (by omega) (by omega);simp[execOp,Instr.sliceAt,Sem.run_bind,run_underlying hA,hx,Instr.sureAddr,Instr.sliceBounds,hh,e2,hs,Addr.add]
end
def encF (M:Mdl)(p:Cs×M.S)(x:Int):Cs×M.S:=(stepC p.1 (M.tab p.2) x.toNat,M.nxt p.2 x.toNat)
def encUp (M:Mdl)(s0:M.S)(b:List Int)(k:Nat):Cs×M.S:=(b.take k).foldl (encF M) (startC,s0)
theorem zv {M:Mdl}{s0:M.S}{b:List Int}{k:Nat}{x:Int}(h:b[k]? = some x):encUp M s0 b (k+1)=encF M (encUp M s0 b k) x:=by
 unfold encUp; rw[qy h,List.foldl_append]; rfl
theorem tail_flat (s:Cs):flat byteC (tailC s)=flat byteC s.out++[.int .u8 (s.low / 16777216),.int .u8 (s.low / 65536 % 256),.int .u8 (s.low / 256 % 256),.int .u8 (s.low % 256)]:=by unfold tailC; rw[ql]; rfl
theorem kL (s:Cs):(tailC s).length=s.out.length+4:=by unfold tailC; rw[vE]; rfl
def encP (M:Mdl)(s0:M.S)(b:List Int):List Int:=trimZ (tailC (encUp M s0 b b.length).1)
theorem model_ty:prog.underlying 174=some (.interface (prog.methodsAt 174)):=by kernel_rfl
structure EncW (M : Mdl) where
 k:Nat
 cs:Cs
 s:M.S
 a:Option Addr
 c:Nat
structure CarW where
 i:Nat
 l:List Int
structure NrmW where
 j:Nat
 s:Cs
 a:Option Addr
 c:Nat
theorem jL (l:List Int):(carried l).length=l.length:=by
 have h:∀(k:Nat) (l:List Int),(carryAt l k).length=l.length:=by
  intro k;induction k with
  | zero=>intro l; rfl
  | succ k ih=>intro l; unfold carryAt; split; rw[ih,vR]; rw[vR]
 exact h _ _
theorem yr (s:Cs)(r b c:Int):(putC s r b c).out.length=s.out.length:=by unfold putC; split; exact jL _; rfl
set_option maxRecDepth 20000 in
set_option maxHeartbeats 2000000 in
theorem enc_c (M : Mdl) (hM : MdlOk M) (s0 : M.S) (hs0 : M.inv s0) (n : Int) (hbeg : ∀ (w : World) (I : Imm), Sat I w → Ctr prog 94 [.int .i64 n] w (fun v w' => ∃ I' F, Ext w I w' I' ∧ M.holds I' v s0 F ∧ ∀ c ∈ F, w.heap.size ≤ c))
 (ad:Option Addr) (cap:Nat) (b:List Int) (w0:World) (I0:Imm) (hI:Sat I0 w0) (hb:RBytes I0 (.slice ad b.length cap) b) (hbb:∀y∈b,0≤y∧y≤255) (hbl:b.length≤65536) :
 Ctr prog 46 [.int .i64 n,.slice ad b.length cap] w0 (fun v w'=>∃I' a c,v = .tuple #[.slice a (encP M s0 b).length c,.int .i64 0]∧Ext w0 I0 w' I'∧RBytes I' (.slice a (encP M s0 b).length c) (encP M s0 b)):=by
 have hll:=RSl.le hb;simp only[maxLen]at hll;refine fn (n:=112) func46 rfl rfl rfl ?_;have hS:=St.start hI;refine QwR (qq hS (qc _) (qq hS (Qai rfl) (QoR (qq hS (Qmi rfl) (qe (qg call94 rfl (hbeg _ _ hS.imm)) ?_)))));rintro mv w_1⟨I1,F1,hE,hH1,hF1⟩;replace hS:=hS.callE hE;obtain⟨mT,mx,hmv⟩:=hM.iface _ _ _ _ hH1;have hFn1:∀c∈F1,w0.heap.size≤c:=fun c hc=>hF1 c hc
 refine qq hS (qc _) (QoN (vD (vS (QwR (qq hS (qb _) (qq hS (g_ifaceNil model_ty hmv rfl) (qq hS (Qab rfl) (QoN (jf (rfl) (QwR (qq hS (qb _) (qq hS (qo rfl vH (hb.mono hS.ext) rfl) (qq hS (g_gtr rfl rfl) (qq hS (Qab rfl) (QoN (jf (congrArg Value.bool (xX (by omega))) (vL (xO (vK (QwR (qq hS (qc _) (QoR ?_))))))))))))))))))))));refine qq hS (qr (v:=.int .u64 _) rfl) (qq hS (qr (v:=.int .u64 _) rfl) (QoN (vD (QwR (qq hS (qb _) (qq hS (qo rfl vH (hb.mono hS.ext) rfl) (qq hS (Qmi rfl) (QoN (vS (loop (fun(x:EncW M) σ w=>okS σ [(6,mv),(7,.slice x.a x.cs.out.length x.c),(8,.int .u64 x.cs.low),(9,.int .u64 x.cs.size),(25,.slice ad b.length cap),(26,.int .i64 b.length),(27,.int .i64 x.k)]∧∃I,St [] w0 I0 I w [.row (.slice x.a x.cs.out.length x.c) 5 1 x.cs.out.length (flat byteC x.cs.out)]∧x.k≤b.length∧encUp M s0 b x.k=(x.cs,x.s)∧Good13 x.cs∧M.inv x.s∧x.cs.out.length≤4*x.k∧∃F,M.holds I mv x.s F∧∀c∈F,w0.heap.size≤c) (fun x=>b.length - x.k) (⟨0,startC,s0,none,0⟩) ?_ ?_))))))))))
 ·
  exact⟨⟨rfl,rfl,rfl,rfl,rfl,rfl,rfl,trivial⟩,_,(hS.sel []).nilRow _ _,by dsimp only; omega,rfl,⟨yD,by show(16777216:Int)≤4294967295; decide⟩,hs0,vX _,F1,hH1,hFn1⟩
 ·
  rintro⟨k,cs,s,a,c⟩σ w_l⟨hs,I,hS,hk0,hup,hGd,hMi,hol,F,hH,hFn⟩;dsimp only at hs hS hk0 hup hGd hMi hol hH ⊢;rw[← qk hs]; clear hs
  refine QwR (qq hS (g_lss rfl rfl) (QoN (vD (qj rfl ?_ ?_))))
  ·
   intro hc28
   try simp only[zA,zO,zN,zI,zF,zM,zT,zU]at hc28
   obtain⟨y,hyi⟩:∃y,b[k]? = some y:=⟨_,vC (by omega)⟩
   have hyA:=(hb.mono hS.ext).at hyi;have hyb:=hbb y (vI hyi);have hnx:=zv (M:=M) (s0:=s0) hyi;rw[hup]at hnx;have hA:=hM.tab s hMi;obtain⟨A,hAe⟩:∃A,M.tab s=A:=⟨_,rfl⟩
   have hg2:=zd hGd hA (show y.toNat < 256 by omega);have hMi2:=hM.nxt s y.toNat hMi (by omega);replace hnx:encUp M s0 b (k+1)=(stepC cs A y.toNat,M.nxt s y.toNat):=by rw[hnx]; unfold encF; rw[hAe]
   rw[hAe]at hA hg2;obtain⟨q1,q2,q3⟩:=qS A.c y.toNat hA.pos (by rw[hA.len]; omega);rw[hA.sum]at q3;have hAt:1≤A.t∧A.t≤65536:=⟨by omega,hA.top⟩
   obtain⟨r1,r2⟩:=kp hGd.big hAt;obtain⟨u1,u2⟩:=hGd.ok.low;obtain⟨u3,u4⟩:=hGd.ok.size;have hpo:=vx hGd.ok (r:=cs.size / A.t) (before:=(A.c.take y.toNat).sum) (cnt:=A.c.getD y.toNat 0) (t:=A.t) (by omega) q1 q2 q3 r2;obtain⟨before,hbf⟩:∃x,(A.c.take y.toNat).sum=x:=⟨_,rfl⟩
   obtain⟨cnt,hct⟩:∃x,A.c.getD y.toNat 0=x:=⟨_,rfl⟩
   obtain⟨r,hr⟩:∃x,cs.size / A.t=x:=⟨_,rfl⟩
   have hcn:A.c[y.toNat]? = some cnt:=by rw[← hct,vQ]; rw[vC (show y.toNat < A.c.length by rw[hA.len]; omega)]; rfl
   rw[hbf]at q1 q3 hpo;rw[hct]at q2 q3 hpo;rw[hr]at r1 r2 hpo;have e1:r*before+r*cnt≤r*A.t:=by rw[← Int.mul_add]; exact Int.mul_le_mul_of_nonneg_left q3 (by omega)
   have e2:0≤r*before:=Int.mul_nonneg (by omega) q1;have e3:1≤r*cnt:=by have:=Int.mul_le_mul (show 1≤r by omega) q2 (by omega) (by omega); omega
   have hrle:r≤cs.size:=by rw[← hr]; exact Int.ediv_le_self _ (by omega)
   obtain⟨rb,hrb⟩:∃x,r*before=x:=⟨_,rfl⟩
   obtain⟨rc,hrc⟩:∃x,r*cnt=x:=⟨_,rfl⟩
   rw[hrb]at e1 e2;rw[hrc]at e1 e3;have hrw:IntKind.u64.wrap (cs.size / A.t)=r:=by rw[hr,IntKind.wrap_u64]; omega
   have hcb:∀n∈A.c.take y.toNat,0≤n∧n≤4294967295:=fun n hn=>by
    have h0:=List.mem_of_mem_take hn;obtain⟨j,hj,hjn⟩:=List.getElem_of_mem h0;have h2:=qS A.c j hA.pos hj;rw[vQ,vC hj,hA.sum]at h2;simp at h2; omega
   have hty:y.toNat=(A.c.take y.toNat).length:=by rw[xc,hA.len]; omega
   have hm1:IntKind.u64.wrap (r*(A.c.take y.toNat).sum)=rb:=by rw[hbf,hrb,IntKind.wrap_u64]; omega
   have hm2:IntKind.u64.wrap (cs.low+rb)=cs.low+rb:=by rw[IntKind.wrap_u64]; omega
   have hm3:IntKind.u64.wrap cnt=cnt:=by rw[IntKind.wrap_u64]; omega
   have hm4:IntKind.u64.wrap (r*cnt)=rc:=by rw[hrc,IntKind.wrap_u64]; omega
   have hstep:stepC cs A y.toNat=normC 4 (putC cs r before cnt):=by unfold stepC; rw[hr,hbf,hct]
   have hpl:=yr cs r before cnt;obtain⟨P1,hP1⟩:∃P,putC cs r before cnt=P:=⟨_,rfl⟩
   rw[hP1]at hpo hstep hpl;rw[hstep]at hnx hg2;refine vL (vK (vD (vS (QwR (qq hS (g_ixI vH xd (hb.mono hS.ext) rfl rfl (by omega) (by omega)) (qq hS (qJ xR hyA rfl rfl) (qq hS (qr (v:=.int .u8 _) rfl) (QoR (qq hS (qb _) (qe (hM.counts _ mv s F hS.imm hH hMi rfl) ?_))))))))));rintro v33 w_2⟨I2,F2,tb,hv33,hC,hH2,hT2,hF2⟩;rw[hAe]at hv33 hT2;subst hv33;have hsz0:=hS.size;replace hS:=St.chg hI hS (fun c hc=>⟨hM.foot _ _ _ _ hH c hc,hFn c hc⟩) hC;have hFn2:∀c∈F2,w0.heap.size≤c:=fun c hc=>(hF2 c hc).elim (hFn c) (fun h=>Nat.le_trans hsz0 h)
   refine qq hS (qb _) (qq hS (qm rfl rfl) (qq hS (qm (v:=.int .u64 _) rfl rfl) (qq hS (qc _) (qq hS (qr (v:=.int .u64 _) rfl) (QoR (qq hS (qs (v:=.int .u64 _) rfl) (qq hS (qs (v:=.int .u64 _) rfl) (qq hS (zE rfl rfl (by omega) (by omega) hrw) (qq hS (qr (v:=.int .u64 _) rfl) (QoN (vD (draw (.cons 0 .pure (.cons 1 .pure (.cons 2 .pure (.cons 3 .pure (.cons 4 .pure (.cons 5 .pure (.cons 9 .pure (.cons 10 .pure (.cons 11 .pure (.cons 12 .pure (.cons 13 .pure (.cons 14 .held (.cons 15 .pure (.cons 16 .pure (.cons 6 .eff (.cons 7 .pure (.cons 8 .pure (.cons 17 .pure (.cons 18 .pure .nil))))))))))))))))))) mixed (by kernel_rfl) hS ?_))))))))))));intro w_3 hS;refine sp rfl (qs (v:=.int .u64 _) rfl) (sp rfl (qs (v:=.int .u64 _) rfl) (sp rfl (qb _) (sp rfl (qi rfl) (sp rfl (qs (v:=.int .u8 _) rfl) (sp rfl (g_sliceArrT uq uC rfl rfl (by omega) (by omega) hty) (sp rfl (qs (v:=.int .u64 _) rfl) (sp rfl (qb _) (sp rfl (qs (v:=.int .u8 _) rfl) (sp rfl (qi rfl) ?_)))))))));refine sp rfl (jk (o':=y.toNat) uq uC rfl rfl (by omega) (by omega) (by omega)) (sh rfl (kG Qd (atCell hT2.hold) rfl (yk hcn)) (sp rfl (jm uU ul rfl hm3) (sp rfl (kj rfl rfl hm4) ?_)));have hS0:=hS;refine se rfl (qg call95 rfl (sum13_c _ _ (A.c.take y.toNat) _ _ hS.imm (hT2.take hA (by omega)) hcb (by rw[xc]; omega))) ?_;rintro _ w_4⟨rfl,hE⟩;replace hS:=hS.call hE;refine⟨_,_,hS0.le hE.ext (xK _),hS,sp rfl (kj rfl rfl hm1) (sp rfl (ye rfl rfl hm2) (sp rfl (qr (v:=.int .u64 _) rfl) (sp rfl (qr (v:=.int .u64 _) rfl) (sn (vK (meet (fun σ w=>∃a c,okS σ [(6,mv),(7,.slice a P1.out.length c),(8,.int .u64 P1.low),(9,.int .u64 P1.size),(11,.int .u8 y),(25,.slice ad b.length cap),(26,.int .i64 b.length),(27,.int .i64 k)]∧St [] w0 I0 I2 w [.row (.slice a P1.out.length c) 5 1 P1.out.length (flat byteC P1.out)]) ?_ ?_))))))⟩
   ·
    refine QwR (qq hS (qs (v:=.int .u64 _) rfl) (qq hS (g_geq rfl rfl) (QoN (qj rfl ?_ ?_))))
    ·
     intro hc57
     try simp only[zA,zO,zN,zI,zF,zM,zT,zU]at hc57
     have hm5:IntKind.u64.wrap (cs.low+rb - 4294967296)=cs.low+rb - 4294967296:=by rw[IntKind.wrap_u64]; omega
     have hPe:P1=⟨cs.low+rb - 4294967296,rc,carried cs.out⟩:=by rw[← hP1]; unfold putC; rw[hrb,hrc,vJ (by omega)]
     have hcv:=CsOk.carry (s:=cs) (lo:=cs.low+rb) (si:=rc) hGd.ok.byt (by have:=hGd.ok.all; omega) (by omega) (by omega);obtain⟨j0,hj0,hj1⟩:=carry_ex hGd.ok.byt hcv;refine QwR (qq hS (qs (v:=.int .u64 _) rfl) (qq hS (g_subu rfl rfl hm5) (qq hS (qr (v:=.int .u64 _) rfl) (QoR (qq hS (qb _) (qq hS (yP 0 rfl vH rfl rfl) (qq hS (g_sub rfl rfl (by omega) (by omega)) (qq hS (Qai rfl) (QoN (vD (vS (loop (fun(z:CarW) σ w=>okS σ [(6,mv),(7,.slice a cs.out.length c),(8,.int .u64 (cs.low+rb - 4294967296)),(9,.int .u64 rc),(11,.int .u8 y),(15,.int .i64 z.i),(25,.slice ad b.length cap),(26,.int .i64 b.length),(27,.int .i64 k)]∧St [] w0 I0 I2 w [.row (.slice a cs.out.length c) 5 1 cs.out.length (flat byteC z.l)]∧z.i < z.l.length∧z.l.length=cs.out.length∧Byt z.l∧carryAt z.l (z.i+1)=carried cs.out∧∃j,j≤z.i∧z.l.getD j 0≠255) (fun z=>z.i) (⟨cs.out.length - 1,cs.out⟩) ?_ ?_))))))))))))
     ·
      refine⟨⟨rfl,rfl,rfl,rfl,rfl,?_,rfl,rfl,rfl,trivial⟩,hS.sel [true],by dsimp only; omega,rfl,hGd.ok.byt,?_,j0,by dsimp only; omega,hj1⟩
      · exact congrArg (Value.int .i64) (by dsimp only; omega)
      · dsimp only; rw[show cs.out.length - 1+1=cs.out.length by omega]; rfl
     ·
      rintro⟨i,l⟩σ w_l⟨hs,hS,hi1,hi2,hi3,hcar,hex⟩;dsimp only at hs hS hi1 hi2 hi3 hcar hex ⊢;rw[← qk hs]; clear hs
      refine vD (vD ?_);obtain⟨d,hli⟩:∃d,l[((i:Nat):Int).toNat]? = some d:=⟨_,vC (by omega)⟩
      have hdl:l.getD i 0=d:=by rw[Int.toNat_natCast]at hli; rw[vQ,hli]; rfl
      have hdb:=hi3 d (vI hli);refine reg (qq hS (qb _) (qq hS (Qmi rfl) (qq hS (g_ixR 0 vH xd rfl rfl rfl (by omega) (by omega)) (qq hS (ja 0 xR rfl rfl (qG qx l _ d hli 0 _ rfl)) (qq hS (g_eql rfl rfl) (QoN (qj rfl ?_ ?_)))))))
      ·
       intro hc67
       try simp only[zA,zO,zN,zI,zF,zM,zT,zU]at hc67
       have hi0:0 < i:=by
        rcases Nat.eq_zero_or_pos i with h | h
        · obtain ⟨j, hj, hne⟩ := hex
          have:j=i:=by omega
          rw[this,hdl]at hne;exact absurd hc67 hne
        · exact h
       have hcar2:carryAt (l.set i 0) i=carried cs.out:=by
        rw[← hcar];conv=>rhs; unfold carryAt
        rw[vJ (hdl.trans hc67)]
       refine vL (vK (vD (vS (reg (qq hS (qb _) (qq hS (Qmi rfl) (qq hS (g_ixR 0 vH xd rfl rfl rfl (by omega) (by omega)) (qe (jn 0 (c:=0) qx 0 hS hi2.symm hli xd rfl rfl rfl (vs:=[.int .u8 _]) rfl rfl rfl rfl rfl) ?_))))))));clear hS;rintro _ w_5⟨rfl,hS⟩;refine qB (xO (vK (reg (qq hS (Qmi rfl) (qq hS (g_sub rfl rfl (by omega) (by omega)) (qq hS (Qai rfl) ?_))))));refine⟨⟨i - 1,l.set i 0⟩,_,rfl,⟨⟨rfl,rfl,rfl,rfl,rfl,?_,rfl,rfl,rfl,trivial⟩,hS.sel [true],by dsimp only; rw[vR]; omega,by dsimp only; rw[vR]; exact hi2,?_,?_,?_⟩,by dsimp only; omega⟩
       · exact congrArg (Value.int .i64) (by dsimp only; omega)
       · intro u hu
         rcases List.mem_or_eq_of_mem_set hu with h | h
         · exact hi3 u h
         · omega
       · dsimp only; rw[show i - 1+1=i by omega]; exact hcar2
       · obtain ⟨j, hj, hne⟩ := hex
         have hji:j≠i:=fun h=>by subst h; rw[hdl]at hne; exact hne hc67
         refine⟨j,by dsimp only; omega,?_⟩;dsimp only;rw[vQ,List.getElem?_set_ne (fun h=>hji h.symm),← vQ]; exact hne
      ·
       intro hc67
       try simp only[zA,zO,zN,zI,zF,zM,zT,zU]at hc67
       have hd1:IntKind.u8.wrap (d+1)=d+1:=by rw[IntKind.wrap_u8]; omega
       have hsl:l.set ((i:Nat):Int).toNat (d+1)=carried cs.out:=by
        rw[← hcar];conv=>rhs; unfold carryAt
        rw[vG (by rw[hdl]; exact hc67),hdl]; rfl
       refine xm (xh (xh (ua (vK (reg (qq hS (qb _) (qq hS (Qmi rfl) (qq hS (g_ixR 0 vH xd rfl rfl rfl (by omega) (by omega)) (qq hS (ja 0 xR rfl rfl (qG qx l _ d hli 0 _ rfl)) (qq hS (ye rfl rfl hd1) (qq hS (g_ixR 0 vH xd rfl rfl rfl (by omega) (by omega)) (qe (jn 0 (c:=0) qx (d+1) hS hi2.symm hli xd rfl rfl rfl (vs:=[.int .u8 _]) rfl rfl rfl rfl rfl) ?_))))))))))));clear hS;rintro _ w_6⟨rfl,hS⟩;refine QoN ?_;rw[hPe]; exact⟨_,rfl,a,c,⟨rfl,(by first | rfl | (dsimp only; rw[jL]; rfl)),rfl,rfl,rfl,rfl,rfl,rfl,trivial⟩,(by first | exact hS.sel [true] | (dsimp only; rw[jL,← hsl]; exact hS.sel [true]))⟩
    ·
     intro hc57
     try simp only[zA,zO,zN,zI,zF,zM,zT,zU]at hc57
     have hPe:P1=⟨cs.low+rb,rc,cs.out⟩:=by rw[← hP1]; unfold putC; rw[hrb,hrc,vG (by omega)]
     refine vL (vK ?_);rw[hPe]; exact⟨_,rfl,a,c,⟨rfl,(by first | rfl | (dsimp only; rw[jL]; rfl)),rfl,rfl,rfl,rfl,rfl,rfl,trivial⟩,(by first | exact hS.sel [true] | (dsimp only; rw[jL,← hsl]; exact hS.sel [true]))⟩
   ·
    rintro σ w⟨a,c,hs,hS⟩;rw[← qk hs];refine vD (vS (loop (fun(z:NrmW) σ w=>okS σ [(6,mv),(7,.slice z.a z.s.out.length z.c),(8,.int .u64 z.s.low),(9,.int .u64 z.s.size),(11,.int .u8 y),(25,.slice ad b.length cap),(26,.int .i64 b.length),(27,.int .i64 k)]∧St [] w0 I0 I2 w [.row (.slice z.a z.s.out.length z.c) 5 1 z.s.out.length (flat byteC z.s.out)]∧normC z.j z.s=normC 4 P1∧CsOk z.s∧16777216≤z.s.size*256 ^ z.j∧z.s.out.length+z.j≤P1.out.length+4) (fun z=>z.j) (⟨4,P1,a,c⟩) ?_ ?_))
    ·
     refine⟨⟨rfl,rfl,rfl,rfl,rfl,rfl,rfl,rfl,trivial⟩,hS.sel [true],rfl,hpo,?_,vX _⟩;dsimp only;have:=hpo.size.1;omega
    ·
     rintro⟨j,t,a,c⟩σ w_l⟨hs,hS,hne,hns,hnb,hnl⟩;dsimp only at hs hS hne hns hnb hnl ⊢;rw[← qk hs]; clear hs
     refine vD (QwR (qq hS (qs (v:=.int .u64 _) rfl) (qq hS (g_lss rfl rfl) (QoN (qj rfl ?_ ?_)))))
     ·
      intro hc80
      try simp only[zA,zO,zN,zI,zF,zM,zT,zU]at hc80
      obtain⟨j',rfl⟩:∃j',j=j'+1:=by
       cases j with
       | zero=>simp at hnb; omega
       | succ j'=>exact⟨j',rfl⟩
      have hno:=zC hns hc80;obtain⟨v1,v2⟩:=hns.low;obtain⟨v3,v4⟩:=hns.size;have hne2:normC j' ⟨t.low % 16777216*256,t.size*256,t.out++[t.low / 16777216]⟩=normC 4 P1:=by
       rw[← hne];conv=>rhs; unfold normC
       rw[vJ hc80]
      have hn1:IntKind.u64.wrap (t.low / 16777216)=t.low / 16777216:=by rw[IntKind.wrap_u64]; omega
      have hn2:IntKind.u8.wrap (t.low / 16777216)=t.low / 16777216:=by rw[IntKind.wrap_u8]; omega
      have hn3:IntKind.u64.wrap (t.low % 16777216*256)=t.low % 16777216*256:=by rw[IntKind.wrap_u64]; omega
      have hn4:IntKind.u64.wrap (t.size*256)=t.size*256:=by rw[IntKind.wrap_u64]; omega
      have hnb2:16777216≤t.size*256*256 ^ j':=by rw[qY,← Int.mul_assoc]at hnb; exact hnb
      refine vL (vK (vD (vS (QwR (qq hS (qb _) (qq hS (qs (v:=.int .u64 _) rfl) (qq hS (zE rfl rfl (by omega) (by decide) hn1) (qq hS (jm ul xI rfl hn2) ?_))))))));refine qe (d_lit (vs:=[.int .u8 _]) (cs:=[.int .u8 _]) hS vH xd uR rfl rfl rfl rfl (fun v hv=>by simp only[vN,vP,or_false]at hv; subst hv; rfl) rfl) ?_;clear hS;rintro _ w_7⟨b_7,rfl,hS⟩;refine qe (qV 1 0 hS rfl vH uH rfl rfl rfl rfl rfl rfl rfl rfl (by omega) (by omega)) ?_;clear hS;rintro _ w_8⟨a88,p88,rfl,hS⟩;refine qq hS (qc _) (QoN (reg (qq hS (qs (v:=.int .u64 _) rfl) (qq hS (g_rem rfl rfl (by omega) (by omega)) (qq hS (kj rfl rfl hn3) (qq hS (qr (v:=.int .u64 _) rfl) (qB (xO (vK (reg (qq hS (qs (v:=.int .u64 _) rfl) (qq hS (kj rfl rfl hn4) (qq hS (qr (v:=.int .u64 _) rfl) ?_)))))))))))));refine⟨⟨j',⟨t.low % 16777216*256,t.size*256,t.out++[t.low / 16777216]⟩,a88,p88⟩,_,rfl,⟨⟨rfl,by dsimp only; rw[vE]; rfl,rfl,rfl,rfl,rfl,rfl,rfl,trivial⟩,?_,hne2,hno,hnb2,by dsimp only; rw[vE]; simp at hnl ⊢; omega⟩,by dsimp only; omega⟩;dsimp only;rw[ql,ju,vE];exact hS.sel [false,true]
     ·
      intro hc80
      try simp only[zA,zO,zN,zI,zF,zM,zT,zU]at hc80
      have hte:t=normC 4 P1:=by
       rw[← hne];cases j with
       | zero=>rfl
       | succ j'=>unfold normC; rw[vG (by omega)]
      have hyt:(y.toNat:Int)=y:=by omega
      refine xm (xh (xh (ua (vK ?_))));subst hte;refine reg (qq hS (qb _) (qq hS (qs (v:=.int .u8 _) rfl) (qe (hM.saw _ mv s F2 y.toNat (by omega) hS.imm hH2 hMi rfl (congrArg (Value.int .u8) hyt.symm)) ?_)));rintro _ w_9⟨I3,F3,rfl,hC,hH3,hF3⟩;have hsz1:=hS.size;replace hS:=St.chg hI hS (fun c hc=>⟨hM.foot _ _ _ _ hH2 c hc,hFn2 c hc⟩) hC;have hFn3:∀c∈F3,w0.heap.size≤c:=fun c hc=>(hF3 c hc).elim (hFn2 c) (fun h=>Nat.le_trans hsz1 h)
      refine qB (xO (vK (reg (qq hS (g_add rfl rfl (by omega) (by omega)) (qq hS (Qmi rfl) ?_)))));refine⟨⟨k+1,normC 4 P1,M.nxt s y.toNat,a,c⟩,_,rfl,⟨⟨rfl,rfl,rfl,rfl,rfl,rfl,rfl,trivial⟩,_,hS.sel [true],by dsimp only; omega,hnx,hg2,hMi2,by dsimp only; omega,F3,hH3,hFn3⟩,by dsimp only; omega⟩
  ·
   intro hc28
   try simp only[zA,zO,zN,zI,zF,zM,zT,zU]at hc28
   obtain rfl:k=b.length:=by omega
   obtain⟨u1,u2⟩:=hGd.ok.low;have hep:encP M s0 b=trimZ (tailC cs):=by unfold encP; rw[hup]
   have ht1:IntKind.u8.wrap (cs.low / 2 ^ 24)=cs.low / 16777216:=by rw[IntKind.wrap_u8]; omega
   have ht2:IntKind.u8.wrap (cs.low / 2 ^ 16)=cs.low / 65536 % 256:=by rw[IntKind.wrap_u8]; omega
   have ht3:IntKind.u8.wrap (cs.low / 2 ^ 8)=cs.low / 256 % 256:=by rw[IntKind.wrap_u8]; omega
   have ht4:IntKind.u8.wrap cs.low=cs.low % 256:=by rw[IntKind.wrap_u8]
   refine xm (xh (xh (ua (vK (QwR (qq hS (qb _) (qq hS (qs (v:=.int .u64 _) rfl) (qq hS (vz (s:=24) rfl rfl (by decide) (by omega) rfl) (qq hS (jm ul xI rfl ht1) (qq hS (qs (v:=.int .u64 _) rfl) (qq hS (vz (s:=16) rfl rfl (by decide) (by omega) rfl) (qq hS (jm ul xI rfl ht2) (qq hS (qs (v:=.int .u64 _) rfl) ?_)))))))))))));refine qq hS (vz (s:=8) rfl rfl (by decide) (by omega) rfl) (qq hS (jm ul xI rfl ht3) (qq hS (qs (v:=.int .u64 _) rfl) (qq hS (jm ul xI rfl ht4) ?_)));refine qe (d_lit (vs:=[.int .u8 _,.int .u8 _,.int .u8 _,.int .u8 _]) (cs:=[.int .u8 _,.int .u8 _,.int .u8 _,.int .u8 _]) hS vH xd uR rfl rfl rfl rfl (fun v hv=>by simp only[vN,vP,or_false]at hv; rcases hv with rfl | rfl | rfl | rfl <;> rfl) rfl) ?_;clear hS;rintro _ w_10⟨b_10,rfl,hS⟩;refine qe (qV 1 0 hS rfl vH uH rfl rfl rfl rfl rfl rfl rfl rfl (by omega) (by omega)) ?_;clear hS;rintro _ w_11⟨a109,p109,rfl,hS⟩;refine qq hS (qc _) (QoN (vD ?_));have hF:=St.freezeRow (u:=.slice a109 (cs.out.length+4) p109) (m:=cs.out.length+4) (xs:=tailC cs) qx (by rw[tail_flat]; exact hS.ord [1,0]) ((kL cs).symm);clear hS;obtain⟨I_hfz,hS,hI_hfz,hfz⟩:=hF;refine reg (qq hS (qb _) ?_);refine qe (qg call96 rfl (trim_c _ _ _ (tailC cs) _ _ hS.imm hfz (kL cs).symm (by rw[kL]; omega))) ?_;rintro _ w_12⟨a111,c111,rfl,hE,h111⟩;replace hS:=hS.callE hE;replace hfz:=hfz.mono hE.ext;refine qq hS (qc _) (qq hS (Qai rfl) (QoN (vM (ret2 results46 (qh rfl) (qh (v:=.int .i64 _) rfl) ?_))));rw[hep];exact⟨_,a111,c111,rfl,hS.nil,h111⟩
end Go.Proofs.YtgkgihnpjgbmhaaGreatDoor
