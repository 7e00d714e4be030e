/- Package coder: counts of bytes, their sum, the model that adapts. Conditions: numbers within bounds. -/
import Derived.Test.YtgkgihnpjgbmhaaGreatDoorSq
import Derived.Test.YtgkgihnpjgbmhaaGreatDoorKCore3
import Derived.Test.YtgkgihnpjgbmhaaGreatDoorKPack
import Derived.Test.YtgkgihnpjgbmhaaGreatDoorFacts
set_option linter.unusedSimpArgs false
set_option linter.unusedVariables false
namespace Go.Proofs.YtgkgihnpjgbmhaaGreatDoor
open Tryz
open Go Go.RowKit Go.Inl
def adC (A:Ad):List Value:=u32s A.c++[.int .u64 A.t]
structure RAd (I : Imm) (b : Nat) (A : Ad) : Prop where
 hold:I b=some (.cells (adC A).toArray 226 (0,0))
theorem RAd.mono {I J:Imm}{b:Nat}{A:Ad}(h:RAd I b A)(hs:Inl.Sub I J):RAd J b A:=⟨hs _ _ h.hold⟩
theorem RAd.take {I:Imm}{b:Nat}{A:Ad}(h:RAd I b A)(hA:AdOk A){k:Nat}(hk:k≤256):RFl I 1 u32C (.slice (some ⟨b,0,none⟩) (A.c.take k).length 256) (A.c.take k):=by
 have hl:=hA.len;refine .inr ⟨b,0,256,rfl,by rw[xc]; omega,by unfold maxLen; omega,fun i y hy=>⟨_,rfl,⟨rfl,_,_,_,h.hold,fun j v hv=>?_⟩,rfl⟩⟩;have hj:j=0∧v = .int .u32 y:=by
  cases j with
  | zero=>exact⟨rfl,(Option.some.inj hv).symm⟩
  | succ j=>simp[u32C]at hv
 obtain⟨rfl,rfl⟩:=hj;have hi:=(vY.1 hy).1;rw[xc]at hi;have hy2:A.c[i]? = some y:=by rw[List.getElem?_take]at hy; split at hy <;> simp_all
 show(adC A).toArray[0+i*1+0]? = _
 unfold adC;rw[List.getElem?_toArray,xg (by rw[qN]; omega),show 0+i*1+0=i by omega];exact yU hy2
theorem atCell {I:Imm}{b:Nat}{T:TypeId}{cs:List Value}(h:I b=some (.cells cs.toArray T (0,0))):atI I ⟨b,0,none⟩ cs:=⟨rfl,_,_,_,h,fun j v hv=>by show cs.toArray[0+j]? = _; rw[xV,List.getElem?_toArray]; exact hv⟩
theorem sum_bd13 : ∀ (l : List Int), (∀ n ∈ l, 0 ≤ n ∧ n ≤ 4294967295) → 0 ≤ l.sum ∧ l.sum ≤ 4294967295 * (l.length : Int)
 | [],_=>by simp
 | x::l,h=>by
   have h1:=h x (List.mem_cons_self ..);have h2:=sum_bd13 l fun n hn=>h n (List.mem_cons_of_mem _ hn)
   rw[List.sum_cons,List.length_cons]; push_cast; omega
theorem zl {l:List Int}{k:Nat}{x:Int}(h:l[k]? = some x):(l.take (k+1)).sum=(l.take k).sum+x:=by
 rw[qy h,List.sum_append,List.sum_cons]; simp
def onesU (k:Nat):List Int:=List.replicate k 1++List.replicate (256 - k) 0
theorem onesU_len {k:Nat}(h:k≤256):(onesU k).length=256:=by unfold onesU; rw[vE,xW,xW]; omega
theorem onesU_set {k:Nat}(h:k < 256):(onesU k).set k 1=onesU (k+1):=by
 unfold onesU;obtain⟨m,hm⟩:∃m,256 - k=m+1:=⟨255 - k,by omega⟩
 rw[hm,show 256 - (k+1)=m by omega,List.replicate_succ];have:=yo (List.replicate k 1) 0 1 (List.replicate m 0);rw[xW]at this;rw[this,List.replicate_succ',xa]; rfl
theorem onesU_all:onesU 256=adOne.c:=by show List.replicate 256 (1:Int)++List.replicate (256 - 256) 0=List.replicate 256 1; rw[Nat.sub_self,List.replicate_zero,List.append_nil]
theorem zE {P:Program}{n:Nat}{σ:Nat→Value}{S:World→Prop}{t t' ty:TypeId}{x y:Operand}{k:IntKind}{a b c:Int}(hx:ev n σ x = .int k a)(hy:ev n σ y = .int k b)(ha:0≤a)(hb:0 < b)(hk:k.wrap (a / b)=c):Gives P (ev n σ) S (.binOp .quo t x y t') ty (.int k c):=by
 subst hk;exact fun _ _=>jr hx hy (by simp[binOp,Op.intDiv,show b≠0 by omega,Int.tdiv_eq_ediv_of_nonneg ha])
def adL (c:List Int)(t:Int):List Value:=u32s c++[.int .u64 t]
theorem zQ (c:List Int)(t:Int):(adL c t).length=c.length+1:=by unfold adL; rw[vE,qN]; rfl
theorem adL_set {c:List Int}{t v:Int}{x:Nat}(h:x < c.length):(adL c t).set x (.int .u32 v)=adL (c.set x v) t:=by
 unfold adL; rw[List.set_append,vJ (by rw[qN]; exact h),u32s_set]
theorem vu {c:List Int}{t v:Int}(h:c.length=256):(adL c t).set 256 (.int .u64 v)=adL c v:=by
 unfold adL; rw[List.set_append,vG (by rw[qN]; omega),qN,h]; rfl
theorem yk {c:List Int}{t v:Int}{i:Nat}(h:c[i]? = some v):(adL c t)[i]? = some (.int .u32 v):=by
 have hi:=(vY.1 h).1;unfold adL; rw[xg (by rw[qN]; exact hi)]; exact yU h
theorem adL_t {c:List Int}{t:Int}(h:c.length=256):(adL c t)[256]? = some (.int .u64 t):=by
 unfold adL; rw[xx (by rw[qN]; omega),qN,h]; rfl
def hf (n:Int):Int:=(n+1) / 2
def halfU (c:List Int)(k:Nat):List Int:=(c.take k).map hf++c.drop k
theorem jR (c:List Int)(k:Nat):(halfU c k).length=c.length:=by unfold halfU; rw[vE,xM,xc,ug]; omega
theorem halfU_set {c:List Int}{k:Nat}{n:Int}(h:c[k]? = some n):(halfU c k).set k (hf n)=halfU c (k+1):=by
 have hk:=(vY.1 h).1;have hd:c.drop k=n::c.drop (k+1):=jT h;unfold halfU;rw[hd,qy h,uf,xa];have:=yo ((c.take k).map hf) n (hf n) (c.drop (k+1));rw[xM,xc,show min k c.length=k by omega]at this;rw[this]; rfl
theorem halfU_all (c:List Int):halfU c c.length=c.map hf:=by unfold halfU; rw[xB,List.drop_length,List.append_nil]
def halfS (c:List Int)(k:Nat):Int:=((c.take k).map hf).sum
theorem halfS_succ {c:List Int}{k:Nat}{n:Int}(h:c[k]? = some n):halfS c (k+1)=halfS c k+hf n:=by
 unfold halfS; rw[qy h,uf,List.sum_append]; simp
theorem sawA_le {A:Ad}{x:Nat}(h:A.t+32≤65536):adC (sawA A x)=adL (A.c.set x (A.c.getD x 0+32)) (A.t+32):=by unfold sawA; rw[vJ h]; rfl
theorem sawA_gt {A:Ad}{x:Nat}(h:¬A.t+32≤65536):adC (sawA A x)=adL ((A.c.set x (A.c.getD x 0+32)).map hf) ((A.c.set x (A.c.getD x 0+32)).map hf).sum:=by unfold sawA; rw[vG h]; rfl
set_option maxRecDepth 20000 in
set_option maxHeartbeats 1000000 in
theorem ones_c (w0 : World) (I0 : Imm) (hI : Sat I0 w0) :
 Ctr prog 125 [] w0 (fun v w'=>v = .agg (u32s adOne.c).toArray∧Ext w0 I0 w' I0):=by
 refine fn (n:=10) func125 rfl rfl rfl ?_;have hS:=St.start hI;refine QwR (qe (qv (cs:=(u32s (onesU 0))) hS zeroValue220 rfl) ?_);clear hS;rintro _ w_1⟨b0,rfl,hS⟩;refine QoR (qe (qv (cs:=(u32s (onesU 0))) hS zeroValue220 rfl) ?_);clear hS;rintro _ w_2⟨b1,rfl,hS⟩;refine QoN (vD (QwR (qq hS (Qmi rfl) (QoN (vS (loop (fun(i:Nat) σ w=>okS σ [(0,.pointer (some ⟨b0,0,none⟩)),(1,.pointer (some ⟨b1,0,none⟩)),(3,.int .i64 i)]∧St [] w0 I0 I0 w [.cel b1 220 (u32s (onesU i)),.cel b0 220 (u32s (onesU 0))]∧i≤256) (fun i=>256 - i) (0) ?_ ?_))))))
 ·
  exact⟨⟨rfl,rfl,rfl,trivial⟩,hS.sel [true,true],by omega⟩
 ·
  rintro i σ w_l⟨hs,hS,hi0⟩;rw[← qk hs]; clear hs
  refine QwR (qq hS (g_lss rfl rfl) (QoN (vD (qj rfl ?_ ?_))))
  ·
   intro hc4
   try simp only[zA,zO,zN,zI,zF,zM,zT,zU]at hc4
   refine vL (vK (vD (vS (QwR (qq hS (Qmi rfl) (qq hS (Qai rfl) (QoN (reg (qq hS (Qmi rfl) (qq hS (jk (o':=i) uq uC rfl rfl (by omega) (by omega) (by omega)) ?_))))))))));refine qe (kz (v:=.int .u32 1) 0 hS uC rfl (by rw[qN,onesU_len (by omega)]; omega) rfl rfl rfl rfl) ?_;clear hS;rintro _ w_3⟨rfl,hS⟩;refine qB (xO (vK (reg (qq hS (g_add rfl rfl (by omega) (by omega)) (qq hS (Qmi rfl) ?_)))));rw[u32s_set,onesU_set (by omega)]at hS;exact⟨i+1,_,rfl,⟨⟨rfl,rfl,rfl,trivial⟩,hS.sel [true,true],by omega⟩,by omega⟩
  ·
   intro hc4
   try simp only[zA,zO,zN,zI,zF,zM,zT,zU]at hc4
   obtain rfl:i=256:=by omega
   rw[onesU_all]at hS;have hdr:((u32s adOne.c).drop 0).take 256=u32s adOne.c:=by rw[List.drop_zero,uh (by rw[qN,adOne_ok.len]; exact vX _)]
   have hpu:putL (u32s (onesU 0)) 0 (u32s adOne.c)=u32s adOne.c:=zV _ _ (by rw[qN,qN,onesU_len (by omega),adOne_ok.len]);refine xm (xh (xh (ua (vK (QwR ?_)))));refine qq hS (g_ldO 0 (vs:=u32s adOne.c) uM isAgg220 rfl rfl hdr (by rw[qN]; exact adOne_ok.len)) ?_;refine qe (qf 1 hS uM rfl rfl rfl (vs:=u32s adOne.c) (by rfl) (by rw[qN]; exact adOne_ok.len) (u32s_one _) (by rw[qN]; exact vX _) (cs':=u32s adOne.c) hpu) ?_;clear hS;rintro _ w_4⟨rfl,hS⟩;refine QoN (vM (ret1 results125 (qD 1 hS uM isAgg220 rfl rfl rfl) ?_));exact⟨rfl,hS.nil⟩
set_option maxHeartbeats 1000000 in
theorem sum13_c (ad : Option Addr) (cap : Nat) (l : List Int) (w0 : World) (I0 : Imm) (hI : Sat I0 w0) (hl : RFl I0 1 u32C (.slice ad l.length cap) l) (hb : ∀ n ∈ l, 0 ≤ n ∧ n ≤ 4294967295) (hn : l.length ≤ 256) :
 Ctr prog 95 [.slice ad l.length cap] w0 (fun v w'=>v = .int .u64 l.sum∧Ext w0 I0 w' I0):=by
 refine fn (n:=18) func95 rfl rfl rfl ?_;have hS:=St.start hI;refine QwR (qq hS (qr (v:=.int .u64 _) rfl) (QoR (qq hS (qr (v:=.int .u64 _) rfl) (QoN (vD (QwR (qq hS (qb _) (qq hS (qo rfl underlying67 hl rfl) (qq hS (Qmi rfl) (QoN (vS (loop (fun(k:Nat) σ w=>okS σ [(3,.int .u64 (l.take k).sum),(6,.slice ad l.length cap),(7,.int .i64 l.length),(8,.int .i64 k)]∧St [] w0 I0 I0 w []∧k≤l.length) (fun k=>l.length - k) (0) ?_ ?_))))))))))))
 ·
  exact⟨⟨rfl,rfl,rfl,rfl,trivial⟩,hS.sel [],by omega⟩
 ·
  rintro k σ w_l⟨hs,hS,hk0⟩;rw[← qk hs]; clear hs
  refine QwR (qq hS (g_lss rfl rfl) (QoN (vD (qj rfl ?_ ?_))))
  ·
   intro hc9
   try simp only[zA,zO,zN,zI,zF,zM,zT,zU]at hc9
   obtain⟨x,hxi⟩:∃x,l[k]? = some x:=⟨_,vC (by omega)⟩
   have hxA:=hl.at hxi;have hxb:=hb x (vI hxi);have hsn:=zl hxi;have hsb:=sum_bd13 (l.take k) fun n hn=>hb n (List.mem_of_mem_take hn)
   rw[xc]at hsb;have hw:IntKind.u64.wrap ((l.take k).sum+IntKind.u64.wrap x)=(l.take (k+1)).sum:=by rw[hsn]; simp only[IntKind.wrap_u64]; omega
   refine vL (vK (vD (vS (QwR (qq hS (g_ixI underlying67 uC hl rfl rfl (by omega) (by omega)) (qq hS (qJ Qd hxA rfl rfl) (qq hS (Qaw rfl) (QoN (reg (qq hS (qs (v:=.int .u64 _) rfl) (qq hS (Qmw rfl) (qq hS (vo uU ul rfl) (qq hS (kV rfl rfl) (qq hS (qr (v:=.int .u64 _) rfl) (qB (xO (vK (reg ?_))))))))))))))))));refine qq hS (g_add rfl rfl (by omega) (by omega)) (qq hS (Qmi rfl) ?_);exact⟨k+1,_,rfl,⟨⟨congrArg (Value.int .u64) hw,rfl,rfl,rfl,trivial⟩,hS.sel [],by omega⟩,by omega⟩
  ·
   intro hc9
   try simp only[zA,zO,zN,zI,zF,zM,zT,zU]at hc9
   obtain rfl:k=l.length:=by omega
   refine xm (xh (xh (ua (vK (QwR (qq hS (qs (v:=.int .u64 _) rfl) (qq hS (qr (v:=.int .u64 _) rfl) (QoN (vM (ret1 results95 (qh (v:=.int .u64 _) rfl) ?_))))))))));exact⟨by rw[xB],hS.nil⟩
set_option maxRecDepth 20000 in
set_option maxHeartbeats 1000000 in
theorem saw_c (b : Nat) (A : Ad) (x : Nat) (hx : x < 256) (hA : AdOk A) (w0 : World) (I0 : Imm) (hI : Sat I0 w0) (hb : w0.heap[b]? = some (.cells (adC A).toArray 226 (0, 0))) (hn : I0 b = none) :
 Ctr prog 194 [.pointer (some ⟨b,0,none⟩),.int .u8 x] w0 (fun v w'=>v = .tuple #[]∧St [b] w0 I0 I0 w' [.cel b 226 (adC (sawA A x))]):=by
 have hl:=hA.len;have htop:=hA.top;obtain⟨n0,hn0⟩:∃n,A.c[x]? = some n:=⟨_,vC (by omega)⟩
 have hge:=yV A.c hA.pos;rw[hA.sum,hl]at hge;have hn0b:1≤n0∧n0≤65536:=by
  have h1:=hA.pos n0 (vI hn0);have h2:=qS A.c x hA.pos (by omega);rw[vQ,hn0,hA.sum]at h2;simp at h2; omega
 obtain⟨n1,hn1⟩:∃n,n=n0+32:=⟨_,rfl⟩
 have hg:A.c.getD x 0+32=n1:=by rw[vQ,hn0,hn1]; rfl
 have hw1:IntKind.u32.wrap (n0+32)=n1:=by rw[IntKind.wrap_u32]; omega
 have hw2:IntKind.u64.wrap (A.t+32)=A.t+32:=by rw[IntKind.wrap_u64]; omega
 have hc1l:(A.c.set x n1).length=256:=by rw[vR]; exact hl
 have hat:=yk (t:=A.t) hn0;refine fn (n:=62) func194 rfl rfl rfl ?_;have hS:St [b] w0 I0 I0 w0 [.cel b 226 (adL A.c A.t)]:=St.startX hI hb hn;refine vD (draw (.cons 0 .pure (.cons 1 .pure (.cons 2 .pure (.cons 3 .pure (.cons 4 .pure (.cons 5 .held (.cons 6 .pure (.cons 7 .pure (.cons 8 .pure (.cons 9 .pure (.cons 10 .bar .nil))))))))))) mixed (by kernel_rfl) hS ?_);intro w_1 hS;refine sp rfl (qb _) (sp rfl (qs (v:=.int .u8 _) rfl) (sp rfl (qi rfl) (sp rfl (qa (o':=0) uc rfl uM rfl rfl rfl) (sp rfl (jk (o':=x) uq uC rfl rfl (by omega) (by omega) (by omega)) (sh rfl (qd 0 Qd rfl rfl hat) (sp rfl (kV rfl rfl) (sp rfl (qi rfl) (sp rfl (qa (o':=0) uc rfl uM rfl rfl rfl) ?_))))))));refine sp rfl (jk (o':=x) uq uC rfl rfl (by omega) (by omega) (by omega)) ?_;refine sb rfl (kz (v:=.int .u32 n1) 0 hS uC rfl (by rw[zQ]; omega) rfl (congrArg (Value.int .u32) hw1) rfl rfl) ?_;rintro _ w_2⟨rfl,hS⟩;refine⟨_,_,hS,?_⟩;replace hS:=hS;rw[show(List.set [Res.cel b 226 (adL A.c A.t)] 0 (Res.cel b 226 (((adL A.c A.t)).set x (.int .u32 n1))))=[Res.cel b 226 (adL (A.c.set x n1) A.t)] from by show [Res.cel b 226 (((adL A.c A.t)).set x (.int .u32 n1))]=_; rw[adL_set (by omega)]]at hS;refine sn (vK (vD (QwR (qq hS (qb _) (qq hS (qi rfl) (qq hS (qa (o':=256) uc rfl uL rfl rfl rfl) (qq hS (qd 0 isAgg176 rfl rfl (adL_t hc1l)) (qq hS (kV rfl rfl) (qq hS (qi rfl) (qq hS (qa (o':=256) uc rfl uL rfl rfl rfl) ?_))))))))));refine qe (kz (v:=.int .u64 (A.t+32)) 0 hS uL rfl (by rw[zQ]; omega) rfl (congrArg (Value.int .u64) hw2) rfl rfl) ?_
 clear hS;rintro _ w_3⟨rfl,hS⟩;replace hS:=hS;rw[show(List.set [Res.cel b 226 (adL (A.c.set x n1) A.t)] 0 (Res.cel b 226 (((adL (A.c.set x n1) A.t)).set 256 (.int .u64 (A.t+32)))))=[Res.cel b 226 (adL (A.c.set x n1) (A.t+32))] from by show [Res.cel b 226 (((adL (A.c.set x n1) A.t)).set 256 (.int .u64 (A.t+32)))]=_; rw[vu hc1l]]at hS;refine QoR (qq hS (qb _) (qq hS (qi rfl) (qq hS (qa (o':=256) uc rfl uL rfl rfl rfl) (qq hS (qd 0 isAgg176 rfl rfl (adL_t hc1l)) (qq hS (g_leq rfl rfl) (QoN (qj rfl ?_ ?_)))))))
 ·
  intro hc27
  try simp only[zA,zO,zN,zI,zF,zM,zT,zU]at hc27
  have he:=sawA_le (x:=x) hc27;rw[hg]at he;refine vM (xF (ret0 results194  ?_));exact⟨rfl,by rw[he]; exact hS⟩
 ·
  intro hc27
  try simp only[zA,zO,zN,zI,zF,zM,zT,zU]at hc27
  have he:=sawA_gt (x:=x) hc27;rw[hg]at he;have hdr:((adL (A.c.set x n1) 0).drop 0).take 256=u32s (A.c.set x n1):=by unfold adL; rw[List.drop_zero,ui (by rw[qN]; omega),uh (by rw[qN]; omega)]
  refine vL (vK (QwR (qq hS (qb _) (qq hS (qi rfl) (qq hS (qa (o':=256) uc rfl uL rfl rfl rfl) ?_)))));refine qe (kz (v:=.int .u64 0) 0 hS uL rfl (by rw[zQ]; omega) rfl (rfl) rfl rfl) ?_;clear hS;rintro _ w_4⟨rfl,hS⟩;replace hS:=hS;rw[show(List.set [Res.cel b 226 (adL (A.c.set x n1) (A.t+32))] 0 (Res.cel b 226 (((adL (A.c.set x n1) (A.t+32))).set 256 (.int .u64 0))))=[Res.cel b 226 (adL (A.c.set x n1) 0)] from by show [Res.cel b 226 (((adL (A.c.set x n1) (A.t+32))).set 256 (.int .u64 0))]=_; rw[vu hc1l]]at hS;refine QoR (qq hS (qb _) (qq hS (qi rfl) (qq hS (qa (o':=0) uc rfl uM rfl rfl rfl) ?_)));refine qq hS (g_ldO 0 (vs:=u32s (A.c.set x n1)) uM isAgg220 rfl rfl hdr (by rw[qN]; exact hc1l)) ?_;refine qq hS (Qmi rfl) (QoN (vS (loop (fun(i:Nat) σ w=>okS σ [(0,.pointer (some ⟨b,0,none⟩)),(34,.agg (u32s (A.c.set x n1)).toArray),(35,.int .i64 i)]∧St [b] w0 I0 I0 w [.cel b 226 (adL (halfU (A.c.set x n1) i) (halfS (A.c.set x n1) i))]∧i≤256∧(0≤halfS (A.c.set x n1) i∧halfS (A.c.set x n1) i≤65568*(i:Int))) (fun i=>256 - i) (0) ?_ ?_)))
  ·
   exact⟨⟨rfl,rfl,rfl,trivial⟩,hS.sel [true],by omega,by simp[halfS]⟩
  ·
   rintro i σ w_l⟨hs,hS,hi0,hsb0⟩;rw[← qk hs]; clear hs
   refine QwR (qq hS (g_lss rfl rfl) (QoN (vD (qj rfl ?_ ?_))))
   ·
    intro hc36
    try simp only[zA,zO,zN,zI,zF,zM,zT,zU]at hc36
    obtain⟨n,hni⟩:∃n,(A.c.set x n1)[i]? = some n:=⟨_,vC (by omega)⟩
    have hnb:1≤n∧n≤65568:=by
     rcases List.mem_or_eq_of_mem_set (vI hni) with h | h
     · have h1 := hA.pos n h
       obtain⟨j,hj,hjn⟩:=List.getElem_of_mem h;have h2:=qS A.c j hA.pos hj;rw[vQ,vC hj,hA.sum]at h2;simp at h2; omega
     · omega
    have hhf:hf n=(n+1) / 2:=rfl;have hlu:=jR (A.c.set x n1) i;have hlu2:=jR (A.c.set x n1) (i+1);have hnj:(halfU (A.c.set x n1) (i+1))[i]? = some (hf n):=by rw[← halfU_set hni,List.getElem?_set,vJ rfl,vJ (by rw[jR]; omega)]
    have hss:=halfS_succ hni;have hsb:0≤halfS (A.c.set x n1) i∧halfS (A.c.set x n1) i≤65568*(i:Int):=hsb0;have hw5:IntKind.u32.wrap (n+1)=n+1:=by rw[IntKind.wrap_u32]; omega
    have hw3:IntKind.u32.wrap (IntKind.u32.wrap (n+1) / 2)=hf n:=by rw[hw5,IntKind.wrap_u32]; omega
    have hw4:IntKind.u64.wrap (halfS (A.c.set x n1) i+IntKind.u64.wrap (hf n))=halfS (A.c.set x n1) (i+1):=by simp only[IntKind.wrap_u64]; omega
    refine vL (vK (vD (vS (QwR (qq hS (Qmi rfl) (qq hS (g_indexAgg uq uC Qd rfl rfl (by omega) (by omega) (yU hni)) (qq hS (Qai rfl) (qq hS (Qaw rfl) (QoR (qq hS (qb _) (qq hS (Qmi rfl) (qq hS (Qmw rfl) (qq hS (kV rfl rfl) (qq hS (zE rfl rfl (by omega) (by decide) hw3) (qq hS (qi rfl) (qq hS (qa (o':=0) uc rfl uM rfl rfl rfl) ?_))))))))))))))));refine qq hS (jk (o':=i) uq uC rfl rfl (by omega) (by omega) (by omega)) ?_;refine qe (kz (v:=.int .u32 (hf n)) 0 hS uC rfl (by rw[zQ]; omega) rfl (rfl) rfl rfl) ?_;clear hS;rintro _ w_5⟨rfl,hS⟩;replace hS:=hS;rw[show(List.set [Res.cel b 226 (adL (halfU (A.c.set x n1) i) (halfS (A.c.set x n1) i))] 0 (Res.cel b 226 (((adL (halfU (A.c.set x n1) i) (halfS (A.c.set x n1) i))).set i (.int .u32 (hf n)))))=[Res.cel b 226 (adL (halfU (A.c.set x n1) (i+1)) (halfS (A.c.set x n1) i))] from by show [Res.cel b 226 (((adL (halfU (A.c.set x n1) i) (halfS (A.c.set x n1) i))).set i (.int .u32 (hf n)))]=_; rw[adL_set (by rw[jR]; omega),halfU_set hni]]at hS;refine QoN (draw (.cons 0 .pure (.cons 1 .pure (.cons 2 .pure (.cons 3 .held (.cons 4 .pure (.cons 5 .pure (.cons 6 .pure (.cons 7 .pure (.cons 8 .pure (.cons 9 .held (.cons 10 .pure (.cons 11 .pure (.cons 12 .pure (.cons 13 .pure (.cons 14 .bar .nil))))))))))))))) mixed (by kernel_rfl) hS ?_);intro w_6 hS;refine sp rfl (qb _) (sp rfl (qi rfl) (sp rfl (qa (o':=256) uc rfl uL rfl rfl rfl) ?_));refine sh rfl (qd 0 isAgg176 rfl rfl (adL_t (by rw[jR]; exact hc1l))) ?_;refine sp rfl (qb _) (sp rfl (Qmi rfl) (sp rfl (qi rfl) (sp rfl (qa (o':=0) uc rfl uM rfl rfl rfl) (sp rfl (jk (o':=i) uq uC rfl rfl (by omega) (by omega) (by omega)) (sh rfl (qd 0 Qd rfl rfl (yk hnj)) (sp rfl (vo uU ul rfl) (sp rfl (kV rfl rfl) (sp rfl (qi rfl) (sp rfl (qa (o':=256) uc rfl uL rfl rfl rfl) ?_)))))))))
    refine sb rfl (kz (v:=.int .u64 (halfS (A.c.set x n1) (i+1))) 0 hS uL rfl (by rw[zQ]; omega) rfl (congrArg (Value.int .u64) hw4) rfl rfl) ?_;rintro _ w_7⟨rfl,hS⟩;refine⟨_,_,hS,?_⟩;replace hS:=hS;rw[show(List.set [Res.cel b 226 (adL (halfU (A.c.set x n1) (i+1)) (halfS (A.c.set x n1) i))] 0 (Res.cel b 226 (((adL (halfU (A.c.set x n1) (i+1)) (halfS (A.c.set x n1) i))).set 256 (.int .u64 (halfS (A.c.set x n1) (i+1))))))=[Res.cel b 226 (adL (halfU (A.c.set x n1) (i+1)) (halfS (A.c.set x n1) (i+1)))] from by show [Res.cel b 226 (((adL (halfU (A.c.set x n1) (i+1)) (halfS (A.c.set x n1) i))).set 256 (.int .u64 (halfS (A.c.set x n1) (i+1))))]=_; rw[vu (by rw[jR]; exact hc1l)]]at hS;refine sn (xO (vK (reg (qq hS (g_add rfl rfl (by omega) (by omega)) (qq hS (Qmi rfl) ?_)))));exact⟨i+1,_,rfl,⟨⟨rfl,rfl,rfl,trivial⟩,hS.sel [true],by omega,by omega⟩,by omega⟩
   ·
    intro hc36
    try simp only[zA,zO,zN,zI,zF,zM,zT,zU]at hc36
    obtain rfl:i=256:=by omega
    have hsf:halfS (A.c.set x n1) (A.c.set x n1).length=((A.c.set x n1).map hf).sum:=by unfold halfS; rw[xB]
    rw[show(256:Nat)=(A.c.set x n1).length from hc1l.symm,halfU_all,hsf]at hS;refine xm (xh (xh (ua (end0 results194  ?_))));exact⟨rfl,by rw[he]; exact hS⟩
end Go.Proofs.YtgkgihnpjgbmhaaGreatDoor
