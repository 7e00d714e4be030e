/- Package coder: counts of bytes, their sum, the model that adapts. Conditions: numbers within bounds. What a model of the coder does, said for any model; the table that adapts. Conditions: none. bytes.TrimRight for zeros: what it computes. Conditions: none. coder.Encode: what it computes, for any model. Conditions: at most 65536 bytes. The model of the coder with a table for each byte before. Conditions: none. -/
import Derived.Test.YtgkgihnpjgbmhaaGreatDoorKCore3
import Derived.Test.YtgkgihnpjgbmhaaGreatDoorKPack
import Derived.Test.YtgkgihnpjgbmhaaGreatDoorFacts
import Derived.Test.YtgkgihnpjgbmhaaGreatDoorKCore2
import Derived.Test.YtgkgihnpjgbmhaaGreatDoorKLaw
set_option linter.unusedSimpArgs false
set_option linter.unusedVariables false
namespace Go.Proofs.YtgkgihnpjgbmhaaGreatDoor
open Tryz
open Go Go.RowKit Go.Inl
def adC (A:Ad):List Value:=u32s A.c++[.int .u64 A.t]
structure RAd (I : Imm) (b : Nat) (A : Ad) : Prop where
 hold:I b=some (.cells (adC A).toArray 226 (0,0))
theorem RAd.mono {I J:Imm}{b:Nat}{A:Ad}(h:RAd I b A)(hs:Inl.Sub I J):RAd J b A:=⟨hs _ _ h.hold⟩
theorem RAd.take {I:Imm}{b:Nat}{A:Ad}(h:RAd I b A)(hA:AdOk A){k:Nat}(hk:k≤256):RFl I 1 u32C (.slice (some ⟨b,0,none⟩) (A.c.take k).length 256) (A.c.take k):=by
 have hl:=hA.len;refine .inr ⟨b,0,256,rfl,by rw[uo]; omega,by unfold maxLen; omega,fun i y hy=>⟨_,rfl,⟨rfl,_,_,_,h.hold,fun j v hv=>?_⟩,rfl⟩⟩;have hj:j=0∧v = .wg y:=by
  cases j with
  | zero=>exact⟨rfl,(Option.some.inj hv).symm⟩
  | succ j=>simp[u32C]at hv
 obtain⟨rfl,rfl⟩:=hj;have hi:=(xX.1 hy).1;rw[uo]at hi;have hy2:A.c[i]? = some y:=by rw[List.getElem?_take]at hy; split at hy <;> simp_all
 show(adC A).toArray[0+i*1+0]? = _
 unfold adC;rw[List.getElem?_toArray,ux (by rw[jb]; omega),show 0+i*1+0=i by omega];exact u32s_at hy2
theorem atCell {I:Imm}{b:Nat}{T:TypeId}{cs:List Value}(h:I b=some (.cells cs.toArray T (0,0))):atI I ⟨b,0,none⟩ cs:=⟨rfl,_,_,_,h,fun j v hv=>by show cs.toArray[0+j]? = _; rw[Qv,List.getElem?_toArray]; exact hv⟩
theorem sum_bd13 : ∀ (l : List Int), (∀ n ∈ l, 0 ≤ n ∧ n ≤ 4294967295) → 0 ≤ l.sum ∧ l.sum ≤ 4294967295 * (l.length : Int)
 | [],_=>by simp
 | x::l,h=>by
   have h1:=h x (List.mem_cons_self ..);have h2:=sum_bd13 l fun n hn=>h n (List.mem_cons_of_mem _ hn)
   rw[List.sum_cons,List.length_cons]; push_cast; omega
theorem yN {l:List Int}{k:Nat}{x:Int}(h:l[k]? = some x):(l.take (k+1)).sum=(l.take k).sum+x:=by
 rw[qz h,List.sum_append,List.sum_cons]; simp
def onesU (k:Nat):List Int:=List.replicate k 1++List.replicate (256 - k) 0
theorem onesU_len {k:Nat}(h:k≤256):(onesU k).length=256:=by unfold onesU; rw[xN,uX,uX]; omega
theorem onesU_set {k:Nat}(h:k < 256):(onesU k).set k 1=onesU (k+1):=by
 unfold onesU;obtain⟨m,hm⟩:∃m,256 - k=m+1:=⟨255 - k,by omega⟩
 rw[hm,show 256 - (k+1)=m by omega,List.replicate_succ];have:=xg (List.replicate k 1) 0 1 (List.replicate m 0);rw[uX]at this;rw[this,List.replicate_succ',uh]; rfl
theorem onesU_all:onesU 256=adOne.c:=by show List.replicate 256 (1:Int)++List.replicate (256 - 256) 0=List.replicate 256 1; rw[Nat.sub_self,List.replicate_zero,List.append_nil]
theorem vw {P:Program}{n:Nat}{σ:Nat→Value}{S:World→Prop}{t t' ty:TypeId}{x y:Operand}{k:IntKind}{a b c:Int}(hx:ev n σ x = .int k a)(hy:ev n σ y = .int k b)(ha:0≤a)(hb:0 < b)(hk:k.wrap (a / b)=c):Gives P (ev n σ) S (.binOp .quo t x y t') ty (.int k c):=by
 subst hk;exact fun _ _=>jz hx hy (by simp[binOp,Op.intDiv,show b≠0 by omega,Int.tdiv_eq_ediv_of_nonneg ha])
def adL (c:List Int)(t:Int):List Value:=u32s c++[.int .u64 t]
theorem vD (c:List Int)(t:Int):(adL c t).length=c.length+1:=by unfold adL; rw[xN,jb]; rfl
theorem adL_set {c:List Int}{t v:Int}{x:Nat}(h:x < c.length):(adL c t).set x (.wg v)=adL (c.set x v) t:=by
 unfold adL; rw[List.set_append,xS (by rw[jb]; exact h),u32s_set]
theorem adL_tot {c:List Int}{t v:Int}(h:c.length=256):(adL c t).set 256 (.int .u64 v)=adL c v:=by
 unfold adL; rw[List.set_append,xP (by rw[jb]; omega),jb,h]; rfl
theorem xb {c:List Int}{t v:Int}{i:Nat}(h:c[i]? = some v):(adL c t)[i]? = some (.wg v):=by
 have hi:=(xX.1 h).1;unfold adL; rw[ux (by rw[jb]; exact hi)]; exact u32s_at h
theorem adL_t {c:List Int}{t:Int}(h:c.length=256):(adL c t)[256]? = some (.int .u64 t):=by
 unfold adL; rw[uB (by rw[jb]; omega),jb,h]; rfl
def hf (n:Int):Int:=(n+1) / 2
def halfU (c:List Int)(k:Nat):List Int:=(c.take k).map hf++c.drop k
theorem kK (c:List Int)(k:Nat):(halfU c k).length=c.length:=by unfold halfU; rw[xN,Qb,uo,Qj]; omega
theorem halfU_set {c:List Int}{k:Nat}{n:Int}(h:c[k]? = some n):(halfU c k).set k (hf n)=halfU c (k+1):=by
 have hk:=(xX.1 h).1;have hd:c.drop k=n::c.drop (k+1):=zx h;unfold halfU;rw[hd,qz h,Qp,uh];have:=xg ((c.take k).map hf) n (hf n) (c.drop (k+1));rw[Qb,uo,show min k c.length=k by omega]at this;rw[this]; rfl
theorem halfU_all (c:List Int):halfU c c.length=c.map hf:=by unfold halfU; rw[uL,List.drop_length,List.append_nil]
def halfS (c:List Int)(k:Nat):Int:=((c.take k).map hf).sum
theorem halfS_succ {c:List Int}{k:Nat}{n:Int}(h:c[k]? = some n):halfS c (k+1)=halfS c k+hf n:=by
 unfold halfS; rw[qz h,Qp,List.sum_append]; simp
theorem sawA_le {A:Ad}{x:Nat}(h:A.t+32≤65536):adC (sawA A x)=adL (A.c.set x (A.c.getD x 0+32)) (A.t+32):=by unfold sawA; rw[xS h]; rfl
theorem sawA_gt {A:Ad}{x:Nat}(h:¬A.t+32≤65536):adC (sawA A x)=adL ((A.c.set x (A.c.getD x 0+32)).map hf) ((A.c.set x (A.c.getD x 0+32)).map hf).sum:=by unfold sawA; rw[xP h]; rfl
set_option maxRecDepth 20000 in
set_option maxHeartbeats 1000000 in
theorem ones_c (w0 : World) (I0 : Imm) (hI : Sat I0 w0) :
 Ctr prog 125 [] w0 (fun v w'=>v = .agg (u32s adOne.c).toArray∧Ext w0 I0 w' I0):=by
 refine fn (n:=10) func125 rfl rfl rfl ?_;have Z:=St.start hI;refine QwR (qe (qr (cs:=(u32s (onesU 0))) Z zeroValue220 rfl) ?_);clear Z;rintro _ w_1⟨b0,rfl,Z⟩;refine QoR (qe (qr (cs:=(u32s (onesU 0))) Z zeroValue220 rfl) ?_);clear Z;rintro _ w_2⟨b1,rfl,Z⟩;refine QoN (xJ (QwR (qq Z (Qmi rfl) (QoN (xU (loop (fun(i:Nat) σ w=>okS σ [(0,.zg b0),(1,.zg b1),(3,.ig i)]∧St [] w0 I0 I0 w [.cel b1 220 (u32s (onesU i)),.cel b0 220 (u32s (onesU 0))]∧i≤256) (fun i=>256 - i) (0) ?_ ?_))))))
 ·
  exact⟨⟨rfl,rfl,rfl,trivial⟩,Z.sel [true,true],by omega⟩
 ·
  rintro i σ w_l⟨hs,Z,hi0⟩;rw[← qj hs]; clear hs
  refine QwR (qq Z (g_lss rfl rfl) (QoN (xJ (qh rfl ?_ ?_))))
  ·
   intro hc4
   try simp only[zA,zO,zN,zI,zF,zM,zT,zU]at hc4
   refine xM (xL (xJ (xU (QwR (qq Z (Qmi rfl) (qq Z (Qai rfl) (QoN (reg (qq Z (Qmi rfl) (qq Z (qQ (o':=i) QU uV rfl rfl (by omega) (by omega) (by omega)) ?_))))))))));refine qe (zz (v:=.wg 1) 0 Z uV rfl (by rw[jb,onesU_len (by omega)]; omega) rfl rfl rfl rfl) ?_;clear Z;rintro _ w_3⟨rfl,Z⟩;refine qy (uM (xL (reg (qq Z (g_add rfl rfl (by omega) (by omega)) (qq Z (Qmi rfl) ?_)))));rw[u32s_set,onesU_set (by omega)]at Z;exact⟨i+1,_,rfl,⟨⟨rfl,rfl,rfl,trivial⟩,Z.sel [true,true],by omega⟩,by omega⟩
  ·
   intro hc4
   try simp only[zA,zO,zN,zI,zF,zM,zT,zU]at hc4
   obtain rfl:i=256:=by omega
   rw[onesU_all]at Z;have hdr:((u32s adOne.c).drop 0).take 256=u32s adOne.c:=by rw[List.drop_zero,QC (by rw[jb,adOne_ok.len]; exact uc _)]
   have hpu:putL (u32s (onesU 0)) 0 (u32s adOne.c)=u32s adOne.c:=vI _ _ (by rw[jb,jb,onesU_len (by omega),adOne_ok.len]);refine ur (um (um (Qi (xL (QwR ?_)))));refine qq Z (g_ldO 0 (vs:=u32s adOne.c) Ji isAgg220 rfl rfl hdr (by rw[jb]; exact adOne_ok.len)) ?_;refine qe (qf 1 Z Ji rfl rfl rfl (vs:=u32s adOne.c) (by rfl) (by rw[jb]; exact adOne_ok.len) (u32s_one _) (by rw[jb]; exact uc _) (cs':=u32s adOne.c) hpu) ?_;clear Z;rintro _ w_4⟨rfl,Z⟩;refine QoN (xO (ret1 results125 (qw 1 Z Ji isAgg220 rfl rfl rfl) ?_));exact⟨rfl,Z.nil⟩
set_option maxHeartbeats 1000000 in
theorem sum13_c (ad : Option Addr) (cap : Nat) (l : List Int) (w0 : World) (I0 : Imm) (hI : Sat I0 w0) (hl : RFl I0 1 u32C (.sg ad l.length cap) l) (hb : ∀ n ∈ l, 0 ≤ n ∧ n ≤ 4294967295) (hn : l.length ≤ 256) :
 Ctr prog 95 [.sg ad l.length cap] w0 (fun v w'=>v = .int .u64 l.sum∧Ext w0 I0 w' I0):=by
 refine fn (n:=18) func95 rfl rfl rfl ?_;have Z:=St.start hI;refine QwR (qq Z (qv (v:=.int .u64 _) rfl) (QoR (qq Z (qv (v:=.int .u64 _) rfl) (QoN (xJ (QwR (qq Z (qb _) (qq Z (qo rfl ui hl rfl) (qq Z (Qmi rfl) (QoN (xU (loop (fun(k:Nat) σ w=>okS σ [(3,.int .u64 (l.take k).sum),(6,.sg ad l.length cap),(7,.ig l.length),(8,.ig k)]∧St [] w0 I0 I0 w []∧k≤l.length) (fun k=>l.length - k) (0) ?_ ?_))))))))))))
 ·
  exact⟨⟨rfl,rfl,rfl,rfl,trivial⟩,Z.sel [],by omega⟩
 ·
  rintro k σ w_l⟨hs,Z,hk0⟩;rw[← qj hs]; clear hs
  refine QwR (qq Z (g_lss rfl rfl) (QoN (xJ (qh rfl ?_ ?_))))
  ·
   intro hc9
   try simp only[zA,zO,zN,zI,zF,zM,zT,zU]at hc9
   obtain⟨x,hxi⟩:∃x,l[k]? = some x:=⟨_,xI (by omega)⟩
   have hxA:=hl.at hxi;have hxb:=hb x (xR hxi);have hsn:=yN hxi;have hsb:=sum_bd13 (l.take k) fun n hn=>hb n (List.mem_of_mem_take hn)
   rw[uo]at hsb;have hw:IntKind.u64.wrap ((l.take k).sum+IntKind.u64.wrap x)=(l.take (k+1)).sum:=by rw[hsn]; simp only[IntKind.wrap_u64]; omega
   refine xM (xL (xJ (xU (QwR (qq Z (g_ixI ui uV hl rfl rfl (by omega) (by omega)) (qq Z (qt QH hxA rfl rfl) (qq Z (Qaw rfl) (QoN (reg (qq Z (qx (v:=.int .u64 _) rfl) (qq Z (Qmw rfl) (qq Z (kT uv QL rfl) (qq Z (yn rfl rfl) (qq Z (qv (v:=.int .u64 _) rfl) (qy (uM (xL (reg (qq Z (g_add rfl rfl (by omega) (by omega)) ?_)))))))))))))))))));refine qq Z (Qmi rfl) ?_;exact⟨k+1,_,rfl,⟨⟨congrArg (Value.int .u64) hw,rfl,rfl,rfl,trivial⟩,Z.sel [],by omega⟩,by omega⟩
  ·
   intro hc9
   try simp only[zA,zO,zN,zI,zF,zM,zT,zU]at hc9
   obtain rfl:k=l.length:=by omega
   refine ur (um (um (Qi (xL (QwR (qq Z (qx (v:=.int .u64 _) rfl) (qq Z (qv (v:=.int .u64 _) rfl) (QoN (xO (ret1 results95 (qg (v:=.int .u64 _) rfl) ?_))))))))));exact⟨by rw[uL],Z.nil⟩
set_option maxRecDepth 20000 in
set_option maxHeartbeats 1000000 in
theorem saw_c (b : Nat) (A : Ad) (x : Nat) (hx : x < 256) (hA : AdOk A) (w0 : World) (I0 : Imm) (hI : Sat I0 w0) (hb : w0.heap[b]? = some (.cells (adC A).toArray 226 (0, 0))) (hn : I0 b = none) :
 Ctr prog 194 [.zg b,.bg x] w0 (fun v w'=>v = .tuple #[]∧St [b] w0 I0 I0 w' [.cel b 226 (adC (sawA A x))]):=by
 have hl:=hA.len;have htop:=hA.top;obtain⟨n0,hn0⟩:∃n,A.c[x]? = some n:=⟨_,xI (by omega)⟩
 have hge:=sum_ge A.c hA.pos;rw[hA.sum,hl]at hge;have hn0b:1≤n0∧n0≤65536:=by
  have h1:=hA.pos n0 (xR hn0);have h2:=je A.c x hA.pos (by omega);rw[xT,hn0,hA.sum]at h2;simp at h2; omega
 obtain⟨n1,hn1⟩:∃n,n=n0+32:=⟨_,rfl⟩
 have hg:A.c.getD x 0+32=n1:=by rw[xT,hn0,hn1]; rfl
 have hw1:IntKind.u32.wrap (n0+32)=n1:=by rw[IntKind.wrap_u32]; omega
 have hw2:IntKind.u64.wrap (A.t+32)=A.t+32:=by rw[IntKind.wrap_u64]; omega
 have hc1l:(A.c.set x n1).length=256:=by rw[ud]; exact hl
 have hat:=xb (t:=A.t) hn0;refine fn (n:=62) func194 rfl rfl rfl ?_;have Z:St [b] w0 I0 I0 w0 [.cel b 226 (adL A.c A.t)]:=St.startX hI hb hn;refine xJ (draw (.pg 0 (.pg 1 (.pg 2 (.pg 3 (.pg 4 (.hg 5 (.pg 6 (.pg 7 (.pg 8 (.pg 9 (.cons 10 .bar .nil))))))))))) mixed (by kernel_rfl) Z ?_);intro w_1 Z;refine sp rfl (qb _) (sp rfl (qx (v:=.bg _) rfl) (sp rfl (qm rfl) (sp rfl (qa (o':=0) QG rfl Ji rfl rfl rfl) (sp rfl (qQ (o':=x) QU uV rfl rfl (by omega) (by omega) (by omega)) (sh rfl (qc 0 QH rfl rfl hat) (sp rfl (yn rfl rfl) (sp rfl (qm rfl) (sp rfl (qa (o':=0) QG rfl Ji rfl rfl rfl) (sp rfl (qQ (o':=x) QU uV rfl rfl (by omega) (by omega) (by omega)) ?_)))))))));refine sb rfl (zz (v:=.wg n1) 0 Z uV rfl (by rw[vD]; omega) rfl (congrArg (Value.int .u32) hw1) rfl rfl) ?_;rintro _ w_2⟨rfl,Z⟩;refine⟨_,_,Z,?_⟩;replace Z:=Z;rw[show(List.set [Res.cel b 226 (adL A.c A.t)] 0 (Res.cel b 226 (((adL A.c A.t)).set x (.wg n1))))=[Res.cel b 226 (adL (A.c.set x n1) A.t)] from by show [Res.cel b 226 (((adL A.c A.t)).set x (.wg n1))]=_; rw[adL_set (by omega)]]at Z;refine sn (xL (xJ (QwR (qq Z (qb _) (qq Z (qm rfl) (qq Z (qa (o':=256) QG rfl Je rfl rfl rfl) (qq Z (qc 0 isAgg176 rfl rfl (adL_t hc1l)) (qq Z (yn rfl rfl) (qq Z (qm rfl) (qq Z (qa (o':=256) QG rfl Je rfl rfl rfl) ?_))))))))));refine qe (zz (v:=.int .u64 (A.t+32)) 0 Z Je rfl (by rw[vD]; omega) rfl (congrArg (Value.int .u64) hw2) rfl rfl) ?_;clear Z;rintro _ w_3⟨rfl,Z⟩;replace Z:=Z;rw[show(List.set [Res.cel b 226 (adL (A.c.set x n1) A.t)] 0 (Res.cel b 226 (((adL (A.c.set x n1) A.t)).set 256 (.int .u64 (A.t+32)))))=[Res.cel b 226 (adL (A.c.set x n1) (A.t+32))] from by show [Res.cel b 226 (((adL (A.c.set x n1) A.t)).set 256 (.int .u64 (A.t+32)))]=_; rw[adL_tot hc1l]]at Z
 refine QoR (qq Z (qb _) (qq Z (qm rfl) (qq Z (qa (o':=256) QG rfl Je rfl rfl rfl) (qq Z (qc 0 isAgg176 rfl rfl (adL_t hc1l)) (qq Z (g_leq rfl rfl) (QoN (qh rfl ?_ ?_)))))))
 ·
  intro hc27
  try simp only[zA,zO,zN,zI,zF,zM,zT,zU]at hc27
  have he:=sawA_le (x:=x) hc27;rw[hg]at he;refine xO (ul (ret0 results194  ?_));exact⟨rfl,by rw[he]; exact Z⟩
 ·
  intro hc27
  try simp only[zA,zO,zN,zI,zF,zM,zT,zU]at hc27
  have he:=sawA_gt (x:=x) hc27;rw[hg]at he;have hdr:((adL (A.c.set x n1) 0).drop 0).take 256=u32s (A.c.set x n1):=by unfold adL; rw[List.drop_zero,QK (by rw[jb]; omega),QC (by rw[jb]; omega)]
  refine xM (xL (QwR (qq Z (qb _) (qq Z (qm rfl) (qq Z (qa (o':=256) QG rfl Je rfl rfl rfl) ?_)))));refine qe (zz (v:=.int .u64 0) 0 Z Je rfl (by rw[vD]; omega) rfl (rfl) rfl rfl) ?_;clear Z;rintro _ w_4⟨rfl,Z⟩;replace Z:=Z;rw[show(List.set [Res.cel b 226 (adL (A.c.set x n1) (A.t+32))] 0 (Res.cel b 226 (((adL (A.c.set x n1) (A.t+32))).set 256 (.int .u64 0))))=[Res.cel b 226 (adL (A.c.set x n1) 0)] from by show [Res.cel b 226 (((adL (A.c.set x n1) (A.t+32))).set 256 (.int .u64 0))]=_; rw[adL_tot hc1l]]at Z;refine QoR (qq Z (qb _) (qq Z (qm rfl) (qq Z (qa (o':=0) QG rfl Ji rfl rfl rfl) ?_)));refine qq Z (g_ldO 0 (vs:=u32s (A.c.set x n1)) Ji isAgg220 rfl rfl hdr (by rw[jb]; exact hc1l)) ?_;refine qq Z (Qmi rfl) (QoN (xU (loop (fun(i:Nat) σ w=>okS σ [(0,.zg b),(34,.agg (u32s (A.c.set x n1)).toArray),(35,.ig i)]∧St [b] w0 I0 I0 w [.cel b 226 (adL (halfU (A.c.set x n1) i) (halfS (A.c.set x n1) i))]∧i≤256∧(0≤halfS (A.c.set x n1) i∧halfS (A.c.set x n1) i≤65568*(i:Int))) (fun i=>256 - i) (0) ?_ ?_)))
  ·
   exact⟨⟨rfl,rfl,rfl,trivial⟩,Z.sel [true],by omega,by simp[halfS]⟩
  ·
   rintro i σ w_l⟨hs,Z,hi0,hsb0⟩;rw[← qj hs]; clear hs
   refine QwR (qq Z (g_lss rfl rfl) (QoN (xJ (qh rfl ?_ ?_))))
   ·
    intro hc36
    try simp only[zA,zO,zN,zI,zF,zM,zT,zU]at hc36
    obtain⟨n,hni⟩:∃n,(A.c.set x n1)[i]? = some n:=⟨_,xI (by omega)⟩
    have hnb:1≤n∧n≤65568:=by
     rcases List.mem_or_eq_of_mem_set (xR hni) with h | h
     · have h1 := hA.pos n h
       obtain⟨j,hj,hjn⟩:=List.getElem_of_mem h;have h2:=je A.c j hA.pos hj;rw[xT,xI hj,hA.sum]at h2;simp at h2; omega
     · omega
    have hhf:hf n=(n+1) / 2:=rfl;have hlu:=kK (A.c.set x n1) i;have hlu2:=kK (A.c.set x n1) (i+1);have hnj:(halfU (A.c.set x n1) (i+1))[i]? = some (hf n):=by rw[← halfU_set hni,List.getElem?_set,xS rfl,xS (by rw[kK]; omega)]
    have hss:=halfS_succ hni;have hsb:0≤halfS (A.c.set x n1) i∧halfS (A.c.set x n1) i≤65568*(i:Int):=hsb0;have hw5:IntKind.u32.wrap (n+1)=n+1:=by rw[IntKind.wrap_u32]; omega
    have hw3:IntKind.u32.wrap (IntKind.u32.wrap (n+1) / 2)=hf n:=by rw[hw5,IntKind.wrap_u32]; omega
    have hw4:IntKind.u64.wrap (halfS (A.c.set x n1) i+IntKind.u64.wrap (hf n))=halfS (A.c.set x n1) (i+1):=by simp only[IntKind.wrap_u64]; omega
    refine xM (xL (xJ (xU (QwR (qq Z (Qmi rfl) (qq Z (jx QU uV QH rfl rfl (by omega) (by omega) (u32s_at hni)) (qq Z (Qai rfl) (qq Z (Qaw rfl) (QoR (qq Z (qb _) (qq Z (Qmi rfl) (qq Z (Qmw rfl) (qq Z (yn rfl rfl) (qq Z (vw rfl rfl (by omega) (by decide) hw3) (qq Z (qm rfl) (qq Z (qa (o':=0) QG rfl Ji rfl rfl rfl) ?_))))))))))))))));refine qq Z (qQ (o':=i) QU uV rfl rfl (by omega) (by omega) (by omega)) ?_;refine qe (zz (v:=.wg (hf n)) 0 Z uV rfl (by rw[vD]; omega) rfl (rfl) rfl rfl) ?_;clear Z;rintro _ w_5⟨rfl,Z⟩;replace Z:=Z;rw[show(List.set [Res.cel b 226 (adL (halfU (A.c.set x n1) i) (halfS (A.c.set x n1) i))] 0 (Res.cel b 226 (((adL (halfU (A.c.set x n1) i) (halfS (A.c.set x n1) i))).set i (.wg (hf n)))))=[Res.cel b 226 (adL (halfU (A.c.set x n1) (i+1)) (halfS (A.c.set x n1) i))] from by show [Res.cel b 226 (((adL (halfU (A.c.set x n1) i) (halfS (A.c.set x n1) i))).set i (.wg (hf n)))]=_; rw[adL_set (by rw[kK]; omega),halfU_set hni]]at Z;refine QoN (draw (.pg 0 (.pg 1 (.pg 2 (.hg 3 (.pg 4 (.pg 5 (.pg 6 (.pg 7 (.pg 8 (.hg 9 (.pg 10 (.pg 11 (.pg 12 (.pg 13 (.cons 14 .bar .nil))))))))))))))) mixed (by kernel_rfl) Z ?_);intro w_6 Z;refine sp rfl (qb _) (sp rfl (qm rfl) (sp rfl (qa (o':=256) QG rfl Je rfl rfl rfl) ?_));refine sh rfl (qc 0 isAgg176 rfl rfl (adL_t (by rw[kK]; exact hc1l))) ?_;refine sp rfl (qb _) (sp rfl (Qmi rfl) (sp rfl (qm rfl) (sp rfl (qa (o':=0) QG rfl Ji rfl rfl rfl) (sp rfl (qQ (o':=i) QU uV rfl rfl (by omega) (by omega) (by omega)) (sh rfl (qc 0 QH rfl rfl (xb hnj)) (sp rfl (kT uv QL rfl) (sp rfl (yn rfl rfl) (sp rfl (qm rfl) (sp rfl (qa (o':=256) QG rfl Je rfl rfl rfl) ?_)))))))))
    refine sb rfl (zz (v:=.int .u64 (halfS (A.c.set x n1) (i+1))) 0 Z Je rfl (by rw[vD]; omega) rfl (congrArg (Value.int .u64) hw4) rfl rfl) ?_;rintro _ w_7⟨rfl,Z⟩;refine⟨_,_,Z,?_⟩;replace Z:=Z;rw[show(List.set [Res.cel b 226 (adL (halfU (A.c.set x n1) (i+1)) (halfS (A.c.set x n1) i))] 0 (Res.cel b 226 (((adL (halfU (A.c.set x n1) (i+1)) (halfS (A.c.set x n1) i))).set 256 (.int .u64 (halfS (A.c.set x n1) (i+1))))))=[Res.cel b 226 (adL (halfU (A.c.set x n1) (i+1)) (halfS (A.c.set x n1) (i+1)))] from by show [Res.cel b 226 (((adL (halfU (A.c.set x n1) (i+1)) (halfS (A.c.set x n1) i))).set 256 (.int .u64 (halfS (A.c.set x n1) (i+1))))]=_; rw[adL_tot (by rw[kK]; exact hc1l)]]at Z;refine sn (uM (xL (reg (qq Z (g_add rfl rfl (by omega) (by omega)) (qq Z (Qmi rfl) ?_)))));exact⟨i+1,_,rfl,⟨⟨rfl,rfl,rfl,trivial⟩,Z.sel [true],by omega,by omega⟩,by omega⟩
   ·
    intro hc36
    try simp only[zA,zO,zN,zI,zF,zM,zT,zU]at hc36
    obtain rfl:i=256:=by omega
    have hsf:halfS (A.c.set x n1) (A.c.set x n1).length=((A.c.set x n1).map hf).sum:=by unfold halfS; rw[uL]
    rw[show(256:Nat)=(A.c.set x n1).length from hc1l.symm,halfU_all,hsf]at Z;refine ur (um (um (Qi (end0 results194  ?_))));exact⟨rfl,by rw[he]; exact Z⟩
end Go.Proofs.YtgkgihnpjgbmhaaGreatDoor
namespace Go.Proofs.YtgkgihnpjgbmhaaGreatDoor
open Tryz
open Go Go.RowKit Go.Inl
structure Chg (F : List Nat) (w : World) (I : Imm) (w' : World) (I' : Imm) : Prop where
 os:w'.os=w.os
 tape:w'.tape=w.tape
 output:w'.output=w.output
 size:w.heap.size≤w'.heap.size
 block:∀k,k < w.heap.size→k∉F→w'.heap[k]? = w.heap[k]?
 imm:Sat I' w'
 keep:∀b,b < w.heap.size→b∉F→I' b=I b
theorem yO {I:Imm}{w:World}{b:Nat}{o:Obj}(h:Sat I w)(hb:I b=some o):b < w.heap.size:=(Array.getElem?_eq_some_iff.1 (h b o hb)).1
theorem St.chg {w0 w w':World}{I0 I I':Imm}{L:List Res}{F:List Nat}(hI:Sat I0 w0)(h:St [] w0 I0 I w L)(hF:∀b∈F,(I b).isSome=true∧w0.heap.size≤b)(hC:Chg F w I w' I'):St [] w0 I0 I' w' L:=by
 have hfoot:∀r∈L,∀b∈r.foot,b < w.heap.size∧b∉F:=fun r hr b hb =>
  ⟨Res.foot_lt (h.hold r hr) b hb,fun hm=>by have h1:=(h.new r hr b hb).1; have h2:=(hF b hm).1; rw[h1]at h2; cases h2⟩
 refine⟨hC.os.trans h.os,hC.tape.trans h.tape,hC.output.trans h.output,Nat.le_trans h.size hC.size,fun k hk hx=>?_,hC.imm,fun b hb=>?_,fun b o hb=>?_,fun r hr=>?_,fun r hr b hb=>?_,h.nodup⟩
 · exact(hC.block k (Nat.lt_of_lt_of_le hk h.size) fun hm=>by have:=(hF k hm).2; omega).trans (h.block k hk hx)
 · exact(hC.keep b (Nat.lt_of_lt_of_le hb h.size) fun hm=>by have:=(hF b hm).2; omega).trans (h.old b hb)
 · have hlt := yO hI hb
   rw[hC.keep b (Nat.lt_of_lt_of_le hlt h.size) fun hm=>by have:=(hF b hm).2; omega];exact h.ext b o hb
 · exact Res.holds_of (h.hold r hr) fun b hb=>hC.block b (hfoot r hr b hb).1 (hfoot r hr b hb).2
 · obtain ⟨h1, h2⟩ := h.new r hr b hb
   exact⟨(hC.keep b (hfoot r hr b hb).1 (hfoot r hr b hb).2).trans h1,h2⟩
theorem Chg.ofExt {w w':World}{I I':Imm}(h:Ext w I w' I'):Chg [] w I w' I':=⟨h.os,h.tape,h.output,h.size,fun k hk _=>h.block k hk (by simp),h.imm,fun b hb _=>h.old b hb⟩
theorem Chg.ofOwn {w w':World}{I:Imm}{b:Nat}{T:TypeId}{cs:List Value}(hI:Sat I w)(hb:b < w.heap.size)(h:St [b] w (fun c=>if c=b then none else I c) (fun c=>if c=b then none else I c) w' [.cel b T cs]):Chg [b] w I w' (fun c=>if c=b then some (.cells cs.toArray T (0,0)) else I c):=by
 refine⟨h.os,h.tape,h.output,h.size,fun k hk hm=>h.block k hk hm,fun c o hc=>?_,fun c hc hm=>by rw[xP (by simpa using hm)]⟩;by_cases e:c=b
 · subst e
   rw[xS rfl]at hc;obtain rfl:=Option.some.inj hc;exact h.hold _ (uG.2 rfl)
 · rw [xP e] at hc
   exact h.imm c o (by rw[xP e]; exact hc)
theorem xh {w:World}{I:Imm}(hI:Sat I w)(b:Nat):Sat (fun c=>if c=b then none else I c) w:=fun c o hc=>by
 dsimp only at hc;by_cases e:c=b
 · rw[xS e]at hc; cases hc
 · rw[xP e]at hc; exact hI c o hc
structure Mdl where
 S:Type
 tab:S→Ad
 nxt:S→Nat→S
 inv:S→Prop
 holds:Imm→Value→S→List Nat→Prop
structure MdlOk (M : Mdl) : Prop where
 tab:∀s,M.inv s→AdOk (M.tab s)
 nxt:∀s x,M.inv s→x < 256→M.inv (M.nxt s x)
 foot:∀I v s F,M.holds I v s F→∀b∈F,(I b).isSome=true
 iface:∀I v s F,M.holds I v s F→∃T x,v = .iface T x
 counts : ∀ {n : Nat} {σ : Nat → Value} {ty : TypeId} {aT : Array TypeId} {r : Operand} {w : World} (I : Imm) (v : Value) (s : M.S) (F : List Nat), Sat I w → M.holds I v s F → M.inv s → ev n σ r = v →
  Does prog (ev n σ) (.call { callee := .invoke r "inlay/coder.counts", args := [].toArray, argTypes := aT }) ty w (fun u w' => ∃ I' F' b, u = .tuple #[.zg b, .int .u64 (M.tab s).t] ∧ Chg F w I w' I' ∧ M.holds I' v s F' ∧ RAd I' b (M.tab s) ∧ ∀ c ∈ F', c ∈ F ∨ w.heap.size ≤ c)
 saw : ∀ {n : Nat} {σ : Nat → Value} {ty : TypeId} {aT : Array TypeId} {r y : Operand} {w : World} (I : Imm) (v : Value) (s : M.S) (F : List Nat) (x : Nat), x < 256 → Sat I w → M.holds I v s F → M.inv s → ev n σ r = v → ev n σ y = .bg x →
  Does prog (ev n σ) (.call { callee := .invoke r "inlay/coder.saw", args := [y].toArray, argTypes := aT }) ty w (fun u w' => ∃ I' F', u = .tuple #[] ∧ Chg F w I w' I' ∧ M.holds I' v (M.nxt s x) F' ∧ ∀ c ∈ F', c ∈ F ∨ w.heap.size ≤ c)
theorem m_ad_counts (v : Value) (w : World) : (method (prog.types.size + Made.depth) 224 v "inlay/coder.counts").run prog w = .ok (193, v) w := by kernel_rfl
theorem m_ad_saw (v : Value) (w : World) : (method (prog.types.size + Made.depth) 224 v "inlay/coder.saw").run prog w = .ok (194, v) w := by kernel_rfl
theorem zP {P : Program} {n : Nat} {σ : Nat → Value} {ty t : TypeId} {X : List Nat} {w0 : World} {I0 I : Imm} {L : List Res} {x : Operand} {b o : Nat} {cs : List Value} {v : Value} (ha : ∀ w, (isAgg t).run P w = .ok false w) (h : atI I ⟨b, 0, none⟩ cs) (hx : ev n σ x = .pointer (some ⟨b, o, none⟩)) (hv : cs[o]? = some v) :
 Gives P (ev n σ) (KS X w0 I0 I L) (.load t x) ty v:=kS hx fun w hw=>jF (ha w) (by
 have:=h.cell hw.imm o v hv;rwa [show(⟨b,0,none⟩:Addr).add o=⟨b,o,none⟩ by simp[Addr.add]; intro h; exact h.symm]at this)
def mdl1:Mdl:=⟨Ad,fun A=>A,sawA,AdOk,fun I v A F=>∃b,v = .iface 224 (.zg b)∧RAd I b A∧F=[b]⟩
theorem adcounts_c (b : Nat) (A : Ad) (hA : AdOk A) (w0 : World) (I0 : Imm) (hI : Sat I0 w0) (h : RAd I0 b A) :
 Ctr prog 193 [.zg b] w0 (fun v w'=>v = .tuple #[.zg b,.int .u64 A.t]∧Ext w0 I0 w' I0):=by
 have hat:=atCell h.hold;have ht:=adL_t (t:=A.t) hA.len;refine fn (n:=11) func193 rfl rfl rfl ?_;have Z:=St.start hI;refine QwR (qq Z (qd _) (qq Z (qv (v:=.int .u64 _) rfl) (QoN (xJ (draw (.pg 0 (.pg 1 (.pg 2 (.pg 3 (.pg 4 (.pg 5 (.hg 6 (.pg 7 (.pg 8 .nil))))))))) mixed (by kernel_rfl) Z ?_)))));intro w_1 Z;refine sp rfl (qb _) (sp rfl (qm rfl) (sp rfl (qa (o':=0) QG rfl Ji rfl rfl rfl) (sp rfl (qb _) (sp rfl (qm rfl) (sp rfl (qa (o':=256) QG rfl Je rfl rfl rfl) (sh rfl (zP isAgg176 hat rfl ht) (sp rfl (qd _) (sp rfl (qv (v:=.int .u64 _) rfl) (sn (xL (xO (ret2 results193 (qg rfl) (qg (v:=.int .u64 _) rfl) ?_))))))))))));exact⟨rfl,Z.nil⟩
theorem mdl1_ok : MdlOk mdl1 where
 tab:=fun s h=>h
 nxt:=fun s x h hx=>sawA_ok h hx
 foot:=fun I v s F ⟨b,_,h2,h3⟩ c hc=>by
  subst h3;obtain rfl:=uG.1 hc;rw[h2.hold]; rfl
 iface:=fun I v s F ⟨b,h1,_⟩=>⟨_,_,h1⟩
 counts:=fun I v s F hI ⟨b,h1,h2,h3⟩ hi hr=>by
  subst h3;refine(jc (hr.trans h1) (m_ad_counts _) call193 ml0 (adcounts_c b s hi _ I hI h2)).mono ?_;rintro u w' ⟨rfl,hE⟩;exact⟨I,[b],b,rfl,⟨hE.os,hE.tape,hE.output,hE.size,fun k hk _=>hE.block k hk (by simp),hE.imm,fun _ _ _=>rfl⟩,⟨b,h1,h2,rfl⟩,h2,fun c hc=>.inl hc⟩
 saw:=fun I v s F x hx hI ⟨b,h1,h2,h3⟩ hi hr hy=>by
  subst h3;have hlt:=yO hI h2.hold;refine(jc (hr.trans h1) (m_ad_saw _) call194 (ml hy ml0) (saw_c b s x hx hi _ _ (xh hI b) (hI b _ h2.hold) (xS rfl))).mono ?_;rintro u w' ⟨rfl,hE⟩;exact⟨_,[b],rfl,Chg.ofOwn hI hlt hE,⟨b,h1,⟨xS rfl⟩,rfl⟩,fun c hc=>.inl hc⟩
end Go.Proofs.YtgkgihnpjgbmhaaGreatDoor
namespace Go.Proofs.YtgkgihnpjgbmhaaGreatDoor
open Tryz
open Go Go.RowKit Go.Inl
theorem kt {P:Program}{ρ:Operand→Value}{S:World→Prop}{op:Op}{ty:TypeId}{v v':Value}(h:Gives P ρ S op ty v)(e:v=v'):Gives P ρ S op ty v':=by subst e; exact h
theorem trimZ_zero (p:List Int):trimZ (p++[0])=trimZ p:=by unfold trimZ; rw[List.reverse_append]; simp
theorem trimZ_ne (p:List Int){d:Int}(h:d≠0):trimZ (p++[d])=p++[d]:=by unfold trimZ; rw[List.reverse_append]; simp[h]
def zeroS:ByteArray:=⟨#[0]⟩
theorem xr {P:Program}{n:Nat}{σ:Nat→Value}{S:World→Prop}{t t' ty:TypeId}{x y:Operand}{k:IntKind}{a b:Int}(hx:ev n σ x = .int k a)(hy:ev n σ y = .int k b)(h:¬a=b):Gives P (ev n σ) S (.binOp .eql t x y t') ty (.bool false):=by
 have:=g_eql (P:=P) (S:=S) (t:=t) (t':=t') (ty:=ty) hx hy;rwa [uw h]at this
theorem zeroS_ne:Value.bool (zeroS.toList == (⟨#[]⟩:ByteArray).toList) = .bool false:=by kernel_rfl
structure TrW where
 k:Nat
 a:Option Addr
 c:Nat
set_option maxHeartbeats 1000000 in
theorem trimByte_c (ad : Option Addr) (cap : Nat) (l : List Int) (w0 : World) (I0 : Imm) (hI : Sat I0 w0) (hl : RBytes I0 (.sg ad l.length cap) l) :
 Ctr prog 126 [.sg ad l.length cap,.bg 0] w0 (fun v w'=>∃a c,v = .slice a (trimZ l).length c∧Ext w0 I0 w' I0∧RBytes I0 (.slice a (trimZ l).length c) (trimZ l)):=by
 have hll:=RSl.le hl;simp only[maxLen]at hll;refine fn (n:=24) func126 rfl rfl rfl ?_;have Z:=St.start hI;refine QwR (qq Z (qd _) (QoN (xJ (xU (loop (fun(x:TrW) σ w=>okS σ [(0,.sg x.a x.k x.c),(1,.bg 0)]∧St [] w0 I0 I0 w []∧x.k≤l.length∧RBytes I0 (.sg x.a x.k x.c) (l.take x.k)∧trimZ (l.take x.k)=trimZ l) (fun x=>x.k) (⟨l.length,ad,cap⟩) ?_ ?_)))))
 ·
  exact⟨⟨rfl,rfl,trivial⟩,Z.sel [],uc _,by dsimp only; rw[uL]; exact hl,by dsimp only; rw[uL]⟩
 ·
  rintro⟨k,a,c⟩σ w_l⟨hs,Z,hk0,hT,htr⟩;dsimp only at hs Z hk0 hT htr ⊢;rw[← qj hs]; clear hs
  refine xJ (xJ ?_);have hlt:(l.take k).length=k:=by rw[uo]; omega
  obtain⟨d,hd⟩:∃d,l.getD (k - 1) 0=d:=⟨_,rfl⟩
  have hdi:0 < k→l[k - 1]? = some d:=fun h=>by rw[← hd,xT,xI (show k - 1 < l.length by omega)]; rfl
  have hsp:0 < k→l.take k=l.take (k - 1)++[d]:=fun h=>by have:=qz (hdi h); rwa [show k - 1+1=k by omega]at this
  have hdA:0 < ((l.take k).length:Int)→atI I0 (elA (.sg a k c) (((l.take k).length:Int) - 1).toNat 1 0) [.bg d]:=fun h=>by
   have:=hT.at (show(l.take k)[(((l.take k).length:Int) - 1).toNat]? = some d by rw[show(((l.take k).length:Int) - 1).toNat=k - 1 by omega,List.getElem?_take,xS (by omega)]; exact hdi (by omega));exact this
  refine reg (qq Z (qb _) (qq Z (qo rfl xQ hT rfl) (qq Z (g_gtr rfl rfl) (qq Z (Qmb rfl) (qu rfl rfl Z (fun hg=>(qb _)) ?_)))));intro u9 hu9 hn9;refine qu rfl rfl Z (fun hg=>(qb _)) ?_;intro u10 hu10 hn10;refine qu rfl rfl Z (fun hg=>(qo rfl xQ hT (hu10 hg))) ?_;intro u11 hu11 hn11;refine qu rfl rfl Z (fun hg=>(g_sub (hu11 hg) rfl (by omega) (by omega))) ?_;intro u12 hu12 hn12;refine qu rfl rfl Z (fun hg=>(g_ixI xQ un hT (hu9 hg) (hu12 hg) (by have:=Jm hg; omega) (by have:=Jm hg; omega))) ?_;intro u13 hu13 hn13;refine qu rfl rfl Z (fun hg=>(qt uZ (hdA (Jm hg)) (hu13 hg) rfl)) ?_;intro u14 hu14 hn14;refine qu rfl rfl Z (fun hg=>(qx (v:=.bg _) rfl)) ?_;intro u15 hu15 hn15;refine qu rfl rfl Z (fun hg=>(g_eql (hu14 hg) (hu15 hg))) ?_;intro u16 hu16 hn16;refine qq Z (g_and rfl rfl (fun hq=>hu16 hq)) (QoN (qh rfl ?_ ?_))
  ·
   intro hc17;clear hu9 hn9 hu10 hn10 hu11 hn11 hu12 hn12 hu13 hn13 hu14 hn14 hu15 hn15 hu16 hn16;rw[uC,ua,ua]at hc17;obtain⟨hk1,hd0⟩:=hc17;have hk2:0 < k:=by omega
   have hs2:=RSl.slH hT (k - 1) (by rw[uo]; omega);rw[List.take_take,show min (k - 1) k=k - 1 by omega]at hs2;obtain⟨a2,c2,hv2,_⟩:=hs2.len;rw[hv2]at hs2;rw[show(l.take (k - 1)).length=k - 1 by rw[uo]; omega]at hv2 hs2;have hcc:=(RSl.resl2 hT k k (by first | omega | (rw[uo]; omega)) (by first | omega | (rw[uo]; omega))).2.1;have htr2:trimZ (l.take (k - 1))=trimZ l:=by
    rw[← htr,hsp hk2,hd0,trimZ_zero]
   refine xM (xL (xU (reg (qq Z (qb _) (qq Z (qb _) (qq Z (qo rfl xQ hT rfl) (qq Z (g_sub rfl rfl (by omega) (by omega)) (qq Z (kt (zt (h0:=k - 1) xQ un rfl rfl (by omega) (by omega) (by omega)) hv2) (qq Z (qd _) ?_)))))))));exact⟨⟨k - 1,a2,c2⟩,_,rfl,⟨⟨rfl,rfl,trivial⟩,Z.sel [],by dsimp only; omega,hs2,htr2⟩,by dsimp only; omega⟩
  ·
   intro hc17;clear hu9 hn9 hu10 hn10 hu11 hn11 hu12 hn12 hu13 hn13 hu14 hn14 hu15 hn15 hu16 hn16;have hfin:trimZ l=l.take k:=by
    rw[← htr];rcases Nat.eq_zero_or_pos k with h | h
    · subst h; rfl
    · rw [hsp h]
      exact trimZ_ne _ (fun h0=>by rw[Bool.and_eq_false_iff,xZ,xZ]at hc17; omega)
   refine ur (um (um (Qi (xL (QwR (qq Z (qb _) (qq Z (qd _) (QoN (xO (ret1 results126 (qg rfl) ?_))))))))));have hlk:(trimZ l).length=k:=by rw[hfin,uo]; omega
   rw[hlk,hfin];exact⟨a,c,rfl,Z.nil,hT⟩
set_option maxHeartbeats 1000000 in
theorem trim_c (ad : Option Addr) (cap n : Nat) (l : List Int) (w0 : World) (I0 : Imm) (hI : Sat I0 w0) (hl : RBytes I0 (.sg ad n cap) l) (hn : n = l.length) (h1 : 1 ≤ l.length) :
 Ctr prog 96 [.sg ad n cap,.string zeroS] w0 (fun v w'=>∃a c,v = .slice a (trimZ l).length c∧Ext w0 I0 w' I0∧RBytes I0 (.slice a (trimZ l).length c) (trimZ l)):=by
 subst hn;refine fn (n:=38) func96 rfl rfl rfl ?_;have Z:=St.start hI;refine QwR (qq Z (qd _) (QoN (xJ (QwR (qq Z (qb _) (qq Z (qo rfl xQ hl rfl) (qq Z (xr rfl rfl (by omega)) (qq Z (Qmb rfl) (qqs rfl rfl Z (qb _) (qqs rfl rfl Z (kt (g_eqlStr rfl rfl) zeroS_ne) (qq Z (g_or rfl rfl (fun _=>rfl)) (QoN (qV (rfl) (xM (xL (xJ (QwR (qq Z (qb _) (qq Z (g_lenStr rfl JG rfl) ?_)))))))))))))))))));refine qq Z (g_eql rfl rfl) (qq Z (Qmb rfl) (qqs rfl rfl Z (qb _) (qqs rfl rfl Z (g_indexStr (b:=0) JG rfl rfl (by decide) (by decide) rfl) (qqs rfl rfl Z (g_lss rfl rfl) (qq Z (g_and rfl rfl (fun _=>rfl)) (QoN (jR (rfl) (QwR (qq Z (qb _) (qq Z (qb _) (qq Z (g_indexStr (b:=0) JG rfl rfl (by decide) (by decide) rfl) ?_)))))))))));refine qe (qi call126 rfl (trimByte_c _ _ l _ _ Z.imm hl)) ?_;rintro _ w_1⟨a26,c26,rfl,hE,h26⟩;replace Z:=Z.callE hE;refine qq Z (qd _) (QoN (xO (ul (ret1 results96 (qg rfl) ?_))));exact⟨a26,c26,rfl,Z.nil,h26⟩
end Go.Proofs.YtgkgihnpjgbmhaaGreatDoor
namespace Go.Proofs.YtgkgihnpjgbmhaaGreatDoor
open Tryz
open Go Go.RowKit Go.Inl
section
variable {P:Program} {n:Nat} {σ:Nat→Value} {S:World→Prop} {t t' ty:TypeId} {x y:Operand} {k k':IntKind} {a b c:Int}
theorem ze (hx:ev n σ x = .int k a)(hy:ev n σ y = .int k b)(h:k.wrap (a*b)=c):Gives P (ev n σ) S (.binOp .mul t x y t') ty (.int k c):=by subst h; exact g_mulw hx hy
theorem vU (hx:ev n σ x = .int k a)(hy:ev n σ y = .int k b)(h:k.wrap (a+b)=c):Gives P (ev n σ) S (.binOp .add t x y t') ty (.int k c):=by subst h; exact yn hx hy
theorem g_subu (hx:ev n σ x = .int k a)(hy:ev n σ y = .int k b)(h:k.wrap (a - b)=c):Gives P (ev n σ) S (.binOp .sub t x y t') ty (.int k c):=by subst h; exact fun _ _=>jz hx hy (by simp[binOp,Op.intArith])
theorem g_shru {s:Nat}(hx:ev n σ x = .int .u64 a)(hy:ev n σ y = .int k' (s:Int))(hs:s≤64)(ha:0≤a)(h:a / 2 ^ s=c):Gives P (ev n σ) S (.binOp .shr t x y t') ty (.int .u64 c):=fun w _=>by
 subst h;have h1:¬(s:Int) < 0:=by omega
 have h2:min s (IntKind.u64.bits)=s:=Nat.min_eq_left hs;simp[execOp,hx,hy,Sem.run_bind,eqGuard,binOp,Op.shift,h1,h2,Result.andThen,Int.fdiv_eq_ediv_of_nonneg]
theorem jI {d:TypeDesc}(hs:P.underlying t=some d)(hd:P.underlying t'=some (.int k'))(hx:ev n σ x = .int k a)(h:k'.wrap a=c):Gives P (ev n σ) S (.convert t t' x) ty (.int k' c):=by subst h; exact kT hs hd hx
theorem g_ifaceNil {T:TypeId}{v:Value}(ht:P.underlying t=some (.interface (P.methodsAt t)))(hx:ev n σ x = .iface T v)(hy:ev n σ y = .nilIface):Gives P (ev n σ) S (.binOp .eql t x y t') ty (.bool false):=fun w _=>by
 simp[execOp,hx,hy,Sem.run_bind,eqGuard,Result.andThen,run_eql_held_nil w t T v ht]
theorem g_sliceArrT {e : TypeId} {N sz b o h0 : Nat} {K : IntKind} {h : Int} {hi : Operand} (hA : P.underlying t = some (.array N e)) (hs : ∀ w, (sizeOf e).run P w = .ok sz w)
 (hx:ev n σ x = .pointer (some ⟨b,o,none⟩)) (hh:ev n σ hi = .int K h) (h1:0≤h) (h2:h≤N) (h3:h.toNat=h0) :
 Gives P (ev n σ) S (.slice t x none (some hi) none) ty (.slice (some ⟨b,o,none⟩) h0 N):=fun w _=>by
 subst h3;have e2:(Instr.sliceBound (.int K h) N .sliceAlen).run P w = .ok h.toNat w:=run_sliceBound w K h _ _ (by omega) (by omega);simp[execOp,Instr.sliceAt,Sem.run_bind,run_underlying hA,hx,Instr.sureAddr,Instr.sliceBounds,hh,e2,hs,Addr.add]
end
def encF (M:Mdl)(p:Cs×M.S)(x:Int):Cs×M.S:=(stepC p.1 (M.tab p.2) x.toNat,M.nxt p.2 x.toNat)
def encUp (M:Mdl)(s0:M.S)(b:List Int)(k:Nat):Cs×M.S:=(b.take k).foldl (encF M) (startC,s0)
theorem ve {M:Mdl}{s0:M.S}{b:List Int}{k:Nat}{x:Int}(h:b[k]? = some x):encUp M s0 b (k+1)=encF M (encUp M s0 b k) x:=by
 unfold encUp; rw[qz h,List.foldl_append]; rfl
theorem tail_flat (s:Cs):flat byteC (tailC s)=flat byteC s.out++[.bg (s.low / 16777216),.bg (s.low / 65536 % 256),.bg (s.low / 256 % 256),.bg (s.low % 256)]:=by unfold tailC; rw[ql]; rfl
theorem yb (s:Cs):(tailC s).length=s.out.length+4:=by unfold tailC; rw[xN]; rfl
def encP (M:Mdl)(s0:M.S)(b:List Int):List Int:=trimZ (tailC (encUp M s0 b b.length).1)
theorem model_ty:prog.underlying 174=some (.interface (prog.methodsAt 174)):=by kernel_rfl
structure EncW (M : Mdl) where
 k:Nat
 cs:Cs
 s:M.S
 a:Option Addr
 c:Nat
structure CarW where
 i:Nat
 l:List Int
structure NrmW where
 j:Nat
 s:Cs
 a:Option Addr
 c:Nat
theorem kE (l:List Int):(carried l).length=l.length:=by
 have h:∀(k:Nat) (l:List Int),(carryAt l k).length=l.length:=by
  intro k;induction k with
  | zero=>intro l; rfl
  | succ k ih=>intro l; unfold carryAt; split; rw[ih,ud]; rw[ud]
 exact h _ _
theorem xj (s:Cs)(r b c:Int):(putC s r b c).out.length=s.out.length:=by unfold putC; split; exact kE _; rfl
set_option maxRecDepth 20000 in
set_option maxHeartbeats 2000000 in
theorem enc_c (M : Mdl) (hM : MdlOk M) (s0 : M.S) (hs0 : M.inv s0) (n : Int) (hbeg : ∀ (w : World) (I : Imm), Sat I w → Ctr prog 94 [.ig n] w (fun v w' => ∃ I' F, Ext w I w' I' ∧ M.holds I' v s0 F ∧ ∀ c ∈ F, w.heap.size ≤ c))
 (ad:Option Addr) (cap:Nat) (b:List Int) (w0:World) (I0:Imm) (hI:Sat I0 w0) (hb:RBytes I0 (.sg ad b.length cap) b) (hbb:∀y∈b,0≤y∧y≤255) (hbl:b.length≤65536) :
 Ctr prog 46 [.ig n,.sg ad b.length cap] w0 (fun v w'=>∃I' a c,v = .tuple #[.slice a (encP M s0 b).length c,.ig 0]∧Ext w0 I0 w' I'∧RBytes I' (.slice a (encP M s0 b).length c) (encP M s0 b)):=by
 have hll:=RSl.le hb;simp only[maxLen]at hll;refine fn (n:=112) func46 rfl rfl rfl ?_;have Z:=St.start hI;refine QwR (qq Z (qd _) (qq Z (Qai rfl) (QoR (qq Z (Qmi rfl) (qe (qi call94 rfl (hbeg _ _ Z.imm)) ?_)))));rintro mv w_1⟨I1,F1,hE,hH1,hF1⟩;replace Z:=Z.callE hE;obtain⟨mT,mx,hmv⟩:=hM.iface _ _ _ _ hH1;have hFn1:∀c∈F1,w0.heap.size≤c:=fun c hc=>hF1 c hc
 refine qq Z (qd _) (QoN (xJ (xU (QwR (qq Z (qb _) (qq Z (g_ifaceNil model_ty hmv rfl) (qq Z (Qab rfl) (QoN (qV (rfl) (QwR (qq Z (qb _) (qq Z (qo rfl xQ (hb.mono Z.ext) rfl) (qq Z (g_gtr rfl rfl) (qq Z (Qab rfl) (QoN (qV (congrArg Value.bool (uw (by omega))) (xM (uM (xL (QwR (qq Z (qd _) (QoR ?_))))))))))))))))))))));refine qq Z (qv (v:=.int .u64 _) rfl) (qq Z (qv (v:=.int .u64 _) rfl) (QoN (xJ (QwR (qq Z (qb _) (qq Z (qo rfl xQ (hb.mono Z.ext) rfl) (qq Z (Qmi rfl) (QoN (xU (loop (fun(x:EncW M) σ w=>okS σ [(6,mv),(7,.sg x.a x.cs.out.length x.c),(8,.int .u64 x.cs.low),(9,.int .u64 x.cs.size),(25,.sg ad b.length cap),(26,.ig b.length),(27,.ig x.k)]∧∃I,St [] w0 I0 I w [.row (.sg x.a x.cs.out.length x.c) 5 1 x.cs.out.length (flat byteC x.cs.out)]∧x.k≤b.length∧encUp M s0 b x.k=(x.cs,x.s)∧Good13 x.cs∧M.inv x.s∧x.cs.out.length≤4*x.k∧∃F,M.holds I mv x.s F∧∀c∈F,w0.heap.size≤c) (fun x=>b.length - x.k) (⟨0,startC,s0,none,0⟩) ?_ ?_))))))))))
 ·
  exact⟨⟨rfl,rfl,rfl,rfl,rfl,rfl,rfl,trivial⟩,_,(Z.sel []).nilRow _ _,by dsimp only; omega,rfl,⟨xD,by show(16777216:Int)≤4294967295; decide⟩,hs0,uc _,F1,hH1,hFn1⟩
 ·
  rintro⟨k,cs,s,a,c⟩σ w_l⟨hs,I,Z,hk0,hup,hGd,hMi,hol,F,hH,hFn⟩;dsimp only at hs Z hk0 hup hGd hMi hol hH ⊢;rw[← qj hs]; clear hs
  refine QwR (qq Z (g_lss rfl rfl) (QoN (xJ (qh rfl ?_ ?_))))
  ·
   intro hc28
   try simp only[zA,zO,zN,zI,zF,zM,zT,zU]at hc28
   obtain⟨y,hyi⟩:∃y,b[k]? = some y:=⟨_,xI (by omega)⟩
   have hyA:=(hb.mono Z.ext).at hyi;have hyb:=hbb y (xR hyi);have hnx:=ve (M:=M) (s0:=s0) hyi;rw[hup]at hnx;have hA:=hM.tab s hMi;obtain⟨A,hAe⟩:∃A,M.tab s=A:=⟨_,rfl⟩
   have hg2:=yy hGd hA (show y.toNat < 256 by omega);have hMi2:=hM.nxt s y.toNat hMi (by omega);replace hnx:encUp M s0 b (k+1)=(stepC cs A y.toNat,M.nxt s y.toNat):=by rw[hnx]; unfold encF; rw[hAe]
   rw[hAe]at hA hg2;obtain⟨q1,q2,q3⟩:=je A.c y.toNat hA.pos (by rw[hA.len]; omega);rw[hA.sum]at q3;have hAt:1≤A.t∧A.t≤65536:=⟨by omega,hA.top⟩
   obtain⟨r1,r2⟩:=zk hGd.big hAt;obtain⟨u1,u2⟩:=hGd.ok.low;obtain⟨u3,u4⟩:=hGd.ok.size;have hpo:=put_ok hGd.ok (r:=cs.size / A.t) (before:=(A.c.take y.toNat).sum) (cnt:=A.c.getD y.toNat 0) (t:=A.t) (by omega) q1 q2 q3 r2;obtain⟨before,hbf⟩:∃x,(A.c.take y.toNat).sum=x:=⟨_,rfl⟩
   obtain⟨cnt,hct⟩:∃x,A.c.getD y.toNat 0=x:=⟨_,rfl⟩
   obtain⟨r,hr⟩:∃x,cs.size / A.t=x:=⟨_,rfl⟩
   have hcn:A.c[y.toNat]? = some cnt:=by rw[← hct,xT]; rw[xI (show y.toNat < A.c.length by rw[hA.len]; omega)]; rfl
   rw[hbf]at q1 q3 hpo;rw[hct]at q2 q3 hpo;rw[hr]at r1 r2 hpo;have e1:r*before+r*cnt≤r*A.t:=by rw[← Int.mul_add]; exact Int.mul_le_mul_of_nonneg_left q3 (by omega)
   have e2:0≤r*before:=Int.mul_nonneg (by omega) q1;have e3:1≤r*cnt:=by have:=Int.mul_le_mul (show 1≤r by omega) q2 (by omega) (by omega); omega
   have hrle:r≤cs.size:=by rw[← hr]; exact Int.ediv_le_self _ (by omega)
   obtain⟨rb,hrb⟩:∃x,r*before=x:=⟨_,rfl⟩
   obtain⟨rc,hrc⟩:∃x,r*cnt=x:=⟨_,rfl⟩
   rw[hrb]at e1 e2;rw[hrc]at e1 e3;have hrw:IntKind.u64.wrap (cs.size / A.t)=r:=by rw[hr,IntKind.wrap_u64]; omega
   have hcb:∀n∈A.c.take y.toNat,0≤n∧n≤4294967295:=fun n hn=>by
    have h0:=List.mem_of_mem_take hn;obtain⟨j,hj,hjn⟩:=List.getElem_of_mem h0;have h2:=je A.c j hA.pos hj;rw[xT,xI hj,hA.sum]at h2;simp at h2; omega
   have hty:y.toNat=(A.c.take y.toNat).length:=by rw[uo,hA.len]; omega
   have hm1:IntKind.u64.wrap (r*(A.c.take y.toNat).sum)=rb:=by rw[hbf,hrb,IntKind.wrap_u64]; omega
   have hm2:IntKind.u64.wrap (cs.low+rb)=cs.low+rb:=by rw[IntKind.wrap_u64]; omega
   have hm3:IntKind.u64.wrap cnt=cnt:=by rw[IntKind.wrap_u64]; omega
   have hm4:IntKind.u64.wrap (r*cnt)=rc:=by rw[hrc,IntKind.wrap_u64]; omega
   have hstep:stepC cs A y.toNat=normC 4 (putC cs r before cnt):=by unfold stepC; rw[hr,hbf,hct]
   have hpl:=xj cs r before cnt;obtain⟨P1,hP1⟩:∃P,putC cs r before cnt=P:=⟨_,rfl⟩
   rw[hP1]at hpo hstep hpl;rw[hstep]at hnx hg2;refine xM (xL (xJ (xU (QwR (qq Z (g_ixI xQ un (hb.mono Z.ext) rfl rfl (by omega) (by omega)) (qq Z (qt uZ hyA rfl rfl) (qq Z (qv (v:=.bg _) rfl) (QoR (qq Z (qb _) (qe (hM.counts _ mv s F Z.imm hH hMi rfl) ?_))))))))));rintro v33 w_2⟨I2,F2,tb,hv33,hC,hH2,hT2,hF2⟩;rw[hAe]at hv33 hT2;subst hv33;have hsz0:=Z.size;replace Z:=St.chg hI Z (fun c hc=>⟨hM.foot _ _ _ _ hH c hc,hFn c hc⟩) hC;have hFn2:∀c∈F2,w0.heap.size≤c:=fun c hc=>(hF2 c hc).elim (hFn c) (fun h=>Nat.le_trans hsz0 h)
   refine qq Z (qb _) (qq Z (qk rfl rfl) (qq Z (qk (v:=.int .u64 _) rfl rfl) (qq Z (qd _) (qq Z (qv (v:=.int .u64 _) rfl) (QoR (qq Z (qx (v:=.int .u64 _) rfl) (qq Z (qx (v:=.int .u64 _) rfl) (qq Z (vw rfl rfl (by omega) (by omega) hrw) (qq Z (qv (v:=.int .u64 _) rfl) (QoN (xJ (draw (.pg 0 (.pg 1 (.pg 2 (.pg 3 (.pg 4 (.pg 5 (.pg 9 (.pg 10 (.pg 11 (.pg 12 (.pg 13 (.hg 14 (.pg 15 (.pg 16 (.cons 6 .eff (.pg 7 (.pg 8 (.pg 17 (.pg 18 .nil))))))))))))))))))) mixed (by kernel_rfl) Z ?_))))))))))));intro w_3 Z;refine sp rfl (qx (v:=.int .u64 _) rfl) (sp rfl (qx (v:=.int .u64 _) rfl) (sp rfl (qb _) (sp rfl (qm rfl) (sp rfl (qx (v:=.bg _) rfl) (sp rfl (g_sliceArrT QU uV rfl rfl (by omega) (by omega) hty) (sp rfl (qx (v:=.int .u64 _) rfl) (sp rfl (qb _) (sp rfl (qx (v:=.bg _) rfl) (sp rfl (qm rfl) ?_)))))))));refine sp rfl (qQ (o':=y.toNat) QU uV rfl rfl (by omega) (by omega) (by omega)) (sh rfl (zP QH (atCell hT2.hold) rfl (xb hcn)) (sp rfl (jI uv QL rfl hm3) (sp rfl (ze rfl rfl hm4) ?_)));have hS0:=Z;refine se rfl (qi call95 rfl (sum13_c _ _ (A.c.take y.toNat) _ _ Z.imm (hT2.take hA (by omega)) hcb (by rw[uo]; omega))) ?_;rintro _ w_4⟨rfl,hE⟩;replace Z:=Z.call hE;refine⟨_,_,hS0.le hE.ext (uu _),Z,sp rfl (ze rfl rfl hm1) (sp rfl (vU rfl rfl hm2) (sp rfl (qv (v:=.int .u64 _) rfl) (sp rfl (qv (v:=.int .u64 _) rfl) (sn (xL (meet (fun σ w=>∃a c,okS σ [(6,mv),(7,.sg a P1.out.length c),(8,.int .u64 P1.low),(9,.int .u64 P1.size),(11,.bg y),(25,.sg ad b.length cap),(26,.ig b.length),(27,.ig k)]∧St [] w0 I0 I2 w [.row (.sg a P1.out.length c) 5 1 P1.out.length (flat byteC P1.out)]) ?_ ?_))))))⟩
   ·
    refine QwR (qq Z (qx (v:=.int .u64 _) rfl) (qq Z (g_geq rfl rfl) (QoN (qh rfl ?_ ?_))))
    ·
     intro hc57
     try simp only[zA,zO,zN,zI,zF,zM,zT,zU]at hc57
     have hm5:IntKind.u64.wrap (cs.low+rb - 4294967296)=cs.low+rb - 4294967296:=by rw[IntKind.wrap_u64]; omega
     have hPe:P1=⟨cs.low+rb - 4294967296,rc,carried cs.out⟩:=by rw[← hP1]; unfold putC; rw[hrb,hrc,xS (by omega)]
     have hcv:=CsOk.carry (s:=cs) (lo:=cs.low+rb) (si:=rc) hGd.ok.byt (by have:=hGd.ok.all; omega) (by omega) (by omega);obtain⟨j0,hj0,hj1⟩:=carry_ex hGd.ok.byt hcv;refine QwR (qq Z (qx (v:=.int .u64 _) rfl) (qq Z (g_subu rfl rfl hm5) (qq Z (qv (v:=.int .u64 _) rfl) (QoR (qq Z (qb _) (qq Z (g_lenR 0 rfl xQ rfl rfl) (qq Z (g_sub rfl rfl (by omega) (by omega)) (qq Z (Qai rfl) (QoN (xJ (xU (loop (fun(z:CarW) σ w=>okS σ [(6,mv),(7,.sg a cs.out.length c),(8,.int .u64 (cs.low+rb - 4294967296)),(9,.int .u64 rc),(11,.bg y),(15,.ig z.i),(25,.sg ad b.length cap),(26,.ig b.length),(27,.ig k)]∧St [] w0 I0 I2 w [.row (.sg a cs.out.length c) 5 1 cs.out.length (flat byteC z.l)]∧z.i < z.l.length∧z.l.length=cs.out.length∧Byt z.l∧carryAt z.l (z.i+1)=carried cs.out∧∃j,j≤z.i∧z.l.getD j 0≠255) (fun z=>z.i) (⟨cs.out.length - 1,cs.out⟩) ?_ ?_))))))))))))
     ·
      refine⟨⟨rfl,rfl,rfl,rfl,rfl,?_,rfl,rfl,rfl,trivial⟩,Z.sel [true],by dsimp only; omega,rfl,hGd.ok.byt,?_,j0,by dsimp only; omega,hj1⟩
      · exact congrArg (Value.int .i64) (by dsimp only; omega)
      · dsimp only; rw[show cs.out.length - 1+1=cs.out.length by omega]; rfl
     ·
      rintro⟨i,l⟩σ w_l⟨hs,Z,hi1,hi2,hi3,hcar,hex⟩;dsimp only at hs Z hi1 hi2 hi3 hcar hex ⊢;rw[← qj hs]; clear hs
      refine xJ (xJ ?_);obtain⟨d,hli⟩:∃d,l[((i:Nat):Int).toNat]? = some d:=⟨_,xI (by omega)⟩
      have hdl:l.getD i 0=d:=by rw[Int.toNat_natCast]at hli; rw[xT,hli]; rfl
      have hdb:=hi3 d (xR hli);refine reg (qq Z (qb _) (qq Z (Qmi rfl) (qq Z (g_ixR 0 xQ un rfl rfl rfl (by omega) (by omega)) (qq Z (jg 0 uZ rfl rfl (qN qA l _ d hli 0 _ rfl)) (qq Z (g_eql rfl rfl) (QoN (qh rfl ?_ ?_)))))))
      ·
       intro hc67
       try simp only[zA,zO,zN,zI,zF,zM,zT,zU]at hc67
       have hi0:0 < i:=by
        rcases Nat.eq_zero_or_pos i with h | h
        · obtain ⟨j, hj, hne⟩ := hex
          have:j=i:=by omega
          rw[this,hdl]at hne;exact absurd hc67 hne
        · exact h
       have hcar2:carryAt (l.set i 0) i=carried cs.out:=by
        rw[← hcar];conv=>rhs; unfold carryAt
        rw[xS (hdl.trans hc67)]
       refine xM (xL (xJ (xU (reg (qq Z (qb _) (qq Z (Qmi rfl) (qq Z (g_ixR 0 xQ un rfl rfl rfl (by omega) (by omega)) (qe (jd 0 (c:=0) qA 0 Z hi2.symm hli un rfl rfl rfl (vs:=[.bg _]) rfl rfl rfl rfl rfl) ?_))))))));clear Z;rintro _ w_5⟨rfl,Z⟩;refine qy (uM (xL (reg (qq Z (Qmi rfl) (qq Z (g_sub rfl rfl (by omega) (by omega)) (qq Z (Qai rfl) ?_))))));refine⟨⟨i - 1,l.set i 0⟩,_,rfl,⟨⟨rfl,rfl,rfl,rfl,rfl,?_,rfl,rfl,rfl,trivial⟩,Z.sel [true],by dsimp only; rw[ud]; omega,by dsimp only; rw[ud]; exact hi2,?_,?_,?_⟩,by dsimp only; omega⟩
       · exact congrArg (Value.int .i64) (by dsimp only; omega)
       · intro u hu
         rcases List.mem_or_eq_of_mem_set hu with h | h
         · exact hi3 u h
         · omega
       · dsimp only; rw[show i - 1+1=i by omega]; exact hcar2
       · obtain ⟨j, hj, hne⟩ := hex
         have hji:j≠i:=fun h=>by subst h; rw[hdl]at hne; exact hne hc67
         refine⟨j,by dsimp only; omega,?_⟩;dsimp only;rw[xT,List.getElem?_set_ne (fun h=>hji h.symm),← xT]; exact hne
      ·
       intro hc67
       try simp only[zA,zO,zN,zI,zF,zM,zT,zU]at hc67
       have hd1:IntKind.u8.wrap (d+1)=d+1:=by rw[IntKind.wrap_u8]; omega
       have hsl:l.set ((i:Nat):Int).toNat (d+1)=carried cs.out:=by
        rw[← hcar];conv=>rhs; unfold carryAt
        rw[xP (by rw[hdl]; exact hc67),hdl]; rfl
       refine ur (um (um (Qi (xL (reg (qq Z (qb _) (qq Z (Qmi rfl) (qq Z (g_ixR 0 xQ un rfl rfl rfl (by omega) (by omega)) (qq Z (jg 0 uZ rfl rfl (qN qA l _ d hli 0 _ rfl)) (qq Z (vU rfl rfl hd1) (qq Z (g_ixR 0 xQ un rfl rfl rfl (by omega) (by omega)) (qe (jd 0 (c:=0) qA (d+1) Z hi2.symm hli un rfl rfl rfl (vs:=[.bg _]) rfl rfl rfl rfl rfl) ?_))))))))))));clear Z;rintro _ w_6⟨rfl,Z⟩;refine QoN ?_;rw[hPe]; exact⟨_,rfl,a,c,⟨rfl,(by first | rfl | (dsimp only; rw[kE]; rfl)),rfl,rfl,rfl,rfl,rfl,rfl,trivial⟩,(by first | exact Z.sel [true] | (dsimp only; rw[kE,← hsl]; exact Z.sel [true]))⟩
    ·
     intro hc57
     try simp only[zA,zO,zN,zI,zF,zM,zT,zU]at hc57
     have hPe:P1=⟨cs.low+rb,rc,cs.out⟩:=by rw[← hP1]; unfold putC; rw[hrb,hrc,xP (by omega)]
     refine xM (xL ?_);rw[hPe]; exact⟨_,rfl,a,c,⟨rfl,(by first | rfl | (dsimp only; rw[kE]; rfl)),rfl,rfl,rfl,rfl,rfl,rfl,trivial⟩,(by first | exact Z.sel [true] | (dsimp only; rw[kE,← hsl]; exact Z.sel [true]))⟩
   ·
    rintro σ w⟨a,c,hs,Z⟩;rw[← qj hs];refine xJ (xU (loop (fun(z:NrmW) σ w=>okS σ [(6,mv),(7,.sg z.a z.s.out.length z.c),(8,.int .u64 z.s.low),(9,.int .u64 z.s.size),(11,.bg y),(25,.sg ad b.length cap),(26,.ig b.length),(27,.ig k)]∧St [] w0 I0 I2 w [.row (.sg z.a z.s.out.length z.c) 5 1 z.s.out.length (flat byteC z.s.out)]∧normC z.j z.s=normC 4 P1∧CsOk z.s∧16777216≤z.s.size*256 ^ z.j∧z.s.out.length+z.j≤P1.out.length+4) (fun z=>z.j) (⟨4,P1,a,c⟩) ?_ ?_))
    ·
     refine⟨⟨rfl,rfl,rfl,rfl,rfl,rfl,rfl,rfl,trivial⟩,Z.sel [true],rfl,hpo,?_,uc _⟩;dsimp only;have:=hpo.size.1;omega
    ·
     rintro⟨j,t,a,c⟩σ w_l⟨hs,Z,hne,hns,hnb,hnl⟩;dsimp only at hs Z hne hns hnb hnl ⊢;rw[← qj hs]; clear hs
     refine xJ (QwR (qq Z (qx (v:=.int .u64 _) rfl) (qq Z (g_lss rfl rfl) (QoN (qh rfl ?_ ?_)))))
     ·
      intro hc80
      try simp only[zA,zO,zN,zI,zF,zM,zT,zU]at hc80
      obtain⟨j',rfl⟩:∃j',j=j'+1:=by
       cases j with
       | zero=>simp at hnb; omega
       | succ j'=>exact⟨j',rfl⟩
      have hno:=vo hns hc80;obtain⟨v1,v2⟩:=hns.low;obtain⟨v3,v4⟩:=hns.size;have hne2:normC j' ⟨t.low % 16777216*256,t.size*256,t.out++[t.low / 16777216]⟩=normC 4 P1:=by
       rw[← hne];conv=>rhs; unfold normC
       rw[xS hc80]
      have hn1:IntKind.u64.wrap (t.low / 16777216)=t.low / 16777216:=by rw[IntKind.wrap_u64]; omega
      have hn2:IntKind.u8.wrap (t.low / 16777216)=t.low / 16777216:=by rw[IntKind.wrap_u8]; omega
      have hn3:IntKind.u64.wrap (t.low % 16777216*256)=t.low % 16777216*256:=by rw[IntKind.wrap_u64]; omega
      have hn4:IntKind.u64.wrap (t.size*256)=t.size*256:=by rw[IntKind.wrap_u64]; omega
      have hnb2:16777216≤t.size*256*256 ^ j':=by rw[jn,← Int.mul_assoc]at hnb; exact hnb
      refine xM (xL (xJ (xU (QwR (qq Z (qb _) (qq Z (qx (v:=.int .u64 _) rfl) (qq Z (vw rfl rfl (by omega) (by decide) hn1) (qq Z (jI QL uA rfl hn2) ?_))))))));refine qe (d_lit (vs:=[.bg _]) (cs:=[.bg _]) Z xQ un QZ rfl rfl rfl rfl (fun v hv=>by simp only[xV,xY,or_false]at hv; subst hv; rfl) rfl) ?_;clear Z;rintro _ w_7⟨b_7,rfl,Z⟩;refine qe (qB 1 0 Z rfl xQ QP rfl rfl rfl rfl rfl rfl rfl rfl (by omega) (by omega)) ?_;clear Z;rintro _ w_8⟨a88,p88,rfl,Z⟩;refine qq Z (qd _) (QoN (reg (qq Z (qx (v:=.int .u64 _) rfl) (qq Z (g_rem rfl rfl (by omega) (by omega)) (qq Z (ze rfl rfl hn3) (qq Z (qv (v:=.int .u64 _) rfl) (qy (uM (xL (reg (qq Z (qx (v:=.int .u64 _) rfl) (qq Z (ze rfl rfl hn4) (qq Z (qv (v:=.int .u64 _) rfl) ?_)))))))))))));refine⟨⟨j',⟨t.low % 16777216*256,t.size*256,t.out++[t.low / 16777216]⟩,a88,p88⟩,_,rfl,⟨⟨rfl,by dsimp only; rw[xN]; rfl,rfl,rfl,rfl,rfl,rfl,rfl,trivial⟩,?_,hne2,hno,hnb2,by dsimp only; rw[xN]; simp at hnl ⊢; omega⟩,by dsimp only; omega⟩;dsimp only;rw[ql,qS,xN];exact Z.sel [false,true]
     ·
      intro hc80
      try simp only[zA,zO,zN,zI,zF,zM,zT,zU]at hc80
      have hte:t=normC 4 P1:=by
       rw[← hne];cases j with
       | zero=>rfl
       | succ j'=>unfold normC; rw[xP (by omega)]
      have hyt:(y.toNat:Int)=y:=by omega
      refine ur (um (um (Qi (xL ?_))));subst hte;refine reg (qq Z (qb _) (qq Z (qx (v:=.bg _) rfl) (qe (hM.saw _ mv s F2 y.toNat (by omega) Z.imm hH2 hMi rfl (congrArg (Value.int .u8) hyt.symm)) ?_)));rintro _ w_9⟨I3,F3,rfl,hC,hH3,hF3⟩;have hsz1:=Z.size;replace Z:=St.chg hI Z (fun c hc=>⟨hM.foot _ _ _ _ hH2 c hc,hFn2 c hc⟩) hC;have hFn3:∀c∈F3,w0.heap.size≤c:=fun c hc=>(hF3 c hc).elim (hFn2 c) (fun h=>Nat.le_trans hsz1 h)
      refine qy (uM (xL (reg (qq Z (g_add rfl rfl (by omega) (by omega)) (qq Z (Qmi rfl) ?_)))));refine⟨⟨k+1,normC 4 P1,M.nxt s y.toNat,a,c⟩,_,rfl,⟨⟨rfl,rfl,rfl,rfl,rfl,rfl,rfl,trivial⟩,_,Z.sel [true],by dsimp only; omega,hnx,hg2,hMi2,by dsimp only; omega,F3,hH3,hFn3⟩,by dsimp only; omega⟩
  ·
   intro hc28
   try simp only[zA,zO,zN,zI,zF,zM,zT,zU]at hc28
   obtain rfl:k=b.length:=by omega
   obtain⟨u1,u2⟩:=hGd.ok.low;have hep:encP M s0 b=trimZ (tailC cs):=by unfold encP; rw[hup]
   have ht1:IntKind.u8.wrap (cs.low / 2 ^ 24)=cs.low / 16777216:=by rw[IntKind.wrap_u8]; omega
   have ht2:IntKind.u8.wrap (cs.low / 2 ^ 16)=cs.low / 65536 % 256:=by rw[IntKind.wrap_u8]; omega
   have ht3:IntKind.u8.wrap (cs.low / 2 ^ 8)=cs.low / 256 % 256:=by rw[IntKind.wrap_u8]; omega
   have ht4:IntKind.u8.wrap cs.low=cs.low % 256:=by rw[IntKind.wrap_u8]
   refine ur (um (um (Qi (xL (QwR (qq Z (qb _) (qq Z (qx (v:=.int .u64 _) rfl) (qq Z (g_shru (s:=24) rfl rfl (by decide) (by omega) rfl) (qq Z (jI QL uA rfl ht1) (qq Z (qx (v:=.int .u64 _) rfl) (qq Z (g_shru (s:=16) rfl rfl (by decide) (by omega) rfl) (qq Z (jI QL uA rfl ht2) (qq Z (qx (v:=.int .u64 _) rfl) ?_)))))))))))));refine qq Z (g_shru (s:=8) rfl rfl (by decide) (by omega) rfl) (qq Z (jI QL uA rfl ht3) (qq Z (qx (v:=.int .u64 _) rfl) (qq Z (jI QL uA rfl ht4) ?_)));refine qe (d_lit (vs:=[.bg _,.bg _,.bg _,.bg _]) (cs:=[.bg _,.bg _,.bg _,.bg _]) Z xQ un QZ rfl rfl rfl rfl (fun v hv=>by simp only[xV,xY,or_false]at hv; rcases hv with rfl | rfl | rfl | rfl <;> rfl) rfl) ?_;clear Z;rintro _ w_10⟨b_10,rfl,Z⟩;refine qe (qB 1 0 Z rfl xQ QP rfl rfl rfl rfl rfl rfl rfl rfl (by omega) (by omega)) ?_;clear Z;rintro _ w_11⟨a109,p109,rfl,Z⟩;refine qq Z (qd _) (QoN (xJ ?_));have hF:=St.freezeRow (u:=.sg a109 (cs.out.length+4) p109) (m:=cs.out.length+4) (xs:=tailC cs) qA (by rw[tail_flat]; exact Z.ord [1,0]) ((yb cs).symm);clear Z;obtain⟨I_hfz,Z,hI_hfz,hfz⟩:=hF;refine reg (qq Z (qb _) ?_);refine qe (qi call96 rfl (trim_c _ _ _ (tailC cs) _ _ Z.imm hfz (yb cs).symm (by rw[yb]; omega))) ?_;rintro _ w_12⟨a111,c111,rfl,hE,h111⟩;replace Z:=Z.callE hE;replace hfz:=hfz.mono hE.ext;refine qq Z (qd _) (qq Z (Qai rfl) (QoN (xO (ret2 results46 (qg rfl) (qg (v:=.ig _) rfl) ?_))));rw[hep];exact⟨_,a111,c111,rfl,Z.nil,h111⟩
end Go.Proofs.YtgkgihnpjgbmhaaGreatDoor
namespace Go.Proofs.YtgkgihnpjgbmhaaGreatDoor
open Tryz
open Go Go.RowKit Go.Inl
def aftC (r:Nat)(last:Int):List Value:=[.map (some r),.bg last]
theorem St.startO {w:World}{I:Imm}{b:Nat}{o:Obj}(h:Sat I w)(hb:w.heap[b]? = some o)(hn:I b=none):St [b] w I I w [.obj b o] :=
 ⟨rfl,rfl,rfl,uc _,fun _ _ _=>rfl,h,fun _ _=>rfl,Sub.refl _,by
   intro r hr; simp only[uG]at hr; subst hr; exact hb,by
   intro r hr c hc; simp only[uG]at hr; subst hr; simp only[Res.foot,uG]at hc; subst hc; exact⟨hn,.inr (by simp)⟩,by simp[Res.foot]⟩
theorem g_eqT13 {P:Program}{n:Nat}{σ:Nat→Value}{S:World→Prop}{t t' ty:TypeId}{x y:Operand}{k:IntKind}{a b:Int}(hx:ev n σ x = .int k a)(hy:ev n σ y = .int k b)(h:a=b):Gives P (ev n σ) S (.binOp .eql t x y t') ty (.bool true):=by
 have:=g_eql (P:=P) (S:=S) (t:=t) (t':=t') (ty:=ty) hx hy;rwa [uH h]at this
theorem St.freezeB {w0 w:World}{I0 I:Imm}{L:List Res}{b:Nat}{T:TypeId}{cs:List Value}(h:St [] w0 I0 I w (.cel b T cs::L)):∃I',St [] w0 I0 I' w L∧Inl.Sub I I'∧I' b=some (.cells cs.toArray T (0,0)):=by
 have hh:w.heap[b]? = some (.cells cs.toArray T (0,0)):=h.hold _ (List.mem_cons_self ..);obtain⟨h2,h3,h4⟩:=h.freeze;exact⟨_,h2,h3,by rw[h4 b (by simp[Res.foot]),hh]⟩
set_option maxRecDepth 20000 in
set_option maxHeartbeats 1000000 in
theorem now_c (b r : Nat) (l : List (Int × Nat)) (last : Int) (w0 : World) (I0 : Imm) (hI : Sat I0 w0) (hb : I0 b = some (.cells (aftC r last).toArray 230 (0, 0))) (hm : w0.heap[r]? = some (mapOB l)) (hn : I0 r = none) :
 Ctr prog 197 [.zg b] w0 (fun v w'=>∃c,v = .zg c∧((lookIB l last=some c∧St [r] w0 I0 I0 w' [.obj r (mapOB l)])∨(lookIB l last=none∧St [r] w0 I0 I0 w' [.cel c 226 (adC adOne),.obj r (mapOB (l++[(last,c)]))]))):=by
 refine fn (n:=32) func197 rfl rfl rfl ?_;have Z:St [r] w0 I0 I0 w0 [.obj r (mapOB l)]:=St.startO hI hm hn;refine QwR (qq Z (qd _) (QoN (xJ (draw (.pg 0 (.pg 1 (.pg 2 (.hg 3 (.pg 4 (.pg 5 (.pg 6 (.hg 7 (.hg 8 (.pg 9 (.pg 10 (.pg 11 (.pg 12 (.pg 13 .nil)))))))))))))) mixed (by kernel_rfl) Z ?_))));intro w_1 Z;refine sp rfl (qb _) (sp rfl (qm rfl) (sp rfl (qa (o':=0) Jz rfl sizeOf228 rfl rfl rfl) (sh rfl (zP isAgg228 (atCell hb) rfl (show(aftC r last)[0]? = _ from rfl)) (sp rfl (qb _) (sp rfl (qm rfl) (sp rfl (qa (o':=1) Jz rfl un rfl rfl rfl) (sh rfl (zP uZ (atCell hb) rfl (show(aftC r last)[1]? = _ from rfl)) ?_)))))));refine sh rfl (g_lookOB 0 underlying228 uA zeroValue224 rfl rfl rfl) (sp rfl (qb _) (sp rfl (qk rfl rfl) (sp rfl (qk (v:=.bool _) rfl rfl) (sp rfl (qd _) (sp rfl (Qab rfl) (sn (xL (xJ (QwR (qq Z (Qmb rfl) (qq Z (g_not rfl) (QoN (qh rfl ?_ ?_)))))))))))))
 ·
  intro hc18;have hnone:lookIB l last=none:=by
   cases h:lookIB l last with
   | none=>rfl
   | some c=>rw[h]at hc18; cases hc18
  refine QwR (qe (qi call125 rfl (ones_c _ _ Z.imm)) ?_);rintro _ w_2⟨rfl,hE⟩;replace Z:=Z.callE hE;refine qq Z (qs (pl:=[(0,256),(256,1)]) (cs:=adC adOne) zeroValue226 QG (fun w=>by simp[Ji,Je]) (mp (v:=.agg (u32s adOne.c).toArray) rfl (mp (v:=.int .u64 256) rfl mp0)) (by kernel_rfl)) (qe (d_box (cs:=adC adOne) Z rfl) ?_);clear Z;rintro _ w_3⟨bt,rfl,Z⟩;refine qq Z (qd _) (QoN (draw (.pg 0 (.pg 1 (.pg 2 (.hg 3 (.pg 4 (.pg 5 (.pg 6 (.hg 7 (.pg 8 (.cons 9 .bar .nil)))))))))) mixed (by kernel_rfl) Z ?_));intro w_4 Z;refine sp rfl (qb _) (sp rfl (qm rfl) (sp rfl (qa (o':=0) Jz rfl sizeOf228 rfl rfl rfl) (sh rfl (zP isAgg228 (atCell hb) rfl (show(aftC r last)[0]? = _ from rfl)) (sp rfl (qb _) (sp rfl (qm rfl) (sp rfl (qa (o':=1) Jz rfl un rfl rfl rfl) (sh rfl (zP uZ (atCell hb) rfl (show(aftC r last)[1]? = _ from rfl)) ?_)))))));refine sp rfl (qb _) (sb rfl (d_mapPutB 1 Z underlying228 uA rfl rfl rfl rfl hnone) ?_);rintro _ w_5⟨rfl,Z⟩;refine⟨_,_,Z,sn (xL (QwR (qq Z (qb _) (qq Z (qd _) (QoN (xO (ret1 results197 (qg rfl) ?_)))))))⟩;exact⟨_,rfl,.inr ⟨hnone,Z⟩⟩
 ·
  intro hc18;obtain⟨c,hsome⟩:∃c,lookIB l last=some c:=by
   cases h:lookIB l last with
   | none=>rw[h]at hc18; cases hc18
   | some c=>exact⟨c,rfl⟩
  refine xM (xL (QwR (qq Z (qb _) (qq Z (qd _) (QoN (xO (ret1 results197 (qg rfl) ?_)))))));rw[hsome];exact⟨_,rfl,Or.inl ⟨rfl,Z⟩⟩
theorem Chg.trans {F F1:List Nat}{w w1 w2:World}{I I1 I2:Imm}(h:Chg F w I w1 I1)(k:Chg F1 w1 I1 w2 I2)(hF:∀d∈F1,d∈F∨w.heap.size≤d):Chg F w I w2 I2 :=
 ⟨k.os.trans h.os, k.tape.trans h.tape, k.output.trans h.output, Nat.le_trans h.size k.size,
  fun d hd hn=>(k.block d (Nat.lt_of_lt_of_le hd h.size) fun hm=>(hF d hm).elim hn fun e=>by omega).trans (h.block d hd hn),k.imm,
  fun d hd hn=>(k.keep d (Nat.lt_of_lt_of_le hd h.size) fun hm=>(hF d hm).elim hn fun e=>by omega).trans (h.keep d hd hn)⟩
theorem Chg.ext {F:List Nat}{w w1 w2:World}{I I1 I2:Imm}(h:Chg F w I w1 I1)(k:Ext w1 I1 w2 I2):Chg F w I w2 I2:=h.trans (Chg.ofExt k) fun d hd=>by simp at hd
theorem Chg.wide {F F':List Nat}{w w1:World}{I I1:Imm}(h:Chg F w I w1 I1)(hF:∀d∈F,d∈F'):Chg F' w I w1 I1:=⟨h.os,h.tape,h.output,h.size,fun d hd hn=>h.block d hd fun hm=>hn (hF d hm),h.imm,fun d hd hn=>h.keep d hd fun hm=>hn (hF d hm)⟩
structure H2 (I : Imm) (b r : Nat) (l : List (Int × Nat)) (T : Int → Ad) (last : Int) (F : List Nat) : Prop where
 box:I b=some (.cells (aftC r last).toArray 230 (0,0))
 map:I r=some (mapOB l)
 tab:∀k c,lookIB l k=some c→RAd I c (T k)∧c∈F
 non:∀k,lookIB l k=none→T k=adOne
 inj:∀k k' c,lookIB l k=some c→lookIB l k'=some c→k=k'
 foot:∀c∈F,(I c).isSome=true
 inb:b∈F
 inr:r∈F
theorem H2.br {I:Imm}{b r:Nat}{l:List (Int×Nat)}{T:Int→Ad}{last:Int}{F:List Nat}(h:H2 I b r l T last F):b≠r:=fun e=>by
 have h1:=h.box;rw[e,h.map]at h1;unfold mapOB at h1;cases h1
theorem H2.cb {I:Imm}{b r:Nat}{l:List (Int×Nat)}{T:Int→Ad}{last:Int}{F:List Nat}(h:H2 I b r l T last F){k:Int}{c:Nat}(hc:lookIB l k=some c):c≠b:=fun e=>by
 have h1:=(h.tab k c hc).1.hold;rw[e,h.box]at h1;injection h1 with h1
 injection h1 with _ h1
 revert h1
 decide
theorem H2.cr {I:Imm}{b r:Nat}{l:List (Int×Nat)}{T:Int→Ad}{last:Int}{F:List Nat}(h:H2 I b r l T last F){k:Int}{c:Nat}(hc:lookIB l k=some c):c≠r:=fun e=>by
 have h1:=(h.tab k c hc).1.hold;rw[e,h.map]at h1;unfold mapOB at h1;cases h1
theorem H2.setTab {I : Imm} {b r : Nat} {l : List (Int × Nat)} {T : Int → Ad} {last : Int} {F : List Nat} (h : H2 I b r l T last F) {q : Int} {c : Nat} (hc : lookIB l q = some c) (A : Ad) :
 H2 (fun d=>if d=c then some (.cells (adC A).toArray 226 (0,0)) else I d) b r l (fun k=>if k=q then A else T k) last F where
 box:=by rw[xP (h.cb hc).symm]; exact h.box
 map:=by rw[xP (h.cr hc).symm]; exact h.map
 tab:=fun k d hd=>by
  refine⟨⟨?_⟩,(h.tab k d hd).2⟩;by_cases e:k=q
  · subst e
    obtain rfl:d=c:=Option.some.inj (hd.symm.trans hc);rw[xS rfl,xS rfl]
  · rw [xP e, xP (fun (e2 : d = c) => e (h.inj k q c (by rw [← e2]; exact hd) hc))]
    exact(h.tab k d hd).1.hold
 non:=fun k hk=>by rw[xP fun e=>by rw[e,hc]at hk; cases hk]; exact h.non k hk
 inj:=h.inj
 foot:=fun d hd=>by
  by_cases e:d=c
  · rw[xS e]; rfl
  · rw[xP e]; exact h.foot d hd
 inb:=h.inb
 inr:=h.inr
theorem H2.setLast {I : Imm} {b r : Nat} {l : List (Int × Nat)} {T : Int → Ad} {last : Int} {F : List Nat} (h : H2 I b r l T last F) (x : Int) :
 H2 (fun d=>if d=b then some (.cells (aftC r x).toArray 230 (0,0)) else I d) b r l T x F where
 box:=xS rfl
 map:=by rw[xP h.br.symm]; exact h.map
 tab:=fun k d hd=>⟨⟨by rw[xP (h.cb hd)]; exact(h.tab k d hd).1.hold⟩,(h.tab k d hd).2⟩
 non:=h.non
 inj:=h.inj
 foot:=fun d hd=>by
  by_cases e:d=b
  · rw[xS e]; rfl
  · rw[xP e]; exact h.foot d hd
 inb:=h.inb
 inr:=h.inr
theorem now2_c {b r : Nat} {l : List (Int × Nat)} {T : Int → Ad} {last : Int} {F : List Nat} (w0 : World) (I0 : Imm) (hI : Sat I0 w0) (h : H2 I0 b r l T last F) :
 Ctr prog 197 [.zg b] w0 (fun v w'=>∃c I' F' l',v = .zg c∧Chg F w0 I0 w' I'∧H2 I' b r l' T last F'∧lookIB l' last=some c∧∀d∈F',d∈F∨w0.heap.size≤d):=by
 refine(now_c b r l last w0 _ (xh hI r) (by rw[xP h.br]; exact h.box) (hI r _ h.map) (xS rfl)).mono ?_;rintro v w' ⟨c,rfl,⟨hs,Z⟩ | ⟨hn,Z⟩⟩
 · refine ⟨c, I0, F, l, rfl, ⟨Z.os, Z.tape, Z.output, Z.size, fun k hk hm => Z.block k hk fun e => hm (by rw [uG] at e; subst e; exact h.inr), fun d o hd => ?_, fun _ _ _ => rfl⟩, h, hs, fun d hd => .inl hd⟩
   by_cases e:d=r
   · subst e
     rw[h.map]at hd;obtain rfl:=Option.some.inj hd;exact Z.hold _ (uG.2 rfl)
   · exact Z.imm d o (by rw[xP e]; exact hd)
 · have hcr:c≠r:=fun e=>by
    have:=Z.nodup;subst e;simp[Res.foot]at this
   have hcn:=Z.new (.cel c 226 (adC adOne)) (List.mem_cons_self ..) c (by simp[Res.foot]);have hcs:w0.heap.size≤c:=hcn.2.elim id fun e=>absurd (uG.1 e) hcr
   have hlt:∀d,(I0 d).isSome=true→d < w0.heap.size:=fun d hd=>by
    obtain⟨o,ho⟩:=Option.isSome_iff_exists.1 hd;exact yO hI ho
   have hbl:=hlt b (h.foot b h.inb);have hrl:=hlt r (h.foot r h.inr);have hdc:∀k d,lookIB l k=some d→d < w0.heap.size:=fun k d hd=>hlt d (h.foot d (h.tab k d hd).2)
   refine ⟨c, fun d => if d = r then some (mapOB (l ++ [(last, c)])) else if d = c then some (.cells (adC adOne).toArray 226 (0, 0)) else I0 d, c :: F, l ++ [(last, c)], rfl,
    ⟨Z.os,Z.tape,Z.output,Z.size,fun k hk hm=>Z.block k hk fun e=>hm (by rw[uG]at e; subst e; exact h.inr),fun d o hd=>?_,fun d hd hn=>?_⟩,⟨?_,xS rfl,fun k d hd=>?_,fun k hk=>?_,fun k k' d hd hd'=>?_,fun d hd=>?_,List.mem_cons_of_mem _ h.inb,List.mem_cons_of_mem _ h.inr⟩,?_,fun d hd=>?_⟩
   · by_cases e : d = r
     · subst e
       rw[xS rfl]at hd;obtain rfl:=Option.some.inj hd;exact Z.hold _ (List.mem_cons_of_mem _ (uG.2 rfl))
     · rw [xP e] at hd
       by_cases e2:d=c
       · subst e2
         rw[xS rfl]at hd;obtain rfl:=Option.some.inj hd;exact Z.hold _ (List.mem_cons_self ..)
       · rw [xP e2] at hd
         exact Z.imm d o (by rw[xP e]; exact hd)
   · rw[xP (fun(e:d=r)=>hn (by rw[e]; exact h.inr)),xP (by omega)]
   · rw[xP h.br,xP (by omega)]; exact h.box
   · rw [kA] at hd
     cases hk:lookIB l k with
     | some e =>
       rw[hk]at hd;obtain rfl:=Option.some.inj hd;refine⟨⟨?_⟩,List.mem_cons_of_mem _ (h.tab k e hk).2⟩;rw[xP (h.cr hk),xP (by have:=hdc k e hk; omega)];exact(h.tab k e hk).1.hold
     | none =>
       rw[hk]at hd;dsimp only at hd;split at hd
       · obtain rfl := Option.some.inj hd
         refine⟨⟨?_⟩,List.mem_cons_self ..⟩;rw[xP hcr,xS rfl,h.non k hk]
       · cases hd
   · rw [kA] at hk
     cases hk2:lookIB l k with
     | some e=>rw[hk2]at hk; cases hk
     | none=>exact h.non k hk2
   · rw [kA] at hd hd'
     cases hk:lookIB l k with
     | some e =>
       rw[hk]at hd;obtain rfl:=Option.some.inj hd;cases hk':lookIB l k' with
       | some e' =>
         rw[hk']at hd';obtain rfl:=Option.some.inj hd';exact h.inj k k' _ hk hk'
       | none =>
         rw[hk']at hd';dsimp only at hd';split at hd'
         · obtain rfl := Option.some.inj hd'
           have:=hdc k _ hk;omega
         · cases hd'
     | none =>
       rw[hk]at hd;dsimp only at hd;split at hd
       case isFalse=>cases hd
       obtain rfl:=Option.some.inj hd;cases hk':lookIB l k' with
       | some e' =>
         rw[hk']at hd';obtain rfl:=Option.some.inj hd';have:=hdc k' _ hk';omega
       | none =>
         rw[hk']at hd';dsimp only at hd';split at hd'
         · rename_i e1 e2; exact e1.trans e2.symm
         · cases hd'
   · by_cases e : d = r
     · rw[xS e]; rfl
     · rw [xP e]
       by_cases e2:d=c
       · rw[xS e2]; rfl
       · rw[xP e2]; exact h.foot d ((xV.1 hd).resolve_left e2)
   · rw[kA,hn]; exact xS rfl
   · rcases xV.1 hd with e | e
     · exact .inr (e▸hcs)
     · exact .inl e
set_option maxHeartbeats 1000000 in
theorem counts2_c {b r : Nat} {l : List (Int × Nat)} {T : Int → Ad} {last : Int} {F : List Nat} (hA : AdOk (T last)) (w0 : World) (I0 : Imm) (hI : Sat I0 w0) (h : H2 I0 b r l T last F) :
 Ctr prog 195 [.zg b] w0 (fun v w'=>∃c I' F' l',v = .tuple #[.zg c,.int .u64 (T last).t]∧Chg F w0 I0 w' I'∧H2 I' b r l' T last F'∧RAd I' c (T last)∧∀d∈F',d∈F∨w0.heap.size≤d):=by
 refine fn (n:=9) func195 rfl rfl rfl ?_;have Z:=St.start hI;refine QwR (qq Z (qd _) (qq Z (qv (v:=.int .u64 _) rfl) (QoR (qq Z (qb _) (qe (qi call197 rfl (now2_c _ _ Z.imm h)) ?_)))));rintro _ w_1⟨c,I1,F1,l1,rfl,hC,hH,hc,hF⟩;replace Z:=St.start hC.imm;refine qe (qi call193 rfl (adcounts_c c (T last) hA _ _ Z.imm (hH.tab _ _ hc).1)) ?_;rintro _ w_2⟨rfl,hE⟩;replace Z:=Z.callE hE;refine qq Z (qk rfl rfl) (qq Z (qk (v:=.int .u64 _) rfl rfl) (qq Z (qd _) (qq Z (qv (v:=.int .u64 _) rfl) (QoN (xO (ret2 results195 (qg rfl) (qg (v:=.int .u64 _) rfl) ?_))))));exact⟨c,I1,F1,l1,rfl,hC.ext Z.nil,hH,(hH.tab _ _ hc).1,hF⟩
set_option maxHeartbeats 1000000 in
theorem saw2_c {b r : Nat} {l : List (Int × Nat)} {T : Int → Ad} {last : Int} {F : List Nat} (x : Nat) (hx : x < 256) (hA : AdOk (T last)) (w0 : World) (I0 : Imm) (hI : Sat I0 w0) (h : H2 I0 b r l T last F) :
 Ctr prog 196 [.zg b,.bg x] w0 (fun v w'=>∃I' F' l',v = .tuple #[]∧Chg F w0 I0 w' I'∧H2 I' b r l' (fun k=>if k=last then sawA (T last) x else T k) x F'∧∀d∈F',d∈F∨w0.heap.size≤d):=by
 refine fn (n:=12) func196 rfl rfl rfl ?_;have Z:=St.start hI;refine QwR (qq Z (qb _) (qe (qi call197 rfl (now2_c _ _ Z.imm h)) ?_));rintro _ w_1⟨c,I1,F1,l1,rfl,hC,hH,hc,hF⟩;replace Z:=St.start hC.imm;refine qq Z (qx (v:=.bg _) rfl) (qe (qi call194 rfl (saw_c c (T last) x hx hA _ _ (xh Z.imm c) (Z.imm c _ (hH.tab _ _ hc).1.hold) (xS rfl))) ?_);rintro _ w_2⟨rfl,hE⟩;have hC2:=Chg.ofOwn hC.imm (yO hC.imm (hH.tab _ _ hc).1.hold) hE;have hH2:=hH.setTab hc (sawA (T last) x);have hC3:=hC.trans hC2 (fun d hd=>hF d (by rw[uG]at hd; subst hd; exact(hH.tab _ _ hc).2));replace Z:=St.startX (xh hC2.imm b) (hC2.imm b _ hH2.box) (xS rfl);refine QoN (reg (qq Z (qb _) (qq Z (qx (v:=.bg _) rfl) (qq Z (qm rfl) (qq Z (qa (o':=1) Jz rfl un rfl rfl rfl) (qe (qf 0 Z un rfl rfl rfl (vs:=[.bg _]) rfl rfl rfl (xH rfl) (cs':=[_,_]) rfl) ?_))))));clear Z;rintro _ w_3⟨rfl,Z⟩;refine qy (end0 results196  ?_);have hC4:=Chg.ofOwn hC2.imm (yO hC2.imm hH2.box) Z;exact⟨_,F1,l1,rfl,hC3.trans hC4 (fun d hd=>hF d (by rw[uG]at hd; subst hd; exact hH2.inb)),hH2.setLast x,hF⟩
theorem m_af_counts (v : Value) (w : World) : (method (prog.types.size + Made.depth) 227 v "inlay/coder.counts").run prog w = .ok (195, v) w := by kernel_rfl
theorem m_af_saw (v : Value) (w : World) : (method (prog.types.size + Made.depth) 227 v "inlay/coder.saw").run prog w = .ok (196, v) w := by kernel_rfl
def mdl2:Mdl:=⟨(Int→Ad)×Int,fun s=>s.1 s.2,fun s x=>(fun k=>if k=s.2 then sawA (s.1 s.2) x else s.1 k,x),fun s=>∀k,AdOk (s.1 k),fun I v s F=>∃b r l,v = .iface 227 (.zg b)∧H2 I b r l s.1 s.2 F⟩
theorem mdl2_ok : MdlOk mdl2 where
 tab:=fun s h=>h s.2
 nxt:=fun s x h hx k=>by
  show AdOk (if k=s.2 then sawA (s.1 s.2) x else s.1 k)
  split
  · exact sawA_ok (h s.2) hx
  · exact h k
 foot:=fun I v s F ⟨b,r,l,_,h⟩ c hc=>h.foot c hc
 iface:=fun I v s F ⟨b,r,l,h1,_⟩=>⟨_,_,h1⟩
 counts:=fun I v s F hI ⟨b,r,l,h1,h2⟩ hi hr=>by
  refine(jc (hr.trans h1) (m_af_counts _) call195 ml0 (counts2_c (hi s.2) _ I hI h2)).mono ?_;rintro u w' ⟨c,I',F',l',rfl,hC,hH,hR,hF⟩;exact⟨I',F',c,rfl,hC,⟨b,r,l',h1,hH⟩,hR,hF⟩
 saw:=fun I v s F x hx hI ⟨b,r,l,h1,h2⟩ hi hr hy=>by
  refine(jc (hr.trans h1) (m_af_saw _) call196 (ml hy ml0) (saw2_c x hx (hi s.2) _ I hI h2)).mono ?_;rintro u w' ⟨I',F',l',rfl,hC,hH,hF⟩;exact⟨I',F',rfl,hC,⟨b,r,l',h1,hH⟩,hF⟩
set_option maxRecDepth 20000 in
set_option maxHeartbeats 1000000 in
theorem begin1_c (w0 : World) (I0 : Imm) (hI : Sat I0 w0) :
 Ctr prog 94 [.ig 1] w0 (fun v w'=>∃I' F,Ext w0 I0 w' I'∧(mdl1).holds I' v (adOne) F∧∀c∈F,w0.heap.size≤c):=by
 refine fn (n:=22) func94 rfl rfl rfl ?_;have Z:=St.start hI;refine QwR (qq Z (qd _) (QoN (xJ (QwR (qq Z (Qmi rfl) (QoN (xU (QwR (qq Z (xr rfl rfl (by omega)) (qq Z (Qab rfl) (QoN (qV (rfl) (QwR (qq Z (g_eqT13 rfl rfl rfl) (qq Z (Qab rfl) (QoN (jR (rfl) (QwR (qe (qi call125 rfl (ones_c _ _ Z.imm)) ?_)))))))))))))))))));rintro _ w_1⟨rfl,hE⟩;replace Z:=Z.callE hE;refine qq Z (qs (pl:=[(0,256),(256,1)]) (cs:=adC adOne) zeroValue226 QG (fun w=>by simp[Ji,Je]) (mp (v:=.agg (u32s adOne.c).toArray) rfl (mp (v:=.int .u64 256) rfl mp0)) (by kernel_rfl)) (qe (d_box (cs:=adC adOne) Z rfl) ?_);clear Z;rintro _ w_2⟨bt,rfl,Z⟩;refine qq Z (jO underlying224 rfl) (qq Z (qd _) (QoN (xO (Qq (ul (ret1 results94 (qg rfl) ?_))))));obtain⟨I1,hS1,_,hb⟩:=St.freezeB Z;exact⟨I1,[bt],hS1,⟨bt,rfl,⟨hb⟩,rfl⟩,fun c hc=>by rw[uG]at hc; subst hc; exact(Z.new _ (List.mem_cons_self ..) c (by simp[Res.foot])).2.elim id fun h=>by simp at h⟩
set_option maxRecDepth 20000 in
set_option maxHeartbeats 1000000 in
theorem begin2_c (w0 : World) (I0 : Imm) (hI : Sat I0 w0) :
 Ctr prog 94 [.ig 2] w0 (fun v w'=>∃I' F,Ext w0 I0 w' I'∧(mdl2).holds I' v ((fun _=>adOne,0)) F∧∀c∈F,w0.heap.size≤c):=by
 refine fn (n:=22) func94 rfl rfl rfl ?_;have Z:=St.start hI;refine QwR (qq Z (qd _) (QoN (xJ (QwR (qq Z (Qmi rfl) (QoN (xU (QwR (qq Z (xr rfl rfl (by omega)) (qq Z (Qab rfl) (QoN (qV (rfl) (QwR (qq Z (xr rfl rfl (by omega)) (qq Z (Qab rfl) (QoN (qV (rfl) (QwR (qq Z (g_eqT13 rfl rfl rfl) (qq Z (Qab rfl) (QoN (jR (rfl) (QwR (qe (d_makeMapB Z) ?_))))))))))))))))))))))));clear Z;rintro _ w_1⟨bm,rfl,Z⟩;refine qq Z (qs (pl:=[(0,1),(1,1)]) (cs:=[_,.bg _]) zeroValue230 Jz (fun w=>by simp[sizeOf228,un]) (mp rfl mp0) rfl) (qe (d_box (cs:=aftC bm 0) Z rfl) ?_);clear Z;rintro _ w_2⟨bt,rfl,Z⟩;refine qq Z (jO underlying227 rfl) (qq Z (qd _) (QoN (xO (Qq (ul (ret1 results94 (qg rfl) ?_))))));have hnb:=(Z.new (.cel bt 230 (aftC bm 0)) (List.mem_cons_self ..) bt (by simp[Res.foot])).2.elim id fun h=>by simp at h
 have hnm:=(Z.new (.obj bm (mapOB [])) (List.mem_cons_of_mem _ (List.mem_cons_self ..)) bm (by simp[Res.foot])).2.elim id fun h=>by simp at h
 obtain⟨I1,hS1,_,hb⟩:=St.freezeB Z;obtain⟨I2,hS2,hs2,hm⟩:=hS1.freezeO;have hft:∀c∈[bt,bm],(I2 c).isSome=true:=fun c hc=>by
  rcases xV.1 hc with e | e
  · rw[e,hs2 _ _ hb]; rfl
  · rw[uG.1 e,hm]; rfl
 have hnw:∀c∈[bt,bm],w0.heap.size≤c:=fun c hc=>by
  rcases xV.1 hc with e | e
  · rw[e]; exact hnb
  · rw[uG.1 e]; exact hnm
 exact⟨I2,[bt,bm],hS2,⟨bt,bm,[],rfl,⟨hs2 _ _ hb,hm,fun k c hc=>(by cases hc),fun k _=>rfl,fun k k' c hc=>(by cases hc),hft,List.mem_cons_self ..,List.mem_cons_of_mem _ (List.mem_cons_self ..)⟩⟩,hnw⟩
end Go.Proofs.YtgkgihnpjgbmhaaGreatDoor
