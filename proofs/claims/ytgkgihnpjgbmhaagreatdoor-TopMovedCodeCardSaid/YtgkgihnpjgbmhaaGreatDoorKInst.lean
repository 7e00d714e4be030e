/- Package inst: bytes of words, numbers, kinds, decoding and encoding of instructions. Conditions: words are words. inst.Decode: what it computes. Conditions: words are words. inst.Encode: what it computes. Conditions: numbers within bounds. -/
import Derived.Test.YtgkgihnpjgbmhaaGreatDoorKSpec
import Derived.Test.YtgkgihnpjgbmhaaGreatDoorFacts
import Derived.Test.YtgkgihnpjgbmhaaGreatDoorKRef6
set_option linter.unusedSimpArgs false
set_option linter.unusedVariables false
namespace Go.Proofs.YtgkgihnpjgbmhaaGreatDoor
open Tryz
open Go Go.RowKit Go.Inl
def kindL:List Value:=[.string ⟨#[100,97,116,97]⟩,.ig 0,.ig 0,.bool false,.bool false,.string ⟨#[97,100,100]⟩,.ig 3,.ig 0,.bool false,.bool false,.string ⟨#[115,101,116]⟩,.ig 1,.ig 16,.bool false,.bool false,.string ⟨#[108,111,97,100]⟩,.ig 3,.ig 0,.bool false,.bool false,.string ⟨#[115,116,111,114,101]⟩,.ig 3,.ig 0,.bool false,.bool false,.string ⟨#[106,117,109,112]⟩,.ig 0,.ig 24,.bool true,.bool true,.string ⟨#[99,97,108,108]⟩,.ig 0,.ig 24,.bool true,.bool true,.string ⟨#[98,114,97,110,99,104]⟩,.ig 1,.ig 16,.bool true,.bool true,.string ⟨#[112,111,111,108]⟩,.ig 1,.ig 16,.bool false,.bool true]
theorem kindL_at {op:Int}(h0:0≤op)(h1:op≤8):∃pre post s,kindL=pre++([.string s,.ig (regsP op),.ig (bitsP op),.bool (signP op),.bool (targP op)]++post)∧op.toNat*5=pre.length:=by
 have e:op=0∨op=1∨op=2∨op=3∨op=4∨op=5∨op=6∨op=7∨op=8:=by omega
 rcases e with e | e | e | e | e | e | e | e | e <;> subst e
 · exact⟨kindL.take 0,kindL.drop 5,_,rfl,rfl⟩
 · exact⟨kindL.take 5,kindL.drop 10,_,rfl,rfl⟩
 · exact⟨kindL.take 10,kindL.drop 15,_,rfl,rfl⟩
 · exact⟨kindL.take 15,kindL.drop 20,_,rfl,rfl⟩
 · exact⟨kindL.take 20,kindL.drop 25,_,rfl,rfl⟩
 · exact⟨kindL.take 25,kindL.drop 30,_,rfl,rfl⟩
 · exact⟨kindL.take 30,kindL.drop 35,_,rfl,rfl⟩
 · exact⟨kindL.take 35,kindL.drop 40,_,rfl,rfl⟩
 · exact⟨kindL.take 40,kindL.drop 45,_,rfl,rfl⟩
theorem neqInst {n:Nat}{σ:Nat→Value}{S:World→Prop}{ty t':TypeId}{x y:Operand}(a b:InstL)(hx:ev n σ x=instV a)(hy:ev n σ y=instV b):Gives prog (ev n σ) S (.binOp .neq 92 x y t') ty (.bool (!instEq a b)):=fun w _=>by
 have hg:(eqGuard .neq 92 x y (instV a) (instV b)).run prog w = .ok () w:=by simp[eqGuard,instV,go_sem,eqGuardType92]
 have hb:(binOp .neq 92 (instV a) (instV b)).run prog w = .ok (.bool (!instEq a b)) w:=by
  simp[instV,go_sem,instEq]
  by_cases h1:a.op=b.op <;> by_cases h2:a.a=b.a <;> by_cases h3:a.b=b.b <;> by_cases h4:a.c=b.c <;> by_cases h5:a.n=b.n <;> simp[h1,h2,h3,h4,h5]
 simp only[execOp,hx,hy,Sem.run_bind,hg,Result.andThen_ok,hb]; rfl
theorem vn (w : Int) (i : Nat) (w0 : World) (I0 : Imm) (hI : Sat I0 w0) (h0 : 0 ≤ w) (h1 : w < 4294967296) (hi : i ≤ 3) :
 Ctr prog 118 [.wg w,.ig i] w0 (fun v w'=>v = .ig (octP w i)∧Ext w0 I0 w' I0):=by
 have hob:=oct_b w i;refine fn (n:=12) func118 rfl rfl rfl ?_;have Z:=St.start hI;refine QwR (qq Z (Qai rfl) (QoR (qq Z (Qmw rfl) (qq Z (Qmi rfl) (qq Z (g_mul rfl rfl (by omega) (by omega)) (qq Z (g_sub rfl rfl (by omega) (by omega)) (qq Z (jM (s:=24 - 8*i) (c:=w / 2 ^ (24 - 8*i)) rfl rfl (by omega) (Nat.ble_eq_true_of_le (Nat.le_trans (show 24 - 8*i≤32 by omega) (uc 32))) rfl) ?_)))))));refine qq Z (jh (m:=8) (c:=octP w i) rfl rfl rfl rfl (by rw[IntKind.wrap_u32]; show octP w i % 4294967296=_; omega)) ?_;refine qq Z (qK JY ut rfl (by omega) (by omega)) (qq Z (Qai rfl) (QoN (xO (ret1 results118 (qg (v:=.ig _) rfl) ?_))));exact⟨rfl,Z.nil⟩
theorem low24_c (w : Int) (w0 : World) (I0 : Imm) (hI : Sat I0 w0) (h0 : 0 ≤ w) (h1 : w < 4294967296) :
 Ctr prog 133 [.wg w,.ig 24,.bool true] w0 (fun v w'=>v = .ig (lowP w 16777216 true)∧Ext w0 I0 w' I0):=by
 refine fn (n:=27) func133 rfl rfl rfl ?_;have Z:=St.start hI;refine QwR (qq Z (Qai rfl) (QoR (qq Z (Qmw rfl) (qq Z (qK JY ut rfl (by omega) (by omega)) (qq Z (Qmi rfl) ?_)))));refine qq Z (qT (s:=24) (c:=16777216) rfl rfl rfl rfl (by rw[IntKind.wrap_i64]; rfl)) ?_;refine qq Z (g_sub rfl rfl (by omega) (by omega)) ?_;refine qq Z (jh (m:=24) (c:=w % 16777216) rfl rfl rfl rfl (by rw[IntKind.wrap_i64]; omega)) ?_;refine qq Z (Qai rfl) (QoN (xJ (QwR (qq Z (Qmb rfl) (qq Z (Qmb rfl) (qqs rfl rfl Z (Qmi rfl) (qqs rfl rfl Z (Qmi rfl) (qqs rfl rfl Z (g_sub rfl rfl (by omega) (by omega)) (qqs rfl rfl Z (jM (s:=23) (c:=w % 16777216 / 8388608) rfl rfl rfl rfl rfl) (qqs rfl rfl Z (g_eql rfl rfl) (qq Z (g_and rfl rfl (fun _=>rfl)) ?_)))))))))));refine QoN (qh rfl ?_ ?_)
 ·
  intro hc21
  try simp only[zA,zO,zN,zI,zF,zM,zT,zU]at hc21
  have e:lowP w 16777216 true=w % 16777216 - 16777216:=by unfold lowP; rw[xS (by simp; omega)]
  refine reg (qq Z (Qmi rfl) (qq Z (Qmi rfl) ?_));refine qq Z (qT (s:=24) (c:=16777216) rfl rfl rfl rfl (by rw[IntKind.wrap_i64]; rfl)) ?_;refine qq Z (g_sub rfl rfl (by omega) (by omega)) (qq Z (Qai rfl) (QoR (qq Z (Qmi rfl) (qq Z (Qai rfl) (QoN (xO (ret1 Kc (qg (v:=.ig _) rfl) ?_)))))));exact⟨by rw[e],Z.nil⟩
 ·
  intro hc21
  try simp only[zA,zO,zN,zI,zF,zM,zT,zU]at hc21
  have e:lowP w 16777216 true=w % 16777216:=by simp only[forall_const]at hc21; unfold lowP; rw[xP (by simp; omega)]
  refine xM (xL (QwR (qq Z (Qmi rfl) (qq Z (Qai rfl) (QoN (xO (ret1 Kc (qg (v:=.ig _) rfl) ?_)))))));exact⟨by rw[e],Z.nil⟩
theorem low16s_c (w : Int) (w0 : World) (I0 : Imm) (hI : Sat I0 w0) (h0 : 0 ≤ w) (h1 : w < 4294967296) :
 Ctr prog 133 [.wg w,.ig 16,.bool true] w0 (fun v w'=>v = .ig (lowP w 65536 true)∧Ext w0 I0 w' I0):=by
 refine fn (n:=27) func133 rfl rfl rfl ?_;have Z:=St.start hI;refine QwR (qq Z (Qai rfl) (QoR (qq Z (Qmw rfl) (qq Z (qK JY ut rfl (by omega) (by omega)) (qq Z (Qmi rfl) ?_)))));refine qq Z (qT (s:=16) (c:=65536) rfl rfl rfl rfl (by rw[IntKind.wrap_i64]; rfl)) ?_;refine qq Z (g_sub rfl rfl (by omega) (by omega)) ?_;refine qq Z (jh (m:=16) (c:=w % 65536) rfl rfl rfl rfl (by rw[IntKind.wrap_i64]; omega)) ?_;refine qq Z (Qai rfl) (QoN (xJ (QwR (qq Z (Qmb rfl) (qq Z (Qmb rfl) (qqs rfl rfl Z (Qmi rfl) (qqs rfl rfl Z (Qmi rfl) (qqs rfl rfl Z (g_sub rfl rfl (by omega) (by omega)) (qqs rfl rfl Z (jM (s:=15) (c:=w % 65536 / 32768) rfl rfl rfl rfl rfl) (qqs rfl rfl Z (g_eql rfl rfl) (qq Z (g_and rfl rfl (fun _=>rfl)) ?_)))))))))));refine QoN (qh rfl ?_ ?_)
 ·
  intro hc21
  try simp only[zA,zO,zN,zI,zF,zM,zT,zU]at hc21
  have e:lowP w 65536 true=w % 65536 - 65536:=by unfold lowP; rw[xS (by simp; omega)]
  refine reg (qq Z (Qmi rfl) (qq Z (Qmi rfl) ?_));refine qq Z (qT (s:=16) (c:=65536) rfl rfl rfl rfl (by rw[IntKind.wrap_i64]; rfl)) ?_;refine qq Z (g_sub rfl rfl (by omega) (by omega)) (qq Z (Qai rfl) (QoR (qq Z (Qmi rfl) (qq Z (Qai rfl) (QoN (xO (ret1 Kc (qg (v:=.ig _) rfl) ?_)))))));exact⟨by rw[e],Z.nil⟩
 ·
  intro hc21
  try simp only[zA,zO,zN,zI,zF,zM,zT,zU]at hc21
  have e:lowP w 65536 true=w % 65536:=by simp only[forall_const]at hc21; unfold lowP; rw[xP (by simp; omega)]
  refine xM (xL (QwR (qq Z (Qmi rfl) (qq Z (Qai rfl) (QoN (xO (ret1 Kc (qg (v:=.ig _) rfl) ?_)))))));exact⟨by rw[e],Z.nil⟩
theorem low16_c (w : Int) (w0 : World) (I0 : Imm) (hI : Sat I0 w0) (h0 : 0 ≤ w) (h1 : w < 4294967296) :
 Ctr prog 133 [.wg w,.ig 16,.bool false] w0 (fun v w'=>v = .ig (lowP w 65536 false)∧Ext w0 I0 w' I0):=by
 refine fn (n:=27) func133 rfl rfl rfl ?_;have Z:=St.start hI;refine QwR (qq Z (Qai rfl) (QoR (qq Z (Qmw rfl) (qq Z (qK JY ut rfl (by omega) (by omega)) (qq Z (Qmi rfl) ?_)))));refine qq Z (qT (s:=16) (c:=65536) rfl rfl rfl rfl (by rw[IntKind.wrap_i64]; rfl)) ?_;refine qq Z (g_sub rfl rfl (by omega) (by omega)) ?_;refine qq Z (jh (m:=16) (c:=w % 65536) rfl rfl rfl rfl (by rw[IntKind.wrap_i64]; omega)) ?_;refine qq Z (Qai rfl) (QoN (xJ (QwR (qq Z (Qmb rfl) (qq Z (Qmb rfl) (qsf rfl rfl rfl (qsf rfl rfl rfl (qsf rfl rfl rfl (qsf rfl rfl rfl (qsf rfl rfl rfl (qq Z (g_and (b:=false) rfl rfl (fun h=>(by cases h))) (QoN (qV (rfl) (xM (xL (QwR (qq Z (Qmi rfl) (qq Z (Qai rfl) (QoN (xO (ret1 Kc (qg (v:=.ig _) rfl) ?_)))))))))))))))))))));exact⟨rfl,Z.nil⟩
theorem low_c (w op : Int) (w0 : World) (I0 : Imm) (hI : Sat I0 w0) (h0 : 0 ≤ w) (h1 : w < 4294967296) (hb : 0 < bitsP op) :
 Ctr prog 133 [.wg w,.ig (bitsP op),.bool (signP op)] w0 (fun v w'=>v = .ig (lowI w op)∧Ext w0 I0 w' I0):=by
 have e:op=5∨op=6∨op=7∨op=2∨op=8:=by
  unfold bitsP at hb;split at hb
  · omega
  · split at hb
    · omega
    · omega
 rcases e with e | e | e | e | e <;> subst e
 · exact low24_c w w0 I0 hI h0 h1
 · exact low24_c w w0 I0 hI h0 h1
 · exact low16s_c w w0 I0 hI h0 h1
 · exact low16_c w w0 I0 hI h0 h1
 · exact low16_c w w0 I0 hI h0 h1
set_option maxHeartbeats 2000000 in
theorem kinds_c (w0 : World) (I0 : Imm) (hI : Sat I0 w0) :
 Ctr prog 119 [] w0 (fun v w'=>v = .agg kindL.toArray∧Ext w0 I0 w' I0):=by
 refine fn (n:=11) func119 rfl rfl rfl ?_;have Z:=St.start hI;refine QwR (qe (qr  Z zeroValue210 rfl) ?_);clear Z;rintro _ w_1⟨b0,rfl,Z⟩;refine QoR (qq Z (qs (pl:=[(0,1),(1,1),(2,1),(3,1),(4,1)]) (cs:=[.string _,.ig _,.ig _,.bool _,.bool _]) QR Qg (fun w=>by simp[xK,uy,JF]) (mp rfl mp0) rfl) (qq Z (qs (pl:=[(0,1),(1,1),(2,1),(3,1),(4,1)]) (cs:=[.string _,.ig _,.ig _,.bool _,.bool _]) QR Qg (fun w=>by simp[xK,uy,JF]) (mp rfl (mp (v:=.ig _) rfl mp0)) rfl) ?_));refine qq Z (qs (pl:=[(0,1),(1,1),(2,1),(3,1),(4,1)]) (cs:=[.string _,.ig _,.ig _,.bool _,.bool _]) QR Qg (fun w=>by simp[xK,uy,JF]) (mp rfl (mp (v:=.ig _) rfl (mp (v:=.ig _) rfl mp0))) rfl) (qq Z (qs (pl:=[(0,1),(1,1),(2,1),(3,1),(4,1)]) (cs:=[.string _,.ig _,.ig _,.bool _,.bool _]) QR Qg (fun w=>by simp[xK,uy,JF]) (mp rfl (mp (v:=.ig _) rfl mp0)) rfl) ?_);refine qq Z (qs (pl:=[(0,1),(1,1),(2,1),(3,1),(4,1)]) (cs:=[.string _,.ig _,.ig _,.bool _,.bool _]) QR Qg (fun w=>by simp[xK,uy,JF]) (mp rfl (mp (v:=.ig _) rfl mp0)) rfl) (qq Z (qs (pl:=[(0,1),(1,1),(2,1),(3,1),(4,1)]) (cs:=[.string _,.ig _,.ig _,.bool _,.bool _]) QR Qg (fun w=>by simp[xK,uy,JF]) (mp rfl (mp (v:=.ig _) rfl (mp (v:=.bool _) rfl (mp (v:=.bool _) rfl mp0)))) rfl) ?_);refine qq Z (qs (pl:=[(0,1),(1,1),(2,1),(3,1),(4,1)]) (cs:=[.string _,.ig _,.ig _,.bool _,.bool _]) QR Qg (fun w=>by simp[xK,uy,JF]) (mp rfl (mp (v:=.ig _) rfl (mp (v:=.bool _) rfl (mp (v:=.bool _) rfl mp0)))) rfl) (qq Z (qs (pl:=[(0,1),(1,1),(2,1),(3,1),(4,1)]) (cs:=[.string _,.ig _,.ig _,.bool _,.bool _]) QR Qg (fun w=>by simp[xK,uy,JF]) (mp rfl (mp (v:=.ig _) rfl (mp (v:=.ig _) rfl (mp (v:=.bool _) rfl (mp (v:=.bool _) rfl mp0))))) rfl) ?_)
 refine qq Z (qs (pl:=[(0,1),(1,1),(2,1),(3,1),(4,1)]) (cs:=[.string _,.ig _,.ig _,.bool _,.bool _]) QR Qg (fun w=>by simp[xK,uy,JF]) (mp rfl (mp (v:=.ig _) rfl (mp (v:=.ig _) rfl (mp (v:=.bool _) rfl mp0)))) rfl) (qq Z (zQ (cs:=kindL) zeroValue210 JZ JJ rfl (by kernel_rfl)) ?_);refine qe (qf 0 Z sizeOf210 rfl rfl rfl (vs:=kindL) rfl rfl rfl (xH rfl) (cs':=kindL) rfl) ?_;clear Z;rintro _ w_2⟨rfl,Z⟩;refine QoN (xO (ret1 results119 (qw 0 Z sizeOf210 isAgg210 rfl rfl rfl) ?_));exact⟨rfl,Z.nil⟩
end Go.Proofs.YtgkgihnpjgbmhaaGreatDoor
namespace Go.Proofs.YtgkgihnpjgbmhaaGreatDoor
open Tryz
open Go Go.RowKit Go.Inl
def regV (w:Int)(j k:Nat):Int:=match Nat.blt j k with | true=>octP w (j+1) | false=>0
theorem regV_eq {w:Int}{j k:Nat}{r:Int}(h:(k:Int)=r):regV w j k=if (j:Int) < r then octP w (j+1) else 0:=by
 unfold regV;by_cases hj:j < k
 · rw[show Nat.blt j k=true from by rw[Nat.blt_eq]; exact hj,xS (by omega)]
 · rw[show Nat.blt j k=false by rw[Bool.eq_false_iff]; intro h'; rw[Nat.blt_eq]at h'; exact hj h',xP (by omega)]
theorem regs_b (op:Int):0≤regsP op∧regsP op≤3:=by unfold regsP; split <;> (try split) <;> omega
theorem bad_t {w op:Int}{k:Nat}(h1:(k:Int) < regsP op)(h2:15 < octP w (k+1)):badR w op=true:=by
 have hr:=regs_b op;have:k=0∨k=1∨k=2:=by omega
 unfold badR;rcases this with rfl | rfl | rfl
 · rw[uH (show(0:Int) < regsP op by omega),uH (show 15 < octP w 1 from h2)]; rfl
 · rw[uH (show(1:Int) < regsP op by omega),uH (show 15 < octP w 2 from h2)]; simp
 · rw[uH (show(2:Int) < regsP op by omega),uH (show 15 < octP w 3 from h2)]; simp
theorem bad_f {w op:Int}{k:Nat}(h1:(k:Int)=regsP op)(h2:∀j,j < k→octP w (j+1)≤15):badR w op=false:=by
 unfold badR;rw[QF,QF];refine⟨?_,?_,?_⟩
 · by_cases h : 0 < regsP op
   · have:octP w 1≤15:=h2 0 (by omega); rw[uw (show ¬15 < octP w 1 by omega),Bool.and_false]
   · rw[uw h,Bool.false_and]
 · by_cases h : 1 < regsP op
   · have:octP w 2≤15:=h2 1 (by omega); rw[uw (show ¬15 < octP w 2 by omega),Bool.and_false]
   · rw[uw h,Bool.false_and]
 · by_cases h : 2 < regsP op
   · have:octP w 3≤15:=h2 2 (by omega); rw[uw (show ¬15 < octP w 3 by omega),Bool.and_false]
   · rw[uw h,Bool.false_and]
theorem yp {w at_:Int}(h:¬(octP w 0=0∨8 < octP w 0))(hb:badR w (octP w 0)=true):decI w at_=dataI w:=by unfold decI; rw[xP h,xS hb]
theorem jt {w at_:Int}(h:octP w 0=0∨8 < octP w 0):decI w at_=dataI w:=by unfold decI; rw[xS h]
theorem yK {w at_:Int}{k:Nat}(h:¬(octP w 0=0∨8 < octP w 0))(h1:(k:Int)=regsP (octP w 0))(hb:badR w (octP w 0)=false):decI w at_=⟨octP w 0,regV w 0 k,regV w 1 k,regV w 2 k,if targP (octP w 0)=true then at_+4*lowI w (octP w 0) else lowI w (octP w 0)⟩:=by
 unfold decI; rw[xP h,xP (by rw[hb]; simp),regV_eq h1,regV_eq h1,regV_eq h1]; rfl
theorem lowI_0 {w op:Int}(h:¬0 < bitsP op):lowI w op=0:=by
 unfold lowI; rw[xP (by omega),xP (by omega)]
set_option maxHeartbeats 1000000 in
theorem vW (wd at_ : Int) (w0 : World) (I0 : Imm) (hI : Sat I0 w0) (hw0 : 0 ≤ wd) (hw1 : wd < 4294967296) (ha0 : -1099511627776 ≤ at_) (ha1 : at_ ≤ 1099511627776) :
 Ctr prog 111 [.wg wd,.ig at_] w0 (fun v w'=>v=instV (decI wd at_)∧Ext w0 I0 w' I0):=by
 have ho:=oct_b wd 0;have hlb:=lowI_b wd (octP wd 0);refine fn (n:=74) func111 rfl rfl rfl ?_;have Z:=St.start hI;refine QwR (qe (qr (cs:=[.ig _,.ig _,.ig _,.ig _,.ig _]) Z Qr rfl) ?_);clear Z;rintro _ w_1⟨b4,rfl,Z⟩;refine QoR (qq Z (Qmw rfl) (qq Z (jP (ml rfl ml0) ml0) (qq Z (qd _) (QoR (qq Z (qb _) (qe (xy call118 rfl rfl (vn wd 0 _ I0 Z.imm hw0 hw1 (by decide))) ?_))))));rintro _ w_2⟨rfl,hE⟩;replace Z:=Z.callE hE;refine qq Z (Qai rfl) (QoN (xJ (QwR (qq Z (Qmi rfl) (qq Z (g_eql rfl rfl) (qq Z (Qmb rfl) (qu rfl rfl Z (fun hg=>(Qmi rfl)) ?_)))))));intro u18 hu18 hn18;refine qu rfl rfl Z (fun hg=>(g_gtr (hu18 hg) rfl)) ?_;intro u19 hu19 hn19;refine qq Z (g_or rfl rfl (fun hq=>hu19 hq)) (QoN (qh rfl ?_ ?_))
 ·
  intro hc20;clear hu18 hn18 hu19 hn19
  try simp only[zA,zO,zN,zI,zF,zM,zT,zU]at hc20
  have e:decI wd at_=dataI wd:=jt hc20;refine QwR (qq Z (Qmw rfl) (qq Z (qK uv ut rfl (by omega) (by omega)) (qq Z (qs (pl:=[(0,1),(1,1),(2,1),(3,1),(4,1)]) (cs:=[.ig _,.ig _,.ig _,.ig _,.ig _]) Qr ue (fun w=>by simp[xK]) (mp (v:=.ig _) rfl mp0) rfl) (qe (qf 0 Z uD rfl rfl rfl (vs:=[.ig _,.ig _,.ig _,.ig _,.ig _]) rfl rfl rfl (xH rfl) (cs':=[_,_,_,_,_]) rfl) ?_))));clear Z;rintro _ w_3⟨rfl,Z⟩;refine QoN (xO (ul (ret1 Jv (qw 0 Z uD Ql rfl rfl rfl) ?_)));exact⟨by rw[e]; rfl,Z.nil⟩
 ·
  intro hc20;clear hu18 hn18 hu19 hn19
  try simp only[zA,zO,zN,zI,zF,zM,zT,zU]at hc20
  have hop:¬(octP wd 0=0∨8 < octP wd 0):=by omega
  obtain⟨pre,post,s,hkl,hpre⟩:=kindL_at (op:=octP wd 0) (by omega) (by omega);refine xM (xL (QwR (qe (qi call119 rfl (kinds_c _ I0 Z.imm)) ?_)));rintro _ w_4⟨rfl,hE⟩;replace Z:=Z.callE hE;refine qq Z (Qmi rfl) (qq Z (ym (pre:=pre) (post:=post) (cs:=[.string s,.ig (regsP (octP wd 0)),.ig (bitsP (octP wd 0)),.bool (signP (octP wd 0)),.bool (targP (octP wd 0))]) JZ JJ isAgg209 (congrArg (fun l:List Value=>Value.agg l.toArray) hkl) rfl (by omega) (by omega) hpre rfl) (qe (qr (cs:=[.string _,.ig _,.ig _,.bool _,.bool _]) Z QR rfl) ?_));clear Z;rintro _ w_5⟨b7,rfl,Z⟩;refine qe (qf 0 Z JJ rfl rfl rfl (vs:=[.string _,.ig _,.ig _,.bool _,.bool _]) rfl rfl rfl (xH rfl) (cs':=[_,_,_,_,_]) rfl) ?_;clear Z;rintro _ w_6⟨rfl,Z⟩;refine QoR (qq Z (Qmi rfl) (qq Z (qs (pl:=[(0,1),(1,1),(2,1),(3,1),(4,1)]) (cs:=[.ig _,.ig _,.ig _,.ig _,.ig _]) Qr ue (fun w=>by simp[xK]) (mp (v:=.ig _) rfl mp0) rfl) (qe (qr (cs:=[.ig _,.ig _,.ig _,.ig _,.ig _]) Z Qr rfl) ?_)));clear Z;rintro _ w_7⟨b8,rfl,Z⟩;refine qe (qf 0 Z uD rfl rfl rfl (vs:=[.ig _,.ig _,.ig _,.ig _,.ig _]) rfl rfl rfl (xH rfl) (cs':=[_,_,_,_,_]) rfl) ?_;clear Z;rintro _ w_8⟨rfl,Z⟩;refine QoN (meet (fun σ w=>∃k:Nat,okS σ [(0,.wg wd),(1,.ig at_),(4,.zg b4),(7,.zg b7),(8,.zg b8)]∧St [] w0 I0 I0 w [.cel b8 92 [.ig (octP wd 0),.ig (regV wd 0 k),.ig (regV wd 1 k),.ig (regV wd 2 k),.ig 0],.cel b7 209 [.string s,.ig (regsP (octP wd 0)),.ig (bitsP (octP wd 0)),.bool (signP (octP wd 0)),.bool (targP (octP wd 0))],.cel b4 92 [.ig 0,.ig 0,.ig 0,.ig 0,.ig 0]]∧(k:Int)=regsP (octP wd 0)∧∀j,j < k→octP wd (j+1)≤15) ?_ ?_)
  ·
   refine QwR (qq Z (qa (o':=1) ue rfl xK rfl rfl rfl) (qq Z (qa (o':=2) ue rfl xK rfl rfl rfl) (qq Z (qa (o':=3) ue rfl xK rfl rfl rfl) (qq Z (zQ (cs:=[.pointer (some ⟨b8,1,none⟩),.pointer (some ⟨b8,2,none⟩),.pointer (some ⟨b8,3,none⟩)]) zeroValue241 Ka Kl rfl (fillP3 _ _ _ _ _ _)) (qq Z (Qmi rfl) (QoN (xU ?_)))))));refine loop (fun(k:Nat) σ w=>okS σ [(0,.wg wd),(1,.ig at_),(4,.zg b4),(5,.func (.func 118) #[.wg wd] #[]),(7,.zg b7),(8,.zg b8),(32,.agg #[.pointer (some ⟨b8,1,none⟩),.pointer (some ⟨b8,2,none⟩),.pointer (some ⟨b8,3,none⟩)]),(33,.ig k)]∧St [] w0 I0 I0 w [.cel b8 92 [.ig (octP wd 0),.ig (regV wd 0 k),.ig (regV wd 1 k),.ig (regV wd 2 k),.ig 0],.cel b7 209 [.string s,.ig (regsP (octP wd 0)),.ig (bitsP (octP wd 0)),.bool (signP (octP wd 0)),.bool (targP (octP wd 0))],.cel b4 92 [.ig 0,.ig 0,.ig 0,.ig 0,.ig 0]]∧(k:Int)≤regsP (octP wd 0)∧∀j,j < k→octP wd (j+1)≤15) (fun k=>3 - k) (0) ?_ ?_
   ·
    exact⟨⟨rfl,rfl,rfl,rfl,rfl,rfl,rfl,rfl,trivial⟩,Z.sel [true,true,true],by have:=regs_b (octP wd 0); omega,fun j hj=>by omega⟩
   ·
    rintro k σ w_l⟨hs,Z,hkr0,hgood⟩;rw[← qj hs]; clear hs
    have hrb:=regs_b (octP wd 0);refine QwR (qq Z (g_lss rfl rfl) (QoN (xJ (qh rfl ?_ ?_))))
    ·
     intro hc34
     try simp only[zA,zO,zN,zI,zF,zM,zT,zU]at hc34
     refine xM (xL (xJ (xU (xJ ?_))));have hk3:k=0∨k=1∨k=2:=by omega
     refine hk3.elim (fun hi=>?_) (fun h=>h.elim (fun hi=>?_) (fun hi=>?_))
     ·
      subst hi;refine reg (qq Z (Qmi rfl) (qq Z (jx (v:=.pointer (some ⟨b8,1,none⟩)) Ka Kl isAgg240 rfl rfl (by decide) (by decide) rfl) (qq Z (Qai rfl) (qq Z (qd _) (QoN (xJ (QwR (qq Z (Qmi rfl) (qq Z (qa (o':=1) Qg rfl xK rfl rfl rfl) (qq Z (qc 1 xW rfl rfl rfl) (qq Z (g_geq rfl rfl) (QoN (qh rfl ?_ ?_)))))))))))))
      ·
       intro hc40
       try simp only[zA,zO,zN,zI,zF,zM,zT,zU]at hc40
       have hkr:((0:Nat):Int)=regsP (octP wd 0):=by omega
       refine ur (um (blkO rfl (um (um (Qi (xL ?_))))));exact⟨_,rfl,_,⟨rfl,rfl,rfl,rfl,rfl,trivial⟩,Z.sel [true,true,true],hkr,hgood⟩
      ·
       intro hc40
       try simp only[zA,zO,zN,zI,zF,zM,zT,zU]at hc40
       refine xM (xL (QwR (qq Z (qb _) (qq Z (qb _) (qq Z (Qmi rfl) (qq Z (g_add rfl rfl (by omega) (by omega)) (qe (xy call118 rfl rfl (vn wd 1 _ I0 Z.imm hw0 hw1 (by decide))) ?_)))))));rintro _ w_9⟨rfl,hE⟩;replace Z:=Z.callE hE;refine qq Z (qm rfl) (qe (qf 0 Z xK rfl rfl rfl (vs:=[.ig _]) rfl rfl rfl (xH rfl)  rfl) ?_);clear Z;rintro _ w_10⟨rfl,Z⟩;refine QoR (qq Z (qb _) (qq Z (qm rfl) (qq Z (qc 0 xW rfl rfl rfl) (qq Z (g_gtr rfl rfl) (QoN (qh rfl ?_ ?_))))))
       ·
        intro hc50
        try simp only[zA,zO,zN,zI,zF,zM,zT,zU]at hc50
        have e:decI wd at_=dataI wd:=yp hop (bad_t (k:=0) (by omega) hc50);refine QwR (qq Z (Qmw rfl) (qq Z (qK uv ut rfl (by omega) (by omega)) (qq Z (qs (pl:=[(0,1),(1,1),(2,1),(3,1),(4,1)]) (cs:=[.ig _,.ig _,.ig _,.ig _,.ig _]) Qr ue (fun w=>by simp[xK]) (mp (v:=.ig _) rfl mp0) rfl) (qe (qf 2 Z uD rfl rfl rfl (vs:=[.ig _,.ig _,.ig _,.ig _,.ig _]) rfl rfl rfl (xH rfl)  rfl) ?_))));clear Z;rintro _ w_11⟨rfl,Z⟩;refine QoN (xO (Qq (ul (ul (Qq (ul (ret1 Jv (qw 2 Z uD Ql rfl rfl rfl) ?_)))))));exact⟨by rw[e]; rfl,Z.nil⟩
       ·
        intro hc50
        try simp only[zA,zO,zN,zI,zF,zM,zT,zU]at hc50
        have hg2:∀j,j < 0+1→octP wd (j+1)≤15:=fun j hj=>by
         rcases Qd.1 hj with h | h
         · exact hgood j h
         · subst h; exact Int.not_lt.1 hc50
        refine xM (uM (xL (reg (qq Z (g_add rfl rfl (by omega) (by omega)) (qq Z (Qmi rfl) (QoN ?_))))));exact⟨1,_,rfl,⟨⟨rfl,rfl,rfl,rfl,rfl,rfl,rfl,rfl,trivial⟩,Z.sel [true,true,true],by omega,hg2⟩,by omega⟩
     ·
      subst hi;refine reg (qq Z (Qmi rfl) (qq Z (jx (v:=.pointer (some ⟨b8,2,none⟩)) Ka Kl isAgg240 rfl rfl (by decide) (by decide) rfl) (qq Z (Qai rfl) (qq Z (qd _) (QoN (xJ (QwR (qq Z (Qmi rfl) (qq Z (qa (o':=1) Qg rfl xK rfl rfl rfl) (qq Z (qc 1 xW rfl rfl rfl) (qq Z (g_geq rfl rfl) (QoN (qh rfl ?_ ?_)))))))))))))
      ·
       intro hc40
       try simp only[zA,zO,zN,zI,zF,zM,zT,zU]at hc40
       have hkr:((1:Nat):Int)=regsP (octP wd 0):=by omega
       refine ur (um (blkO rfl (um (um (Qi (xL ?_))))));exact⟨_,rfl,_,⟨rfl,rfl,rfl,rfl,rfl,trivial⟩,Z.sel [true,true,true],hkr,hgood⟩
      ·
       intro hc40
       try simp only[zA,zO,zN,zI,zF,zM,zT,zU]at hc40
       refine xM (xL (QwR (qq Z (qb _) (qq Z (qb _) (qq Z (Qmi rfl) (qq Z (g_add rfl rfl (by omega) (by omega)) (qe (xy call118 rfl rfl (vn wd 2 _ I0 Z.imm hw0 hw1 (by decide))) ?_)))))));rintro _ w_12⟨rfl,hE⟩;replace Z:=Z.callE hE;refine qq Z (qm rfl) (qe (qf 0 Z xK rfl rfl rfl (vs:=[.ig _]) rfl rfl rfl (xH rfl)  rfl) ?_);clear Z;rintro _ w_13⟨rfl,Z⟩;refine QoR (qq Z (qb _) (qq Z (qm rfl) (qq Z (qc 0 xW rfl rfl rfl) (qq Z (g_gtr rfl rfl) (QoN (qh rfl ?_ ?_))))))
       ·
        intro hc50
        try simp only[zA,zO,zN,zI,zF,zM,zT,zU]at hc50
        have e:decI wd at_=dataI wd:=yp hop (bad_t (k:=1) (by omega) hc50);refine QwR (qq Z (Qmw rfl) (qq Z (qK uv ut rfl (by omega) (by omega)) (qq Z (qs (pl:=[(0,1),(1,1),(2,1),(3,1),(4,1)]) (cs:=[.ig _,.ig _,.ig _,.ig _,.ig _]) Qr ue (fun w=>by simp[xK]) (mp (v:=.ig _) rfl mp0) rfl) (qe (qf 2 Z uD rfl rfl rfl (vs:=[.ig _,.ig _,.ig _,.ig _,.ig _]) rfl rfl rfl (xH rfl)  rfl) ?_))));clear Z;rintro _ w_14⟨rfl,Z⟩;refine QoN (xO (Qq (ul (ul (Qq (ul (ret1 Jv (qw 2 Z uD Ql rfl rfl rfl) ?_)))))));exact⟨by rw[e]; rfl,Z.nil⟩
       ·
        intro hc50
        try simp only[zA,zO,zN,zI,zF,zM,zT,zU]at hc50
        have hg2:∀j,j < 1+1→octP wd (j+1)≤15:=fun j hj=>by
         rcases Qd.1 hj with h | h
         · exact hgood j h
         · subst h; exact Int.not_lt.1 hc50
        refine xM (uM (xL (reg (qq Z (g_add rfl rfl (by omega) (by omega)) (qq Z (Qmi rfl) (QoN ?_))))));exact⟨2,_,rfl,⟨⟨rfl,rfl,rfl,rfl,rfl,rfl,rfl,rfl,trivial⟩,Z.sel [true,true,true],by omega,hg2⟩,by omega⟩
     ·
      subst hi;refine reg (qq Z (Qmi rfl) (qq Z (jx (v:=.pointer (some ⟨b8,3,none⟩)) Ka Kl isAgg240 rfl rfl (by decide) (by decide) rfl) (qq Z (Qai rfl) (qq Z (qd _) (QoN (xJ (QwR (qq Z (Qmi rfl) (qq Z (qa (o':=1) Qg rfl xK rfl rfl rfl) (qq Z (qc 1 xW rfl rfl rfl) (qq Z (g_geq rfl rfl) (QoN (qh rfl ?_ ?_)))))))))))))
      ·
       intro hc40
       try simp only[zA,zO,zN,zI,zF,zM,zT,zU]at hc40
       have hkr:((2:Nat):Int)=regsP (octP wd 0):=by omega
       refine ur (um (blkO rfl (um (um (Qi (xL ?_))))));exact⟨_,rfl,_,⟨rfl,rfl,rfl,rfl,rfl,trivial⟩,Z.sel [true,true,true],hkr,hgood⟩
      ·
       intro hc40
       try simp only[zA,zO,zN,zI,zF,zM,zT,zU]at hc40
       refine xM (xL (QwR (qq Z (qb _) (qq Z (qb _) (qq Z (Qmi rfl) (qq Z (g_add rfl rfl (by omega) (by omega)) (qe (xy call118 rfl rfl (vn wd 3 _ I0 Z.imm hw0 hw1 (by decide))) ?_)))))));rintro _ w_15⟨rfl,hE⟩;replace Z:=Z.callE hE;refine qq Z (qm rfl) (qe (qf 0 Z xK rfl rfl rfl (vs:=[.ig _]) rfl rfl rfl (xH rfl)  rfl) ?_);clear Z;rintro _ w_16⟨rfl,Z⟩;refine QoR (qq Z (qb _) (qq Z (qm rfl) (qq Z (qc 0 xW rfl rfl rfl) (qq Z (g_gtr rfl rfl) (QoN (qh rfl ?_ ?_))))))
       ·
        intro hc50
        try simp only[zA,zO,zN,zI,zF,zM,zT,zU]at hc50
        have e:decI wd at_=dataI wd:=yp hop (bad_t (k:=2) (by omega) hc50);refine QwR (qq Z (Qmw rfl) (qq Z (qK uv ut rfl (by omega) (by omega)) (qq Z (qs (pl:=[(0,1),(1,1),(2,1),(3,1),(4,1)]) (cs:=[.ig _,.ig _,.ig _,.ig _,.ig _]) Qr ue (fun w=>by simp[xK]) (mp (v:=.ig _) rfl mp0) rfl) (qe (qf 2 Z uD rfl rfl rfl (vs:=[.ig _,.ig _,.ig _,.ig _,.ig _]) rfl rfl rfl (xH rfl)  rfl) ?_))));clear Z;rintro _ w_17⟨rfl,Z⟩;refine QoN (xO (Qq (ul (ul (Qq (ul (ret1 Jv (qw 2 Z uD Ql rfl rfl rfl) ?_)))))));exact⟨by rw[e]; rfl,Z.nil⟩
       ·
        intro hc50
        try simp only[zA,zO,zN,zI,zF,zM,zT,zU]at hc50
        have hg2:∀j,j < 2+1→octP wd (j+1)≤15:=fun j hj=>by
         rcases Qd.1 hj with h | h
         · exact hgood j h
         · subst h; exact Int.not_lt.1 hc50
        refine xM (uM (xL (reg (qq Z (g_add rfl rfl (by omega) (by omega)) (qq Z (Qmi rfl) (QoN ?_))))));exact⟨3,_,rfl,⟨⟨rfl,rfl,rfl,rfl,rfl,rfl,rfl,rfl,trivial⟩,Z.sel [true,true,true],by omega,hg2⟩,by omega⟩
    ·
     intro hc34
     try simp only[zA,zO,zN,zI,zF,zM,zT,zU]at hc34
     have hkr:(k:Int)=regsP (octP wd 0):=by omega
     refine ur (um (um (Qi (xL ?_))));exact⟨_,rfl,_,⟨rfl,rfl,rfl,rfl,rfl,trivial⟩,Z.sel [true,true,true],hkr,hgood⟩
  ·
   rintro σ w_j⟨k,hs,Z,hkr,hgood⟩;rw[← qj hs];refine xJ (QwR (qq Z (qa (o':=2) Qg rfl xK rfl rfl rfl) (qq Z (qc 1 xW rfl rfl rfl) (qq Z (g_gtr rfl rfl) (QoN (qh rfl ?_ ?_))))))
   ·
    intro hc57
    try simp only[zA,zO,zN,zI,zF,zM,zT,zU]at hc57
    refine reg (qq Z (Qmw rfl) (qq Z (qa (o':=2) Qg rfl xK rfl rfl rfl) (qq Z (qc 1 xW rfl rfl rfl) (qq Z (qa (o':=3) Qg rfl uy rfl rfl rfl) (qq Z (qc 1 QA rfl rfl rfl) (qe (qi call133 rfl (low_c wd (octP wd 0) _ I0 Z.imm hw0 hw1 hc57)) ?_))))));rintro _ w_18⟨rfl,hE⟩;replace Z:=Z.callE hE;refine qq Z (qa (o':=4) ue rfl xK rfl rfl rfl) (qe (qf 0 Z xK rfl rfl rfl (vs:=[.ig _]) rfl rfl rfl (xH rfl)  rfl) ?_);clear Z;rintro _ w_19⟨rfl,Z⟩;refine QoN (xJ (QwR (qq Z (qa (o':=4) Qg rfl uy rfl rfl rfl) (qq Z (qc 1 QA rfl rfl rfl) (QoN (qh rfl ?_ ?_))))))
    ·
     intro hc66
     try simp only[zA,zO,zN,zI,zF,zM,zT,zU]at hc66
     refine reg (qq Z (Qmi rfl) (qq Z (qa (o':=4) ue rfl xK rfl rfl rfl) (qq Z (qc 0 xW rfl rfl rfl) (qq Z (g_mul rfl rfl (by omega) (by omega)) (qq Z (g_add rfl rfl (by omega) (by omega)) (qq Z (qa (o':=4) ue rfl xK rfl rfl rfl) (qe (qf 0 Z xK rfl rfl rfl (vs:=[.ig _]) rfl rfl rfl (xH rfl)  rfl) ?_)))))));clear Z;rintro _ w_20⟨rfl,Z⟩;refine QoR (qq Z (g_ldO 0 (vs:=[.ig _,.ig _,.ig _,.ig _,.ig _]) uD Ql rfl rfl rfl rfl) (qe (qf 2 Z uD rfl rfl rfl (vs:=[.ig _,.ig _,.ig _,.ig _,.ig _]) rfl rfl rfl (xH rfl)  rfl) ?_));clear Z;rintro _ w_21⟨rfl,Z⟩;refine QoN (xO (ret1 Jv (qw 2 Z uD Ql rfl rfl rfl) ?_));have hd:=yK (at_:=at_) hop hkr (bad_f hkr hgood);rw[xS hc66]at hd;exact⟨by rw[hd]; rfl,Z.nil⟩
    ·
     intro hc66
     try simp only[zA,zO,zN,zI,zF,zM,zT,zU]at hc66
     refine xM (xL (QwR (qq Z (g_ldO 0 (vs:=[.ig _,.ig _,.ig _,.ig _,.ig _]) uD Ql rfl rfl rfl rfl) (qe (qf 2 Z uD rfl rfl rfl (vs:=[.ig _,.ig _,.ig _,.ig _,.ig _]) rfl rfl rfl (xH rfl)  rfl) ?_))));clear Z;rintro _ w_22⟨rfl,Z⟩;refine QoN (xO (ret1 Jv (qw 2 Z uD Ql rfl rfl rfl) ?_));have hd:=yK (at_:=at_) hop hkr (bad_f hkr hgood);rw[xP (by rw[hc66]; decide)]at hd;exact⟨by rw[hd]; rfl,Z.nil⟩
   ·
    intro hc57
    try simp only[zA,zO,zN,zI,zF,zM,zT,zU]at hc57
    refine xM (xL (xJ (QwR (qq Z (qa (o':=4) Qg rfl uy rfl rfl rfl) (qq Z (qc 1 QA rfl rfl rfl) (QoN (qh rfl ?_ ?_)))))))
    ·
     intro hc66
     try simp only[zA,zO,zN,zI,zF,zM,zT,zU]at hc66
     refine reg (qq Z (Qmi rfl) (qq Z (qa (o':=4) ue rfl xK rfl rfl rfl) (qq Z (qc 0 xW rfl rfl rfl) (qq Z (g_mul rfl rfl (by omega) (by omega)) (qq Z (g_add rfl rfl (by omega) (by omega)) (qq Z (qa (o':=4) ue rfl xK rfl rfl rfl) (qe (qf 0 Z xK rfl rfl rfl (vs:=[.ig _]) rfl rfl rfl (xH rfl)  rfl) ?_)))))));clear Z;rintro _ w_23⟨rfl,Z⟩;refine QoR (qq Z (g_ldO 0 (vs:=[.ig _,.ig _,.ig _,.ig _,.ig _]) uD Ql rfl rfl rfl rfl) (qe (qf 2 Z uD rfl rfl rfl (vs:=[.ig _,.ig _,.ig _,.ig _,.ig _]) rfl rfl rfl (xH rfl)  rfl) ?_));clear Z;rintro _ w_24⟨rfl,Z⟩;refine QoN (xO (ret1 Jv (qw 2 Z uD Ql rfl rfl rfl) ?_));have hd:=yK (at_:=at_) hop hkr (bad_f hkr hgood);rw[xS hc66,lowI_0 hc57]at hd;exact⟨by rw[hd]; rfl,Z.nil⟩
    ·
     intro hc66
     try simp only[zA,zO,zN,zI,zF,zM,zT,zU]at hc66
     refine xM (xL (QwR (qq Z (g_ldO 0 (vs:=[.ig _,.ig _,.ig _,.ig _,.ig _]) uD Ql rfl rfl rfl rfl) (qe (qf 2 Z uD rfl rfl rfl (vs:=[.ig _,.ig _,.ig _,.ig _,.ig _]) rfl rfl rfl (xH rfl)  rfl) ?_))));clear Z;rintro _ w_25⟨rfl,Z⟩;refine QoN (xO (ret1 Jv (qw 2 Z uD Ql rfl rfl rfl) ?_));have hd:=yK (at_:=at_) hop hkr (bad_f hkr hgood);rw[xP (by rw[hc66]; decide),lowI_0 hc57]at hd;exact⟨by rw[hd]; rfl,Z.nil⟩
end Go.Proofs.YtgkgihnpjgbmhaaGreatDoor
namespace Go.Proofs.YtgkgihnpjgbmhaaGreatDoor
open Tryz
open Go Go.RowKit Go.Inl
def encV : Option Int → Value
 | some x=>.tuple #[.wg x,.ig 0]
 | none=>.tuple #[.wg 0,.ig 20]
def maskP (op:Int):Int:=if bitsP op=24 then 16777216 else if bitsP op=16 then 65536 else 1
theorem kg {op:Int}:(2:Int) ^ (bitsP op).toNat=maskP op∧(bitsP op=((bitsP op).toNat:Int))∧(bitsP op).toNat≤24∧1≤maskP op∧maskP op≤16777216:=by
 unfold maskP bitsP;split
 · decide
 · split <;> decide
theorem kf {op:Int}(h:0 < regsP op):maskP op≤65536∧(1 < regsP op→maskP op=1):=by
 unfold regsP at h;split at h
 · rename_i h1
   rcases h1 with rfl | rfl | rfl <;> decide
 · split at h
   · rename_i h1
     rcases h1 with rfl | rfl | rfl <;> decide
   · omega
def accV (x : InstL) (base : Int) : Nat → Int
 | 0=>base
 | 1=>base+(if 0 < regsP x.op then x.a % 256*65536 else 0)
 | 2=>base+(if 0 < regsP x.op then x.a % 256*65536 else 0)+(if 1 < regsP x.op then x.b % 256*256 else 0)
 | _=>base+(if 0 < regsP x.op then x.a % 256*65536 else 0)+(if 1 < regsP x.op then x.b % 256*256 else 0)+(if 2 < regsP x.op then x.c % 256 else 0)
def baseP (x:InstL)(mm:Int):Int:=if x.op=0 then mm % 4294967296 else x.op*16777216+mm % maskP x.op
theorem accV_1 (x:InstL)(b:Int):accV x b 1=b+(if 0 < regsP x.op then x.a % 256*65536 else 0):=rfl
theorem accV_2 (x:InstL)(b:Int):accV x b 2=b+(if 0 < regsP x.op then x.a % 256*65536 else 0)+(if 1 < regsP x.op then x.b % 256*256 else 0):=rfl
theorem accV_enc {x:InstL}{at_ mm:Int}(h:mm=if targP x.op=true then (x.n - at_) / 4 else x.n):accV x (baseP x mm) 3=encW x at_:=by
 unfold encW accV baseP;by_cases h0:x.op=0
 · rw [xS h0, xS h0, h, h0]
   simp[targP,regsP]
 · rw [xP h0, xP h0, ← h]
   rfl
theorem xc {x:InstL}(h:0≤x.op∧x.op≤8)(mm:Int)(k:Nat)(hk:k≤3):0≤accV x (baseP x mm) k∧accV x (baseP x mm) k < 4294967296:=by
 obtain⟨h0,h1⟩:=h;have e:x.op=0∨x.op=1∨x.op=2∨x.op=3∨x.op=4∨x.op=5∨x.op=6∨x.op=7∨x.op=8:=by omega
 have ek:k=0∨k=1∨k=2∨k=3:=by omega
 rcases ek with ek | ek | ek | ek <;> subst ek <;> (rcases e with e | e | e | e | e | e | e | e | e) <;> simp[accV,baseP,e,regsP,maskP,bitsP] <;> omega
theorem encI_none {x:InstL}{at_:Int}(h:x.op < 0∨8 < x.op):encI x at_=none:=by unfold encI; rw[xP (fun h'=>by omega)]
theorem encI_ne {x:InstL}{at_:Int}(h:instEq (decI (encW x at_) at_) x=false):encI x at_=none:=by unfold encI; rw[xP (fun h'=>by rw[h'.2]at h; cases h)]
theorem encI_eq {x:InstL}{at_:Int}(h0:0≤x.op∧x.op≤8)(h:instEq (decI (encW x at_) at_) x=true):encI x at_=some (encW x at_):=by unfold encI; rw[xS ⟨h0,h⟩]
set_option maxHeartbeats 1000000 in
theorem encode_c (x : InstL) (at_ : Int) (w0 : World) (I0 : Imm) (hI : Sat I0 w0) (hx0 : -1099511627776 ≤ x.n) (hx1 : x.n ≤ 1099511627776) (ha0 : -1099511627776 ≤ at_) (ha1 : at_ ≤ 1099511627776) :
 Ctr prog 80 [instV x,.ig at_] w0 (fun v w'=>v=encV (encI x at_)∧Ext w0 I0 w' I0):=by
 refine fn (n:=79) func80 rfl rfl rfl ?_;have Z:=St.start hI;refine QwR (qe (d_box (cs:=[.ig _,.ig _,.ig _,.ig _,.ig _]) Z rfl) ?_);clear Z;rintro _ w_1⟨b2,rfl,Z⟩;refine qq Z (Qaw rfl) (qq Z (Qai rfl) (QoN (xJ (QwR (qq Z (qa (o':=0) ue rfl xK rfl rfl rfl) (qq Z (qc 0 xW rfl rfl rfl) (qq Z (g_lss rfl rfl) (qq Z (Qmb rfl) (qu rfl rfl Z (fun hg=>(qa (o':=0) ue rfl xK rfl rfl rfl)) ?_)))))))));intro u15 hu15 hn15;refine qu rfl rfl Z (fun hg=>(qc 0 xW rfl (hu15 hg) rfl)) ?_;intro u16 hu16 hn16;refine qu rfl rfl Z (fun hg=>(g_gtr (hu16 hg) rfl)) ?_;intro u17 hu17 hn17;refine qq Z (g_or rfl rfl (fun hq=>hu17 hq)) (QoN (qh rfl ?_ ?_))
 ·
  intro hc18;clear hu15 hn15 hu16 hn16 hu17 hn17
  try simp only[zA,zO,zN,zI,zF,zM,zT,zU]at hc18
  have e:encI x at_=none:=encI_none hc18;refine QwR (qq Z (Qaw rfl) (qq Z (Qai rfl) (QoN (xO (ul (ret2 Kj (qg (v:=.wg _) rfl) (qg (v:=.ig _) rfl) ?_))))));exact⟨by rw[e]; rfl,Z.nil⟩
 ·
  intro hc18;clear hu15 hn15 hu16 hn16 hu17 hn17
  try simp only[zA,zO,zN,zI,zF,zM,zT,zU]at hc18
  have hopb:0≤x.op∧x.op≤8:=by omega
  obtain⟨pre,post,s,hkl,hpre⟩:=kindL_at hopb.1 hopb.2;have hmk:=kg (op:=x.op);refine xM (xL (xJ (draw (.pg 1 (.hg 2 (.fork 0 (.pg 3 (.cons 4 .eff (.cons 5 .bar .nil))) 4 (.cons 0 .eff (.pg 3 (.cons 5 .bar .nil)))))) mixed (by kernel_rfl) Z ?_)));intro w_2 Z;refine sp rfl (qa (o':=0) ue rfl xK rfl rfl rfl) (sh rfl (qc 0 xW rfl rfl rfl) (sk ?_ ?_))
  ·
   have hS0:=Z;refine se rfl (qi call119 rfl (kinds_c _ I0 Z.imm)) ?_;rintro _ w_3⟨rfl,hE⟩;replace Z:=Z.call hE;refine⟨_,_,hS0.le hE.ext (uu _),Z,sp rfl (ym (pre:=pre) (post:=post) (cs:=[.string s,.ig (regsP x.op),.ig (bitsP x.op),.bool (signP x.op),.bool (targP x.op)]) JZ JJ isAgg209 (congrArg (fun l:List Value=>Value.agg l.toArray) hkl) rfl (by omega) (by omega) hpre rfl) ?_⟩;have hS0:=Z;refine se rfl (qr (cs:=[.string _,.ig _,.ig _,.bool _,.bool _]) Z QR rfl) ?_;rintro _ w_4⟨b6,rfl,Z⟩;refine⟨_,_,hS0.le (Sub.refl _) (uq _ _),Z,sb rfl (qf 0 Z JJ rfl rfl rfl (vs:=[.string _,.ig _,.ig _,.bool _,.bool _]) rfl rfl rfl (xH rfl) (cs':=[_,_,_,_,_]) rfl) ?_⟩;rintro _ w_5⟨rfl,Z⟩;refine⟨_,_,Z,sn (xL (QwR (qq Z (qa (o':=4) ue rfl xK rfl rfl rfl) (qq Z (qc 1 xW rfl rfl rfl) (qq Z (Qai rfl) (QoN (meet (fun σ w=>∃mm:Int,okS σ [(1,.ig at_),(2,.zg b2),(6,.zg b6),(7,.ig mm)]∧St [] w0 I0 I0 w [.cel b6 209 [.string s,.ig (regsP x.op),.ig (bitsP x.op),.bool (signP x.op),.bool (targP x.op)],.cel b2 92 [.ig x.op,.ig x.a,.ig x.b,.ig x.c,.ig x.n]]∧mm=(if targP x.op=true then (x.n - at_) / 4 else x.n)∧-4611686018427387904≤mm∧mm≤4611686018427387904) ?_ ?_)))))))⟩
   ·
    refine QwR (qq Z (qa (o':=4) Qg rfl uy rfl rfl rfl) (qq Z (qc 0 QA rfl rfl rfl) (QoN (qh rfl ?_ ?_))))
    ·
     intro hc26
     try simp only[zA,zO,zN,zI,zF,zM,zT,zU]at hc26
     have e26:(x.n - at_) / 4=if targP x.op=true then (x.n - at_) / 4 else x.n:=by rw[xS hc26]
     refine reg (qq Z (Qmi rfl) (qq Z (Qmi rfl) (qq Z (g_sub rfl rfl (by omega) (by omega)) (qq Z (jM (s:=2) (c:=(x.n - at_) / 4) rfl rfl rfl rfl rfl) (qq Z (Qai rfl) (QoN ?_))))));exact⟨_,rfl,_,⟨rfl,rfl,rfl,rfl,trivial⟩,Z,e26,by omega,by omega⟩
    ·
     intro hc26
     try simp only[zA,zO,zN,zI,zF,zM,zT,zU]at hc26
     have e26:x.n=if targP x.op=true then (x.n - at_) / 4 else x.n:=by rw[xP (by rw[hc26]; decide)]
     refine xM (xL ?_);exact⟨_,rfl,_,⟨rfl,rfl,rfl,rfl,trivial⟩,Z,e26,by omega,by omega⟩
   ·
    rintro σ w_j⟨mm,hs,Z,hmm,hmb0,hmb1⟩;rw[← qj hs];refine QwR (qq Z (Qmi rfl) (qq Z (kT ut uv rfl) (qq Z (Qaw rfl) (QoN (meet (fun σ w=>okS σ [(1,.ig at_),(2,.zg b2),(6,.zg b6),(8,.wg (baseP x mm))]∧St [] w0 I0 I0 w [.cel b6 209 [.string s,.ig (regsP x.op),.ig (bitsP x.op),.bool (signP x.op),.bool (targP x.op)],.cel b2 92 [.ig x.op,.ig x.a,.ig x.b,.ig x.c,.ig x.n]]) ?_ ?_)))))
    ·
     refine QwR (qq Z (qa (o':=0) ue rfl xK rfl rfl rfl) (qq Z (qc 1 xW rfl rfl rfl) (qq Z (g_neq rfl rfl) (QoN (qh rfl ?_ ?_)))))
     ·
      intro hc35
      try simp only[zA,zO,zN,zI,zF,zM,zT,zU]at hc35
      have hm0:0≤mm % maskP x.op∧mm % maskP x.op < maskP x.op:=⟨Int.emod_nonneg _ (by omega),Int.emod_lt_of_pos _ (by omega)⟩
      refine draw (.pg 0 (.hg 1 (.pg 2 (.pg 3 (.pg 4 (.pg 5 (.hg 6 (.pg 7 (.pg 8 (.pg 9 (.pg 10 (.pg 11 (.pg 12 .nil))))))))))))) mixed (by kernel_rfl) Z ?_;intro w_6 Z;refine sp rfl (qa (o':=0) ue rfl xK rfl rfl rfl) (sh rfl (qc 1 xW rfl rfl rfl) ?_);refine sp rfl (qH (c:=x.op) ut uv rfl (by rw[IntKind.wrap_u32]; omega)) ?_;refine sp rfl (qT (s:=24) (c:=x.op*16777216) rfl rfl rfl rfl (by rw[IntKind.wrap_u32]; omega)) ?_;refine sp rfl (Qmi rfl) (sp rfl (qa (o':=2) Qg rfl xK rfl rfl rfl) (sh rfl (qc 0 xW rfl rfl rfl) ?_));refine sp rfl (qT (s:=(bitsP x.op).toNat) (c:=maskP x.op) rfl rfl hmk.2.1 (Nat.ble_eq_true_of_le (Nat.le_trans hmk.2.2.1 (by decide))) (by rw[hmk.1,IntKind.wrap_i64]; omega)) ?_;refine sp rfl (g_sub rfl rfl (by omega) (by omega)) ?_;refine sp rfl (jh (m:=(bitsP x.op).toNat) (c:=mm % maskP x.op) rfl rfl (by rw[hmk.1]) (Nat.ble_eq_true_of_le (Nat.le_trans hmk.2.2.1 (by decide))) (by rw[hmk.1,IntKind.wrap_i64]; omega)) ?_;refine sp rfl (qH (c:=mm % maskP x.op) ut uv rfl (by rw[IntKind.wrap_u32]; omega)) ?_;refine sp rfl (g_orD (m:=24) (c:=baseP x mm) rfl rfl (by omega) (Int.lt_of_lt_of_le (show x.op*16777216 < 4294967296 by omega) (Int.le_refl _)) (by omega) (by omega) (by omega) (Int.lt_of_lt_of_le (show mm % maskP x.op < 4294967296 by omega) (Int.le_refl _)) (by rw[IntKind.wrap_u32]; unfold baseP; rw[xP hc35]; omega)) ?_;refine sp rfl (Qaw rfl) (sn (xL ?_))
      first | exact⟨_,rfl,⟨rfl,rfl,rfl,rfl,trivial⟩,Z⟩ | exact⟨_,rfl,⟨rfl,rfl,rfl,congrArg (Value.int .u32) e35,trivial⟩,Z⟩
     ·
      intro hc35
      try simp only[zA,zO,zN,zI,zF,zM,zT,zU]at hc35
      have e35:IntKind.u32.wrap mm=baseP x mm:=by rw[IntKind.wrap_u32]; unfold baseP; rw[xS hc35]
      refine xM (xL ?_)
      first | exact⟨_,rfl,⟨rfl,rfl,rfl,rfl,trivial⟩,Z⟩ | exact⟨_,rfl,⟨rfl,rfl,rfl,congrArg (Value.int .u32) e35,trivial⟩,Z⟩
    ·
     rintro σ w_k⟨hs,Z⟩;rw[← qj hs];refine meet (fun σ w=>okS σ [(1,.ig at_),(2,.zg b2),(8,.wg (encW x at_))]∧St [] w0 I0 I0 w [.cel b2 92 [.ig x.op,.ig x.a,.ig x.b,.ig x.c,.ig x.n]]) ?_ ?_
     ·
      refine QwR (qq Z (qa (o':=1) ue rfl xK rfl rfl rfl) (qq Z (qc 1 xW rfl rfl rfl) (qq Z (qa (o':=2) ue rfl xK rfl rfl rfl) (qq Z (qc 1 xW rfl rfl rfl) (qq Z (qa (o':=3) ue rfl xK rfl rfl rfl) (qq Z (qc 1 xW rfl rfl rfl) (qq Z (zQ (cs:=[.ig x.a,.ig x.b,.ig x.c]) zeroValue212 Jl xK rfl (fill3 _ _ _ _ _ _)) ?_)))))));refine qq Z (Qmi rfl) (QoN (xU (loop (fun(k:Nat) σ w=>okS σ [(1,.ig at_),(2,.zg b2),(6,.zg b6),(8,.wg (accV x (baseP x mm) k)),(54,.agg #[.ig x.a,.ig x.b,.ig x.c]),(55,.ig k)]∧St [] w0 I0 I0 w [.cel b6 209 [.string s,.ig (regsP x.op),.ig (bitsP x.op),.bool (signP x.op),.bool (targP x.op)],.cel b2 92 [.ig x.op,.ig x.a,.ig x.b,.ig x.c,.ig x.n]]∧k≤3) (fun k=>3 - k) (0) ?_ ?_)))
      ·
       exact⟨⟨rfl,rfl,rfl,rfl,rfl,rfl,trivial⟩,Z.sel [true,true],by omega⟩
      ·
       rintro k σ w_l⟨hs,Z,hk3⟩;rw[← qj hs]; clear hs
       refine QwR (qq Z (g_lss rfl rfl) (QoN (xJ (qh rfl ?_ ?_))))
       ·
        intro hc56
        try simp only[zA,zO,zN,zI,zF,zM,zT,zU]at hc56
        refine xM (xL (xJ (xU (xJ ?_))));have hi3:k=0∨k=1∨k=2:=by omega
        refine hi3.elim (fun hi=>?_) (fun h=>h.elim (fun hi=>?_) (fun hi=>?_))
        ·
         subst hi;refine reg (qq Z (Qmi rfl) (qq Z (jx (v:=.ig x.a) Jl xK xW rfl rfl (by decide) (by decide) rfl) (qq Z (Qai rfl) (qq Z (Qai rfl) (QoR (qq Z (Qmi rfl) (qq Z (qa (o':=1) Qg rfl xK rfl rfl rfl) (qq Z (qc 0 xW rfl rfl rfl) (qq Z (g_lss rfl rfl) (QoN (qh rfl ?_ ?_)))))))))))
         ·
          intro hc62
          try simp only[zA,zO,zN,zI,zF,zM,zT,zU]at hc62
          have hr0:0 < regsP x.op:=by omega
          have hop0:¬x.op=0:=fun h=>by rw[h]at hr0; exact absurd hr0 (by decide)
          have hmr:=kf hr0;have hmk:=kg (op:=x.op);have hm16:0≤mm % maskP x.op∧mm % maskP x.op < 65536:=⟨Int.emod_nonneg _ (by omega),Int.lt_of_lt_of_le (Int.emod_lt_of_pos _ (by omega)) hmr.1⟩
          have hac:accV x (baseP x mm) 0=x.op*16777216+mm % maskP x.op:=by show baseP x mm=_; unfold baseP; rw[xP hop0]
          have hab:=xc hopb mm 1 (by omega);have hnx:accV x (baseP x mm) 1=accV x (baseP x mm) 0+x.a % 256*65536:=by
           have e:accV x (baseP x mm) 1=accV x (baseP x mm) 0+(if (0:Int) < regsP x.op then x.a % 256*65536 else 0):=rfl;rw[e,xS (show(0:Int) < regsP x.op by omega)]
          refine reg (qq Z (Qmw rfl) (qq Z (Qmi rfl) ?_));refine qq Z (jh (m:=8) (c:=x.a % 256) rfl rfl rfl rfl (by rw[IntKind.wrap_i64]; omega)) ?_;refine qq Z (qH (c:=x.a % 256) ut uv rfl (by rw[IntKind.wrap_u32]; omega)) ?_;refine qq Z (Qmi rfl) (qq Z (g_mul rfl rfl (by omega) (by omega)) (qq Z (g_sub rfl rfl (by omega) (by omega)) ?_));refine qq Z (qT (s:=16) (c:=x.a % 256*65536) rfl rfl rfl rfl (by rw[IntKind.wrap_u32]; omega)) ?_;refine qq Z (g_orM (h:=x.op.toNat) (l:=(mm % maskP x.op).toNat) (d:=(x.a % 256).toNat) (p:=24) (q:=16) (c:=accV x (baseP x mm) 1) rfl rfl (by rw[hac]; omega) (by omega) (by omega) (by omega) (Nat.lt_of_lt_of_le (show _ < 4294967296 by omega) (uc _)) (Nat.lt_of_lt_of_le (show _ < 4294967296 by omega) (uc _)) (by rw[IntKind.wrap_u32,hnx]; omega)) ?_;refine qq Z (Qaw rfl) (qy (uM (xL (reg (qq Z (g_add rfl rfl (by omega) (by omega)) (qq Z (Qmi rfl) (QoN ?_)))))))
          first | exact⟨1,_,rfl,⟨⟨rfl,rfl,rfl,rfl,rfl,rfl,trivial⟩,Z.sel [true,true],by omega⟩,by omega⟩ | exact⟨1,_,rfl,⟨⟨rfl,rfl,rfl,congrArg (Value.int .u32) hnx.symm,rfl,rfl,trivial⟩,Z.sel [true,true],by omega⟩,by omega⟩
         ·
          intro hc62
          try simp only[zA,zO,zN,zI,zF,zM,zT,zU]at hc62
          have hnx:accV x (baseP x mm) 1=accV x (baseP x mm) 0:=by
           have e:accV x (baseP x mm) 1=accV x (baseP x mm) 0+(if (0:Int) < regsP x.op then x.a % 256*65536 else 0):=rfl;rw[e,xP (show ¬(0:Int) < regsP x.op by omega),Int.add_zero]
          refine xM (uM (xL (reg (qq Z (g_add rfl rfl (by omega) (by omega)) (qq Z (Qmi rfl) (QoN ?_))))))
          first | exact⟨1,_,rfl,⟨⟨rfl,rfl,rfl,rfl,rfl,rfl,trivial⟩,Z.sel [true,true],by omega⟩,by omega⟩ | exact⟨1,_,rfl,⟨⟨rfl,rfl,rfl,congrArg (Value.int .u32) hnx.symm,rfl,rfl,trivial⟩,Z.sel [true,true],by omega⟩,by omega⟩
        ·
         subst hi;refine reg (qq Z (Qmi rfl) (qq Z (jx (v:=.ig x.b) Jl xK xW rfl rfl (by decide) (by decide) rfl) (qq Z (Qai rfl) (qq Z (Qai rfl) (QoR (qq Z (Qmi rfl) (qq Z (qa (o':=1) Qg rfl xK rfl rfl rfl) (qq Z (qc 0 xW rfl rfl rfl) (qq Z (g_lss rfl rfl) (QoN (qh rfl ?_ ?_)))))))))))
         ·
          intro hc62
          try simp only[zA,zO,zN,zI,zF,zM,zT,zU]at hc62
          have hr0:0 < regsP x.op:=by omega
          have hop0:¬x.op=0:=fun h=>by rw[h]at hr0; exact absurd hr0 (by decide)
          have hmr:=kf hr0;have hmk:=kg (op:=x.op);have hm16:0≤mm % maskP x.op∧mm % maskP x.op < 65536:=⟨Int.emod_nonneg _ (by omega),Int.lt_of_lt_of_le (Int.emod_lt_of_pos _ (by omega)) hmr.1⟩
          have hr1:1 < regsP x.op:=by omega
          have hm1:mm % maskP x.op=0:=by rw[hmr.2 hr1]; omega
          have hac:accV x (baseP x mm) 1=x.op*16777216+x.a % 256*65536:=by rw[accV_1]; unfold baseP; rw[xP hop0,xS hr0,hm1]; omega
          have hab:=xc hopb mm 2 (by omega);have hnx:accV x (baseP x mm) 2=accV x (baseP x mm) 1+x.b % 256*256:=by
           have e:accV x (baseP x mm) 2=accV x (baseP x mm) 1+(if (1:Int) < regsP x.op then x.b % 256*256 else 0):=rfl;rw[e,xS (show(1:Int) < regsP x.op by omega)]
          refine reg (qq Z (Qmw rfl) (qq Z (Qmi rfl) ?_));refine qq Z (jh (m:=8) (c:=x.b % 256) rfl rfl rfl rfl (by rw[IntKind.wrap_i64]; omega)) ?_;refine qq Z (qH (c:=x.b % 256) ut uv rfl (by rw[IntKind.wrap_u32]; omega)) ?_;refine qq Z (Qmi rfl) (qq Z (g_mul rfl rfl (by omega) (by omega)) (qq Z (g_sub rfl rfl (by omega) (by omega)) ?_));refine qq Z (qT (s:=8) (c:=x.b % 256*256) rfl rfl rfl rfl (by rw[IntKind.wrap_u32]; omega)) ?_;refine qq Z (g_orM (h:=(x.op*256+x.a % 256).toNat) (l:=0) (d:=(x.b % 256).toNat) (p:=16) (q:=8) (c:=accV x (baseP x mm) 2) rfl rfl (by rw[hac]; omega) (by omega) (by omega) (by omega) (Nat.lt_of_lt_of_le (show _ < 4294967296 by omega) (uc _)) (Nat.lt_of_lt_of_le (show _ < 4294967296 by omega) (uc _)) (by rw[IntKind.wrap_u32,hnx]; omega)) ?_;refine qq Z (Qaw rfl) (qy (uM (xL (reg (qq Z (g_add rfl rfl (by omega) (by omega)) (qq Z (Qmi rfl) (QoN ?_)))))))
          first | exact⟨2,_,rfl,⟨⟨rfl,rfl,rfl,rfl,rfl,rfl,trivial⟩,Z.sel [true,true],by omega⟩,by omega⟩ | exact⟨2,_,rfl,⟨⟨rfl,rfl,rfl,congrArg (Value.int .u32) hnx.symm,rfl,rfl,trivial⟩,Z.sel [true,true],by omega⟩,by omega⟩
         ·
          intro hc62
          try simp only[zA,zO,zN,zI,zF,zM,zT,zU]at hc62
          have hnx:accV x (baseP x mm) 2=accV x (baseP x mm) 1:=by
           have e:accV x (baseP x mm) 2=accV x (baseP x mm) 1+(if (1:Int) < regsP x.op then x.b % 256*256 else 0):=rfl;rw[e,xP (show ¬(1:Int) < regsP x.op by omega),Int.add_zero]
          refine xM (uM (xL (reg (qq Z (g_add rfl rfl (by omega) (by omega)) (qq Z (Qmi rfl) (QoN ?_))))))
          first | exact⟨2,_,rfl,⟨⟨rfl,rfl,rfl,rfl,rfl,rfl,trivial⟩,Z.sel [true,true],by omega⟩,by omega⟩ | exact⟨2,_,rfl,⟨⟨rfl,rfl,rfl,congrArg (Value.int .u32) hnx.symm,rfl,rfl,trivial⟩,Z.sel [true,true],by omega⟩,by omega⟩
        ·
         subst hi;refine reg (qq Z (Qmi rfl) (qq Z (jx (v:=.ig x.c) Jl xK xW rfl rfl (by decide) (by decide) rfl) (qq Z (Qai rfl) (qq Z (Qai rfl) (QoR (qq Z (Qmi rfl) (qq Z (qa (o':=1) Qg rfl xK rfl rfl rfl) (qq Z (qc 0 xW rfl rfl rfl) (qq Z (g_lss rfl rfl) (QoN (qh rfl ?_ ?_)))))))))))
         ·
          intro hc62
          try simp only[zA,zO,zN,zI,zF,zM,zT,zU]at hc62
          have hr0:0 < regsP x.op:=by omega
          have hop0:¬x.op=0:=fun h=>by rw[h]at hr0; exact absurd hr0 (by decide)
          have hmr:=kf hr0;have hmk:=kg (op:=x.op);have hm16:0≤mm % maskP x.op∧mm % maskP x.op < 65536:=⟨Int.emod_nonneg _ (by omega),Int.lt_of_lt_of_le (Int.emod_lt_of_pos _ (by omega)) hmr.1⟩
          have hr1:1 < regsP x.op:=by omega
          have hm1:mm % maskP x.op=0:=by rw[hmr.2 hr1]; omega
          have hac:accV x (baseP x mm) 2=x.op*16777216+x.a % 256*65536+x.b % 256*256:=by rw[accV_2]; unfold baseP; rw[xP hop0,xS hr0,xS hr1,hm1]; omega
          have hab:=xc hopb mm 3 (by omega);have hnx:accV x (baseP x mm) 3=accV x (baseP x mm) 2+x.c % 256:=by
           have e:accV x (baseP x mm) 3=accV x (baseP x mm) 2+(if (2:Int) < regsP x.op then x.c % 256 else 0):=rfl;rw[e,xS (show(2:Int) < regsP x.op by omega)]
          refine reg (qq Z (Qmw rfl) (qq Z (Qmi rfl) ?_));refine qq Z (jh (m:=8) (c:=x.c % 256) rfl rfl rfl rfl (by rw[IntKind.wrap_i64]; omega)) ?_;refine qq Z (qH (c:=x.c % 256) ut uv rfl (by rw[IntKind.wrap_u32]; omega)) ?_;refine qq Z (Qmi rfl) (qq Z (g_mul rfl rfl (by omega) (by omega)) (qq Z (g_sub rfl rfl (by omega) (by omega)) ?_));refine qq Z (qT (s:=0) (c:=x.c % 256*1) rfl rfl rfl rfl (by rw[IntKind.wrap_u32]; omega)) ?_;refine qq Z (g_orM (h:=(x.op*65536+x.a % 256*256+x.b % 256).toNat) (l:=0) (d:=(x.c % 256).toNat) (p:=8) (q:=0) (c:=accV x (baseP x mm) 3) rfl rfl (by rw[hac]; omega) (by omega) (by omega) (by omega) (Nat.lt_of_lt_of_le (show _ < 4294967296 by omega) (uc _)) (Nat.lt_of_lt_of_le (show _ < 4294967296 by omega) (uc _)) (by rw[IntKind.wrap_u32,hnx]; omega)) ?_;refine qq Z (Qaw rfl) (qy (uM (xL (reg (qq Z (g_add rfl rfl (by omega) (by omega)) (qq Z (Qmi rfl) (QoN ?_)))))))
          first | exact⟨3,_,rfl,⟨⟨rfl,rfl,rfl,rfl,rfl,rfl,trivial⟩,Z.sel [true,true],by omega⟩,by omega⟩ | exact⟨3,_,rfl,⟨⟨rfl,rfl,rfl,congrArg (Value.int .u32) hnx.symm,rfl,rfl,trivial⟩,Z.sel [true,true],by omega⟩,by omega⟩
         ·
          intro hc62
          try simp only[zA,zO,zN,zI,zF,zM,zT,zU]at hc62
          have hnx:accV x (baseP x mm) 3=accV x (baseP x mm) 2:=by
           have e:accV x (baseP x mm) 3=accV x (baseP x mm) 2+(if (2:Int) < regsP x.op then x.c % 256 else 0):=rfl;rw[e,xP (show ¬(2:Int) < regsP x.op by omega),Int.add_zero]
          refine xM (uM (xL (reg (qq Z (g_add rfl rfl (by omega) (by omega)) (qq Z (Qmi rfl) (QoN ?_))))))
          first | exact⟨3,_,rfl,⟨⟨rfl,rfl,rfl,rfl,rfl,rfl,trivial⟩,Z.sel [true,true],by omega⟩,by omega⟩ | exact⟨3,_,rfl,⟨⟨rfl,rfl,rfl,congrArg (Value.int .u32) hnx.symm,rfl,rfl,trivial⟩,Z.sel [true,true],by omega⟩,by omega⟩
       ·
        intro hc56
        try simp only[zA,zO,zN,zI,zF,zM,zT,zU]at hc56
        have hk:k=3:=by omega
        subst hk;refine ur (um (um (Qi (xL ?_))));exact⟨_,rfl,⟨rfl,rfl,congrArg (Value.int .u32) (accV_enc hmm),trivial⟩,(Z.sel [false,true])⟩
     ·
      rintro σ w_k⟨hs,Z⟩;have heb:=encW_b hopb at_;rw[← qj hs];refine xJ (xJ (draw (.pg 0 (.pg 1 (.hg 3 (.cons 2 .eff (.pg 4 .nil))))) mixed (by kernel_rfl) Z ?_));intro w_7 Z;refine sp rfl (Qmw rfl) (sp rfl (Qmi rfl) (sh rfl (g_ldO 0 (vs:=[.ig _,.ig _,.ig _,.ig _,.ig _]) uD Ql rfl rfl rfl rfl) ?_));have hS0:=Z;refine se rfl (qi call111 rfl (vW (encW x at_) at_ _ I0 Z.imm heb.1 heb.2 ha0 ha1)) ?_;rintro _ w_8⟨rfl,hE⟩;replace Z:=Z.call hE;refine⟨_,_,hS0.le hE.ext (uu _),Z,sp rfl (neqInst (decI (encW x at_) at_) x rfl rfl) (sn (xL (qh rfl ?_ ?_)))⟩
      ·
       intro hc77
       try simp only[zA,zO,zN,zI,zF,zM,zT,zU]at hc77
       have e:encI x at_=none:=encI_ne hc77;refine QwR (qq Z (Qaw rfl) (qq Z (Qai rfl) (QoN (xO (ul (ret2 Kj (qg (v:=.wg _) rfl) (qg (v:=.ig _) rfl) ?_))))));exact⟨by rw[e]; rfl,Z.nil⟩
      ·
       intro hc77
       try simp only[zA,zO,zN,zI,zF,zM,zT,zU]at hc77
       have e:encI x at_=some (encW x at_):=encI_eq hopb hc77;refine xM (xL (QwR (qq Z (Qmw rfl) (qq Z (Qaw rfl) (qq Z (Qai rfl) (QoN (xO (ret2 Kj (qg (v:=.wg _) rfl) (qg (v:=.ig _) rfl) ?_))))))));exact⟨by rw[e]; rfl,Z.nil⟩
  ·
   have hS0:=Z;refine se rfl (qr (cs:=[.string _,.ig _,.ig _,.bool _,.bool _]) Z QR rfl) ?_;rintro _ w_9⟨b6,rfl,Z⟩;refine⟨_,_,hS0.le (Sub.refl _) (uq _ _),Z,?_⟩;have hS0:=Z;refine se rfl (qi call119 rfl (kinds_c _ I0 Z.imm)) ?_;rintro _ w_10⟨rfl,hE⟩;replace Z:=Z.call hE;refine⟨_,_,hS0.le hE.ext (uu _),Z,sp rfl (ym (pre:=pre) (post:=post) (cs:=[.string s,.ig (regsP x.op),.ig (bitsP x.op),.bool (signP x.op),.bool (targP x.op)]) JZ JJ isAgg209 (congrArg (fun l:List Value=>Value.agg l.toArray) hkl) rfl (by omega) (by omega) hpre rfl) (sb rfl (qf 0 Z JJ rfl rfl rfl (vs:=[.string _,.ig _,.ig _,.bool _,.bool _]) rfl rfl rfl (xH rfl) (cs':=[_,_,_,_,_]) rfl) ?_)⟩;rintro _ w_11⟨rfl,Z⟩;refine⟨_,_,Z,sn (xL (QwR (qq Z (qa (o':=4) ue rfl xK rfl rfl rfl) (qq Z (qc 1 xW rfl rfl rfl) (qq Z (Qai rfl) (QoN (meet (fun σ w=>∃mm:Int,okS σ [(1,.ig at_),(2,.zg b2),(6,.zg b6),(7,.ig mm)]∧St [] w0 I0 I0 w [.cel b6 209 [.string s,.ig (regsP x.op),.ig (bitsP x.op),.bool (signP x.op),.bool (targP x.op)],.cel b2 92 [.ig x.op,.ig x.a,.ig x.b,.ig x.c,.ig x.n]]∧mm=(if targP x.op=true then (x.n - at_) / 4 else x.n)∧-4611686018427387904≤mm∧mm≤4611686018427387904) ?_ ?_)))))))⟩
   ·
    refine QwR (qq Z (qa (o':=4) Qg rfl uy rfl rfl rfl) (qq Z (qc 0 QA rfl rfl rfl) (QoN (qh rfl ?_ ?_))))
    ·
     intro hc26
     try simp only[zA,zO,zN,zI,zF,zM,zT,zU]at hc26
     have e26:(x.n - at_) / 4=if targP x.op=true then (x.n - at_) / 4 else x.n:=by rw[xS hc26]
     refine reg (qq Z (Qmi rfl) (qq Z (Qmi rfl) (qq Z (g_sub rfl rfl (by omega) (by omega)) (qq Z (jM (s:=2) (c:=(x.n - at_) / 4) rfl rfl rfl rfl rfl) (qq Z (Qai rfl) (QoN ?_))))));exact⟨_,rfl,_,⟨rfl,rfl,rfl,rfl,trivial⟩,Z,e26,by omega,by omega⟩
    ·
     intro hc26
     try simp only[zA,zO,zN,zI,zF,zM,zT,zU]at hc26
     have e26:x.n=if targP x.op=true then (x.n - at_) / 4 else x.n:=by rw[xP (by rw[hc26]; decide)]
     refine xM (xL ?_);exact⟨_,rfl,_,⟨rfl,rfl,rfl,rfl,trivial⟩,Z,e26,by omega,by omega⟩
   ·
    rintro σ w_j⟨mm,hs,Z,hmm,hmb0,hmb1⟩;rw[← qj hs];refine QwR (qq Z (Qmi rfl) (qq Z (kT ut uv rfl) (qq Z (Qaw rfl) (QoN (meet (fun σ w=>okS σ [(1,.ig at_),(2,.zg b2),(6,.zg b6),(8,.wg (baseP x mm))]∧St [] w0 I0 I0 w [.cel b6 209 [.string s,.ig (regsP x.op),.ig (bitsP x.op),.bool (signP x.op),.bool (targP x.op)],.cel b2 92 [.ig x.op,.ig x.a,.ig x.b,.ig x.c,.ig x.n]]) ?_ ?_)))))
    ·
     refine QwR (qq Z (qa (o':=0) ue rfl xK rfl rfl rfl) (qq Z (qc 1 xW rfl rfl rfl) (qq Z (g_neq rfl rfl) (QoN (qh rfl ?_ ?_)))))
     ·
      intro hc35
      try simp only[zA,zO,zN,zI,zF,zM,zT,zU]at hc35
      have hm0:0≤mm % maskP x.op∧mm % maskP x.op < maskP x.op:=⟨Int.emod_nonneg _ (by omega),Int.emod_lt_of_pos _ (by omega)⟩
      refine draw (.pg 0 (.hg 1 (.pg 2 (.pg 3 (.pg 4 (.pg 5 (.hg 6 (.pg 7 (.pg 8 (.pg 9 (.pg 10 (.pg 11 (.pg 12 .nil))))))))))))) mixed (by kernel_rfl) Z ?_;intro w_12 Z;refine sp rfl (qa (o':=0) ue rfl xK rfl rfl rfl) (sh rfl (qc 1 xW rfl rfl rfl) ?_);refine sp rfl (qH (c:=x.op) ut uv rfl (by rw[IntKind.wrap_u32]; omega)) ?_;refine sp rfl (qT (s:=24) (c:=x.op*16777216) rfl rfl rfl rfl (by rw[IntKind.wrap_u32]; omega)) ?_;refine sp rfl (Qmi rfl) (sp rfl (qa (o':=2) Qg rfl xK rfl rfl rfl) (sh rfl (qc 0 xW rfl rfl rfl) ?_));refine sp rfl (qT (s:=(bitsP x.op).toNat) (c:=maskP x.op) rfl rfl hmk.2.1 (Nat.ble_eq_true_of_le (Nat.le_trans hmk.2.2.1 (by decide))) (by rw[hmk.1,IntKind.wrap_i64]; omega)) ?_;refine sp rfl (g_sub rfl rfl (by omega) (by omega)) ?_;refine sp rfl (jh (m:=(bitsP x.op).toNat) (c:=mm % maskP x.op) rfl rfl (by rw[hmk.1]) (Nat.ble_eq_true_of_le (Nat.le_trans hmk.2.2.1 (by decide))) (by rw[hmk.1,IntKind.wrap_i64]; omega)) ?_;refine sp rfl (qH (c:=mm % maskP x.op) ut uv rfl (by rw[IntKind.wrap_u32]; omega)) ?_;refine sp rfl (g_orD (m:=24) (c:=baseP x mm) rfl rfl (by omega) (Int.lt_of_lt_of_le (show x.op*16777216 < 4294967296 by omega) (Int.le_refl _)) (by omega) (by omega) (by omega) (Int.lt_of_lt_of_le (show mm % maskP x.op < 4294967296 by omega) (Int.le_refl _)) (by rw[IntKind.wrap_u32]; unfold baseP; rw[xP hc35]; omega)) ?_;refine sp rfl (Qaw rfl) (sn (xL ?_))
      first | exact⟨_,rfl,⟨rfl,rfl,rfl,rfl,trivial⟩,Z⟩ | exact⟨_,rfl,⟨rfl,rfl,rfl,congrArg (Value.int .u32) e35,trivial⟩,Z⟩
     ·
      intro hc35
      try simp only[zA,zO,zN,zI,zF,zM,zT,zU]at hc35
      have e35:IntKind.u32.wrap mm=baseP x mm:=by rw[IntKind.wrap_u32]; unfold baseP; rw[xS hc35]
      refine xM (xL ?_)
      first | exact⟨_,rfl,⟨rfl,rfl,rfl,rfl,trivial⟩,Z⟩ | exact⟨_,rfl,⟨rfl,rfl,rfl,congrArg (Value.int .u32) e35,trivial⟩,Z⟩
    ·
     rintro σ w_k⟨hs,Z⟩;rw[← qj hs];refine meet (fun σ w=>okS σ [(1,.ig at_),(2,.zg b2),(8,.wg (encW x at_))]∧St [] w0 I0 I0 w [.cel b2 92 [.ig x.op,.ig x.a,.ig x.b,.ig x.c,.ig x.n]]) ?_ ?_
     ·
      refine QwR (qq Z (qa (o':=1) ue rfl xK rfl rfl rfl) (qq Z (qc 1 xW rfl rfl rfl) (qq Z (qa (o':=2) ue rfl xK rfl rfl rfl) (qq Z (qc 1 xW rfl rfl rfl) (qq Z (qa (o':=3) ue rfl xK rfl rfl rfl) (qq Z (qc 1 xW rfl rfl rfl) (qq Z (zQ (cs:=[.ig x.a,.ig x.b,.ig x.c]) zeroValue212 Jl xK rfl (fill3 _ _ _ _ _ _)) ?_)))))));refine qq Z (Qmi rfl) (QoN (xU (loop (fun(k:Nat) σ w=>okS σ [(1,.ig at_),(2,.zg b2),(6,.zg b6),(8,.wg (accV x (baseP x mm) k)),(54,.agg #[.ig x.a,.ig x.b,.ig x.c]),(55,.ig k)]∧St [] w0 I0 I0 w [.cel b6 209 [.string s,.ig (regsP x.op),.ig (bitsP x.op),.bool (signP x.op),.bool (targP x.op)],.cel b2 92 [.ig x.op,.ig x.a,.ig x.b,.ig x.c,.ig x.n]]∧k≤3) (fun k=>3 - k) (0) ?_ ?_)))
      ·
       exact⟨⟨rfl,rfl,rfl,rfl,rfl,rfl,trivial⟩,Z.sel [true,true],by omega⟩
      ·
       rintro k σ w_l⟨hs,Z,hk3⟩;rw[← qj hs]; clear hs
       refine QwR (qq Z (g_lss rfl rfl) (QoN (xJ (qh rfl ?_ ?_))))
       ·
        intro hc56
        try simp only[zA,zO,zN,zI,zF,zM,zT,zU]at hc56
        refine xM (xL (xJ (xU (xJ ?_))));have hi3:k=0∨k=1∨k=2:=by omega
        refine hi3.elim (fun hi=>?_) (fun h=>h.elim (fun hi=>?_) (fun hi=>?_))
        ·
         subst hi;refine reg (qq Z (Qmi rfl) (qq Z (jx (v:=.ig x.a) Jl xK xW rfl rfl (by decide) (by decide) rfl) (qq Z (Qai rfl) (qq Z (Qai rfl) (QoR (qq Z (Qmi rfl) (qq Z (qa (o':=1) Qg rfl xK rfl rfl rfl) (qq Z (qc 0 xW rfl rfl rfl) (qq Z (g_lss rfl rfl) (QoN (qh rfl ?_ ?_)))))))))))
         ·
          intro hc62
          try simp only[zA,zO,zN,zI,zF,zM,zT,zU]at hc62
          have hr0:0 < regsP x.op:=by omega
          have hop0:¬x.op=0:=fun h=>by rw[h]at hr0; exact absurd hr0 (by decide)
          have hmr:=kf hr0;have hmk:=kg (op:=x.op);have hm16:0≤mm % maskP x.op∧mm % maskP x.op < 65536:=⟨Int.emod_nonneg _ (by omega),Int.lt_of_lt_of_le (Int.emod_lt_of_pos _ (by omega)) hmr.1⟩
          have hac:accV x (baseP x mm) 0=x.op*16777216+mm % maskP x.op:=by show baseP x mm=_; unfold baseP; rw[xP hop0]
          have hab:=xc hopb mm 1 (by omega);have hnx:accV x (baseP x mm) 1=accV x (baseP x mm) 0+x.a % 256*65536:=by
           have e:accV x (baseP x mm) 1=accV x (baseP x mm) 0+(if (0:Int) < regsP x.op then x.a % 256*65536 else 0):=rfl;rw[e,xS (show(0:Int) < regsP x.op by omega)]
          refine reg (qq Z (Qmw rfl) (qq Z (Qmi rfl) ?_));refine qq Z (jh (m:=8) (c:=x.a % 256) rfl rfl rfl rfl (by rw[IntKind.wrap_i64]; omega)) ?_;refine qq Z (qH (c:=x.a % 256) ut uv rfl (by rw[IntKind.wrap_u32]; omega)) ?_;refine qq Z (Qmi rfl) (qq Z (g_mul rfl rfl (by omega) (by omega)) (qq Z (g_sub rfl rfl (by omega) (by omega)) ?_));refine qq Z (qT (s:=16) (c:=x.a % 256*65536) rfl rfl rfl rfl (by rw[IntKind.wrap_u32]; omega)) ?_;refine qq Z (g_orM (h:=x.op.toNat) (l:=(mm % maskP x.op).toNat) (d:=(x.a % 256).toNat) (p:=24) (q:=16) (c:=accV x (baseP x mm) 1) rfl rfl (by rw[hac]; omega) (by omega) (by omega) (by omega) (Nat.lt_of_lt_of_le (show _ < 4294967296 by omega) (uc _)) (Nat.lt_of_lt_of_le (show _ < 4294967296 by omega) (uc _)) (by rw[IntKind.wrap_u32,hnx]; omega)) ?_;refine qq Z (Qaw rfl) (qy (uM (xL (reg (qq Z (g_add rfl rfl (by omega) (by omega)) (qq Z (Qmi rfl) (QoN ?_)))))))
          first | exact⟨1,_,rfl,⟨⟨rfl,rfl,rfl,rfl,rfl,rfl,trivial⟩,Z.sel [true,true],by omega⟩,by omega⟩ | exact⟨1,_,rfl,⟨⟨rfl,rfl,rfl,congrArg (Value.int .u32) hnx.symm,rfl,rfl,trivial⟩,Z.sel [true,true],by omega⟩,by omega⟩
         ·
          intro hc62
          try simp only[zA,zO,zN,zI,zF,zM,zT,zU]at hc62
          have hnx:accV x (baseP x mm) 1=accV x (baseP x mm) 0:=by
           have e:accV x (baseP x mm) 1=accV x (baseP x mm) 0+(if (0:Int) < regsP x.op then x.a % 256*65536 else 0):=rfl;rw[e,xP (show ¬(0:Int) < regsP x.op by omega),Int.add_zero]
          refine xM (uM (xL (reg (qq Z (g_add rfl rfl (by omega) (by omega)) (qq Z (Qmi rfl) (QoN ?_))))))
          first | exact⟨1,_,rfl,⟨⟨rfl,rfl,rfl,rfl,rfl,rfl,trivial⟩,Z.sel [true,true],by omega⟩,by omega⟩ | exact⟨1,_,rfl,⟨⟨rfl,rfl,rfl,congrArg (Value.int .u32) hnx.symm,rfl,rfl,trivial⟩,Z.sel [true,true],by omega⟩,by omega⟩
        ·
         subst hi;refine reg (qq Z (Qmi rfl) (qq Z (jx (v:=.ig x.b) Jl xK xW rfl rfl (by decide) (by decide) rfl) (qq Z (Qai rfl) (qq Z (Qai rfl) (QoR (qq Z (Qmi rfl) (qq Z (qa (o':=1) Qg rfl xK rfl rfl rfl) (qq Z (qc 0 xW rfl rfl rfl) (qq Z (g_lss rfl rfl) (QoN (qh rfl ?_ ?_)))))))))))
         ·
          intro hc62
          try simp only[zA,zO,zN,zI,zF,zM,zT,zU]at hc62
          have hr0:0 < regsP x.op:=by omega
          have hop0:¬x.op=0:=fun h=>by rw[h]at hr0; exact absurd hr0 (by decide)
          have hmr:=kf hr0;have hmk:=kg (op:=x.op);have hm16:0≤mm % maskP x.op∧mm % maskP x.op < 65536:=⟨Int.emod_nonneg _ (by omega),Int.lt_of_lt_of_le (Int.emod_lt_of_pos _ (by omega)) hmr.1⟩
          have hr1:1 < regsP x.op:=by omega
          have hm1:mm % maskP x.op=0:=by rw[hmr.2 hr1]; omega
          have hac:accV x (baseP x mm) 1=x.op*16777216+x.a % 256*65536:=by rw[accV_1]; unfold baseP; rw[xP hop0,xS hr0,hm1]; omega
          have hab:=xc hopb mm 2 (by omega);have hnx:accV x (baseP x mm) 2=accV x (baseP x mm) 1+x.b % 256*256:=by
           have e:accV x (baseP x mm) 2=accV x (baseP x mm) 1+(if (1:Int) < regsP x.op then x.b % 256*256 else 0):=rfl;rw[e,xS (show(1:Int) < regsP x.op by omega)]
          refine reg (qq Z (Qmw rfl) (qq Z (Qmi rfl) ?_));refine qq Z (jh (m:=8) (c:=x.b % 256) rfl rfl rfl rfl (by rw[IntKind.wrap_i64]; omega)) ?_;refine qq Z (qH (c:=x.b % 256) ut uv rfl (by rw[IntKind.wrap_u32]; omega)) ?_;refine qq Z (Qmi rfl) (qq Z (g_mul rfl rfl (by omega) (by omega)) (qq Z (g_sub rfl rfl (by omega) (by omega)) ?_));refine qq Z (qT (s:=8) (c:=x.b % 256*256) rfl rfl rfl rfl (by rw[IntKind.wrap_u32]; omega)) ?_;refine qq Z (g_orM (h:=(x.op*256+x.a % 256).toNat) (l:=0) (d:=(x.b % 256).toNat) (p:=16) (q:=8) (c:=accV x (baseP x mm) 2) rfl rfl (by rw[hac]; omega) (by omega) (by omega) (by omega) (Nat.lt_of_lt_of_le (show _ < 4294967296 by omega) (uc _)) (Nat.lt_of_lt_of_le (show _ < 4294967296 by omega) (uc _)) (by rw[IntKind.wrap_u32,hnx]; omega)) ?_;refine qq Z (Qaw rfl) (qy (uM (xL (reg (qq Z (g_add rfl rfl (by omega) (by omega)) (qq Z (Qmi rfl) (QoN ?_)))))))
          first | exact⟨2,_,rfl,⟨⟨rfl,rfl,rfl,rfl,rfl,rfl,trivial⟩,Z.sel [true,true],by omega⟩,by omega⟩ | exact⟨2,_,rfl,⟨⟨rfl,rfl,rfl,congrArg (Value.int .u32) hnx.symm,rfl,rfl,trivial⟩,Z.sel [true,true],by omega⟩,by omega⟩
         ·
          intro hc62
          try simp only[zA,zO,zN,zI,zF,zM,zT,zU]at hc62
          have hnx:accV x (baseP x mm) 2=accV x (baseP x mm) 1:=by
           have e:accV x (baseP x mm) 2=accV x (baseP x mm) 1+(if (1:Int) < regsP x.op then x.b % 256*256 else 0):=rfl;rw[e,xP (show ¬(1:Int) < regsP x.op by omega),Int.add_zero]
          refine xM (uM (xL (reg (qq Z (g_add rfl rfl (by omega) (by omega)) (qq Z (Qmi rfl) (QoN ?_))))))
          first | exact⟨2,_,rfl,⟨⟨rfl,rfl,rfl,rfl,rfl,rfl,trivial⟩,Z.sel [true,true],by omega⟩,by omega⟩ | exact⟨2,_,rfl,⟨⟨rfl,rfl,rfl,congrArg (Value.int .u32) hnx.symm,rfl,rfl,trivial⟩,Z.sel [true,true],by omega⟩,by omega⟩
        ·
         subst hi;refine reg (qq Z (Qmi rfl) (qq Z (jx (v:=.ig x.c) Jl xK xW rfl rfl (by decide) (by decide) rfl) (qq Z (Qai rfl) (qq Z (Qai rfl) (QoR (qq Z (Qmi rfl) (qq Z (qa (o':=1) Qg rfl xK rfl rfl rfl) (qq Z (qc 0 xW rfl rfl rfl) (qq Z (g_lss rfl rfl) (QoN (qh rfl ?_ ?_)))))))))))
         ·
          intro hc62
          try simp only[zA,zO,zN,zI,zF,zM,zT,zU]at hc62
          have hr0:0 < regsP x.op:=by omega
          have hop0:¬x.op=0:=fun h=>by rw[h]at hr0; exact absurd hr0 (by decide)
          have hmr:=kf hr0;have hmk:=kg (op:=x.op);have hm16:0≤mm % maskP x.op∧mm % maskP x.op < 65536:=⟨Int.emod_nonneg _ (by omega),Int.lt_of_lt_of_le (Int.emod_lt_of_pos _ (by omega)) hmr.1⟩
          have hr1:1 < regsP x.op:=by omega
          have hm1:mm % maskP x.op=0:=by rw[hmr.2 hr1]; omega
          have hac:accV x (baseP x mm) 2=x.op*16777216+x.a % 256*65536+x.b % 256*256:=by rw[accV_2]; unfold baseP; rw[xP hop0,xS hr0,xS hr1,hm1]; omega
          have hab:=xc hopb mm 3 (by omega);have hnx:accV x (baseP x mm) 3=accV x (baseP x mm) 2+x.c % 256:=by
           have e:accV x (baseP x mm) 3=accV x (baseP x mm) 2+(if (2:Int) < regsP x.op then x.c % 256 else 0):=rfl;rw[e,xS (show(2:Int) < regsP x.op by omega)]
          refine reg (qq Z (Qmw rfl) (qq Z (Qmi rfl) ?_));refine qq Z (jh (m:=8) (c:=x.c % 256) rfl rfl rfl rfl (by rw[IntKind.wrap_i64]; omega)) ?_;refine qq Z (qH (c:=x.c % 256) ut uv rfl (by rw[IntKind.wrap_u32]; omega)) ?_;refine qq Z (Qmi rfl) (qq Z (g_mul rfl rfl (by omega) (by omega)) (qq Z (g_sub rfl rfl (by omega) (by omega)) ?_));refine qq Z (qT (s:=0) (c:=x.c % 256*1) rfl rfl rfl rfl (by rw[IntKind.wrap_u32]; omega)) ?_;refine qq Z (g_orM (h:=(x.op*65536+x.a % 256*256+x.b % 256).toNat) (l:=0) (d:=(x.c % 256).toNat) (p:=8) (q:=0) (c:=accV x (baseP x mm) 3) rfl rfl (by rw[hac]; omega) (by omega) (by omega) (by omega) (Nat.lt_of_lt_of_le (show _ < 4294967296 by omega) (uc _)) (Nat.lt_of_lt_of_le (show _ < 4294967296 by omega) (uc _)) (by rw[IntKind.wrap_u32,hnx]; omega)) ?_;refine qq Z (Qaw rfl) (qy (uM (xL (reg (qq Z (g_add rfl rfl (by omega) (by omega)) (qq Z (Qmi rfl) (QoN ?_)))))))
          first | exact⟨3,_,rfl,⟨⟨rfl,rfl,rfl,rfl,rfl,rfl,trivial⟩,Z.sel [true,true],by omega⟩,by omega⟩ | exact⟨3,_,rfl,⟨⟨rfl,rfl,rfl,congrArg (Value.int .u32) hnx.symm,rfl,rfl,trivial⟩,Z.sel [true,true],by omega⟩,by omega⟩
         ·
          intro hc62
          try simp only[zA,zO,zN,zI,zF,zM,zT,zU]at hc62
          have hnx:accV x (baseP x mm) 3=accV x (baseP x mm) 2:=by
           have e:accV x (baseP x mm) 3=accV x (baseP x mm) 2+(if (2:Int) < regsP x.op then x.c % 256 else 0):=rfl;rw[e,xP (show ¬(2:Int) < regsP x.op by omega),Int.add_zero]
          refine xM (uM (xL (reg (qq Z (g_add rfl rfl (by omega) (by omega)) (qq Z (Qmi rfl) (QoN ?_))))))
          first | exact⟨3,_,rfl,⟨⟨rfl,rfl,rfl,rfl,rfl,rfl,trivial⟩,Z.sel [true,true],by omega⟩,by omega⟩ | exact⟨3,_,rfl,⟨⟨rfl,rfl,rfl,congrArg (Value.int .u32) hnx.symm,rfl,rfl,trivial⟩,Z.sel [true,true],by omega⟩,by omega⟩
       ·
        intro hc56
        try simp only[zA,zO,zN,zI,zF,zM,zT,zU]at hc56
        have hk:k=3:=by omega
        subst hk;refine ur (um (um (Qi (xL ?_))));exact⟨_,rfl,⟨rfl,rfl,congrArg (Value.int .u32) (accV_enc hmm),trivial⟩,(Z.sel [false,true])⟩
     ·
      rintro σ w_k⟨hs,Z⟩;have heb:=encW_b hopb at_;rw[← qj hs];refine xJ (xJ (draw (.pg 0 (.pg 1 (.hg 3 (.cons 2 .eff (.pg 4 .nil))))) mixed (by kernel_rfl) Z ?_));intro w_13 Z;refine sp rfl (Qmw rfl) (sp rfl (Qmi rfl) (sh rfl (g_ldO 0 (vs:=[.ig _,.ig _,.ig _,.ig _,.ig _]) uD Ql rfl rfl rfl rfl) ?_));have hS0:=Z;refine se rfl (qi call111 rfl (vW (encW x at_) at_ _ I0 Z.imm heb.1 heb.2 ha0 ha1)) ?_;rintro _ w_14⟨rfl,hE⟩;replace Z:=Z.call hE;refine⟨_,_,hS0.le hE.ext (uu _),Z,sp rfl (neqInst (decI (encW x at_) at_) x rfl rfl) (sn (xL (qh rfl ?_ ?_)))⟩
      ·
       intro hc77
       try simp only[zA,zO,zN,zI,zF,zM,zT,zU]at hc77
       have e:encI x at_=none:=encI_ne hc77;refine QwR (qq Z (Qaw rfl) (qq Z (Qai rfl) (QoN (xO (ul (ret2 Kj (qg (v:=.wg _) rfl) (qg (v:=.ig _) rfl) ?_))))));exact⟨by rw[e]; rfl,Z.nil⟩
      ·
       intro hc77
       try simp only[zA,zO,zN,zI,zF,zM,zT,zU]at hc77
       have e:encI x at_=some (encW x at_):=encI_eq hopb hc77;refine xM (xL (QwR (qq Z (Qmw rfl) (qq Z (Qaw rfl) (qq Z (Qai rfl) (QoN (xO (ret2 Kj (qg (v:=.wg _) rfl) (qg (v:=.ig _) rfl) ?_))))))));exact⟨by rw[e]; rfl,Z.nil⟩
end Go.Proofs.YtgkgihnpjgbmhaaGreatDoor
