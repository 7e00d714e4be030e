/- bytes.TrimRight for zeros: what it computes. Conditions: none. -/
import Derived.Test.YtgkgihnpjgbmhaaGreatDoorMdl13
import Derived.Test.YtgkgihnpjgbmhaaGreatDoorKCore2
import Derived.Test.YtgkgihnpjgbmhaaGreatDoorKLaw
set_option linter.unusedSimpArgs false
set_option linter.unusedVariables false
namespace Go.Proofs.YtgkgihnpjgbmhaaGreatDoor
open Tryz
open Go Go.RowKit Go.Inl
theorem jB {P:Program}{ρ:Operand→Value}{S:World→Prop}{op:Op}{ty:TypeId}{v v':Value}(h:Gives P ρ S op ty v)(e:v=v'):Gives P ρ S op ty v':=by subst e; exact h
theorem trimZ_zero (p:List Int):trimZ (p++[0])=trimZ p:=by unfold trimZ; rw[List.reverse_append]; simp
theorem trimZ_ne (p:List Int){d:Int}(h:d≠0):trimZ (p++[d])=p++[d]:=by unfold trimZ; rw[List.reverse_append]; simp[h]
def zeroS:ByteArray:=⟨#[0]⟩
theorem yv {P:Program}{n:Nat}{σ:Nat→Value}{S:World→Prop}{t t' ty:TypeId}{x y:Operand}{k:IntKind}{a b:Int}(hx:ev n σ x = .int k a)(hy:ev n σ y = .int k b)(h:¬a=b):Gives P (ev n σ) S (.binOp .eql t x y t') ty (.bool false):=by
 have:=g_eql (P:=P) (S:=S) (t:=t) (t':=t') (ty:=ty) hx hy;rwa [xX h]at this
theorem zeroS_ne:Value.bool (zeroS.toList == (⟨#[]⟩:ByteArray).toList) = .bool false:=by kernel_rfl
structure TrW where
 k:Nat
 a:Option Addr
 c:Nat
set_option maxHeartbeats 1000000 in
theorem trimByte_c (ad : Option Addr) (cap : Nat) (l : List Int) (w0 : World) (I0 : Imm) (hI : Sat I0 w0) (hl : RBytes I0 (.slice ad l.length cap) l) :
 Ctr prog 126 [.slice ad l.length cap,.int .u8 0] w0 (fun v w'=>∃a c,v = .slice a (trimZ l).length c∧Ext w0 I0 w' I0∧RBytes I0 (.slice a (trimZ l).length c) (trimZ l)):=by
 have hll:=RSl.le hl;simp only[maxLen]at hll;refine fn (n:=24) func126 rfl rfl rfl ?_;have hS:=St.start hI;refine QwR (qq hS (qc _) (QoN (vD (vS (loop (fun(x:TrW) σ w=>okS σ [(0,.slice x.a x.k x.c),(1,.int .u8 0)]∧St [] w0 I0 I0 w []∧x.k≤l.length∧RBytes I0 (.slice x.a x.k x.c) (l.take x.k)∧trimZ (l.take x.k)=trimZ l) (fun x=>x.k) (⟨l.length,ad,cap⟩) ?_ ?_)))))
 ·
  exact⟨⟨rfl,rfl,trivial⟩,hS.sel [],vX _,by dsimp only; rw[xB]; exact hl,by dsimp only; rw[xB]⟩
 ·
  rintro⟨k,a,c⟩σ w_l⟨hs,hS,hk0,hT,htr⟩;dsimp only at hs hS hk0 hT htr ⊢;rw[← qk hs]; clear hs
  refine vD (vD ?_);have hlt:(l.take k).length=k:=by rw[xc]; omega
  obtain⟨d,hd⟩:∃d,l.getD (k - 1) 0=d:=⟨_,rfl⟩
  have hdi:0 < k→l[k - 1]? = some d:=fun h=>by rw[← hd,vQ,vC (show k - 1 < l.length by omega)]; rfl
  have hsp:0 < k→l.take k=l.take (k - 1)++[d]:=fun h=>by have:=qy (hdi h); rwa [show k - 1+1=k by omega]at this
  have hdA:0 < ((l.take k).length:Int)→atI I0 (elA (.slice a k c) (((l.take k).length:Int) - 1).toNat 1 0) [.int .u8 d]:=fun h=>by
   have:=hT.at (show(l.take k)[(((l.take k).length:Int) - 1).toNat]? = some d by rw[show(((l.take k).length:Int) - 1).toNat=k - 1 by omega,List.getElem?_take,vJ (by omega)]; exact hdi (by omega));exact this
  refine reg (qq hS (qb _) (qq hS (qo rfl vH hT rfl) (qq hS (g_gtr rfl rfl) (qq hS (Qmb rfl) (qu rfl rfl hS (fun hg=>(qb _)) ?_)))));intro u9 hu9 hn9;refine qu rfl rfl hS (fun hg=>(qb _)) ?_;intro u10 hu10 hn10;refine qu rfl rfl hS (fun hg=>(qo rfl vH hT (hu10 hg))) ?_;intro u11 hu11 hn11;refine qu rfl rfl hS (fun hg=>(g_sub (hu11 hg) rfl (by omega) (by omega))) ?_;intro u12 hu12 hn12;refine qu rfl rfl hS (fun hg=>(g_ixI vH xd hT (hu9 hg) (hu12 hg) (by have:=Ql hg; omega) (by have:=Ql hg; omega))) ?_;intro u13 hu13 hn13;refine qu rfl rfl hS (fun hg=>(qJ xR (hdA (Ql hg)) (hu13 hg) rfl)) ?_;intro u14 hu14 hn14;refine qu rfl rfl hS (fun hg=>(qs (v:=.int .u8 _) rfl)) ?_;intro u15 hu15 hn15;refine qu rfl rfl hS (fun hg=>(g_eql (hu14 hg) (hu15 hg))) ?_;intro u16 hu16 hn16;refine qq hS (g_and rfl rfl (fun hq=>hu16 hq)) (QoN (qj rfl ?_ ?_))
  ·
   intro hc17;clear hu9 hn9 hu10 hn10 hu11 hn11 hu12 hn12 hu13 hn13 hu14 hn14 hu15 hn15 hu16 hn16;rw[xf,vU,vU]at hc17;obtain⟨hk1,hd0⟩:=hc17;have hk2:0 < k:=by omega
   have hs2:=RSl.slH hT (k - 1) (by rw[xc]; omega);rw[List.take_take,show min (k - 1) k=k - 1 by omega]at hs2;obtain⟨a2,c2,hv2,_⟩:=hs2.len;rw[hv2]at hs2;rw[show(l.take (k - 1)).length=k - 1 by rw[xc]; omega]at hv2 hs2;have hcc:=(RSl.resl2 hT k k (by first | omega | (rw[xc]; omega)) (by first | omega | (rw[xc]; omega))).2.1;have htr2:trimZ (l.take (k - 1))=trimZ l:=by
    rw[← htr,hsp hk2,hd0,trimZ_zero]
   refine vL (vK (vS (reg (qq hS (qb _) (qq hS (qb _) (qq hS (qo rfl vH hT rfl) (qq hS (g_sub rfl rfl (by omega) (by omega)) (qq hS (jB (kv (h0:=k - 1) vH xd rfl rfl (by omega) (by omega) (by omega)) hv2) (qq hS (qc _) ?_)))))))));exact⟨⟨k - 1,a2,c2⟩,_,rfl,⟨⟨rfl,rfl,trivial⟩,hS.sel [],by dsimp only; omega,hs2,htr2⟩,by dsimp only; omega⟩
  ·
   intro hc17;clear hu9 hn9 hu10 hn10 hu11 hn11 hu12 hn12 hu13 hn13 hu14 hn14 hu15 hn15 hu16 hn16;have hfin:trimZ l=l.take k:=by
    rw[← htr];rcases Nat.eq_zero_or_pos k with h | h
    · subst h; rfl
    · rw [hsp h]
      exact trimZ_ne _ (fun h0=>by rw[Bool.and_eq_false_iff,vW,vW]at hc17; omega)
   refine xm (xh (xh (ua (vK (QwR (qq hS (qb _) (qq hS (qc _) (QoN (vM (ret1 results126 (qh rfl) ?_))))))))));have hlk:(trimZ l).length=k:=by rw[hfin,xc]; omega
   rw[hlk,hfin];exact⟨a,c,rfl,hS.nil,hT⟩
set_option maxHeartbeats 1000000 in
theorem trim_c (ad : Option Addr) (cap n : Nat) (l : List Int) (w0 : World) (I0 : Imm) (hI : Sat I0 w0) (hl : RBytes I0 (.slice ad n cap) l) (hn : n = l.length) (h1 : 1 ≤ l.length) :
 Ctr prog 96 [.slice ad n cap,.string zeroS] w0 (fun v w'=>∃a c,v = .slice a (trimZ l).length c∧Ext w0 I0 w' I0∧RBytes I0 (.slice a (trimZ l).length c) (trimZ l)):=by
 subst hn;refine fn (n:=38) func96 rfl rfl rfl ?_;have hS:=St.start hI;refine QwR (qq hS (qc _) (QoN (vD (QwR (qq hS (qb _) (qq hS (qo rfl vH hl rfl) (qq hS (yv rfl rfl (by omega)) (qq hS (Qmb rfl) (qqs rfl rfl hS (qb _) (qqs rfl rfl hS (jB (g_eqlStr rfl rfl) zeroS_ne) (qq hS (g_or rfl rfl (fun _=>rfl)) (QoN (jf (rfl) (vL (vK (vD (QwR (qq hS (qb _) (qq hS (g_lenStr rfl Qf rfl) ?_)))))))))))))))))));refine qq hS (g_eql rfl rfl) (qq hS (Qmb rfl) (qqs rfl rfl hS (qb _) (qqs rfl rfl hS (g_indexStr (b:=0) Qf rfl rfl (by decide) (by decide) rfl) (qqs rfl rfl hS (g_lss rfl rfl) (qq hS (g_and rfl rfl (fun _=>rfl)) (QoN (yf (rfl) (QwR (qq hS (qb _) (qq hS (qb _) (qq hS (g_indexStr (b:=0) Qf rfl rfl (by decide) (by decide) rfl) ?_)))))))))));refine qe (qg call126 rfl (trimByte_c _ _ l _ _ hS.imm hl)) ?_;rintro _ w_1⟨a26,c26,rfl,hE,h26⟩;replace hS:=hS.callE hE;refine qq hS (qc _) (QoN (vM (xF (ret1 results96 (qh rfl) ?_))));exact⟨a26,c26,rfl,hS.nil,h26⟩
end Go.Proofs.YtgkgihnpjgbmhaaGreatDoor
