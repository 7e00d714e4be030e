/- Functions of package slices at frozen slices: Equal, BinarySearch, Chunk; a copy of words. Conditions: as said. -/
import Derived.Test.YtcajgkfgjpfmaaaGreatWords2
import Derived.Test.YtcajgkfgjpfmaaaGreatKSmall
import Derived.Test.YtcajgkfgjpfmaaaGreatPats
import Derived.Test.YtcajgkfgjpfmaaaGreatKCore3
import Derived.Test.YtcajgkfgjpfmaaaGreatKSpec
set_option linter.unusedSimpArgs false
set_option linter.unusedVariables false
namespace Go.Proofs.YtcajgkfgjpfmaaaGreat
open Tryz
open Go Go.RowKit Go.Inl
theorem take_eq {α:Type}{a b:List α}{k:Nat}{x y:α}(hx:a[k]? = some x)(hy:b[k]? = some y)(h:a.take k=b.take k)(e:x=y):a.take (k+1)=b.take (k+1):=by
 rw[qL hx,qL hy,h,e]
theorem dec_ne {α:Type}[DecidableEq α]{a b:List α}{k:Nat}{x y:α}(hx:a[k]? = some x)(hy:b[k]? = some y)(e:x≠y):decide (a=b)=false:=by
 rw[xM]; intro h; subst h; rw[hx]at hy; exact e (Option.some.inj hy)
theorem vG {α:Type}[DecidableEq α]{a b:List α}(hl:a.length=b.length)(h:a.take a.length=b.take a.length):decide (a=b)=true:=by
 rw[decide_eq_true_iff]; rw[Qq,hl,Qq]at h; exact h
structure BsW where
 lo:Nat
 hi:Nat
set_option maxHeartbeats 1000000 in
theorem eqI_c (ad bd : Option Addr) (cap capb : Nat) (a b : List Int) (w0 : World) (I0 : Imm) (hI : Sat I0 w0) (ha : RFl I0 1 intC (.slice ad a.length cap) a) (hb : RFl I0 1 intC (.slice bd b.length capb) b) :
 Ctr prog 139 [.slice ad a.length cap,.slice bd b.length capb] w0 (fun v w'=>v = .bool (decide (a=b))∧Ext w0 I0 w' I0):=by
 have hle:=RSl.le ha;simp only[maxLen]at hle;refine fn (n:=26) func139 rfl rfl rfl ?_;have hS:=St.start hI;refine QwR (qq hS (Qab rfl) (QoN (xL (QwR (qq hS (qk _) (qq hS (qz rfl ua ha rfl) (qq hS (qk _) (qq hS (qz rfl ua hb rfl) (qq hS (g_neq rfl rfl) (QoN (qo rfl ?_ ?_)))))))))))
 ·
  intro hc10;simp only[xT,xM,xS,xO]at hc10;have e:decide (a=b)=false:=by rw[xM]; intro h; subst h; omega
  refine QwR (qq hS (Qab rfl) (QoN (ub (uw (ret1 results139 (qr (v:=.bool _) rfl) ?_)))));exact⟨by rw[e],hS.nil⟩
 ·
  intro hc10;simp only[xT,xM,xS,xO]at hc10;have hlen:a.length=b.length:=by omega
  refine xZ (xN (xL (QwR (qq hS (qk _) (qq hS (qz rfl ua ha rfl) (qq hS (Qmi rfl) (QoN (uk (loop (fun(k:Nat) σ w=>okS σ [(0,.slice ad a.length cap),(1,.slice bd b.length capb),(12,.int .i64 a.length),(13,.int .i64 k)]∧St [] w0 I0 I0 w []∧k≤a.length∧a.take k=b.take k) (fun k=>a.length - k) (0) ?_ ?_)))))))))
  ·
   exact⟨⟨rfl,rfl,rfl,rfl,trivial⟩,hS.sel [],by omega,rfl⟩
  ·
   rintro k σ w_l⟨hs,hS,hk0,heq⟩;rw[← qx hs]; clear hs
   refine QwR (qq hS (g_lss rfl rfl) (QoN (xL (qo rfl ?_ ?_))))
   ·
    intro hc14
    try simp only[zA,zO,zN,zI,zF,zM,zT,zU]at hc14
    obtain⟨x,hxi⟩:∃x,a[k]? = some x:=⟨_,xW (by omega)⟩
    obtain⟨y,hyi⟩:∃y,b[k]? = some y:=⟨_,xW (by omega)⟩
    have hxA:=ha.at hxi;have hyA:=hb.at hyi;refine xZ (xN (xL (uk (QwR (qq hS (Qmi rfl) (qq hS (Qai rfl) (QoN (xL (draw (.cons 0 .pure (.cons 1 .pure (.cons 2 .pure (.cons 3 .held (.cons 4 .pure (.cons 5 .pure (.cons 6 .pure (.cons 7 .held (.cons 8 .pure .nil))))))))) mixed (by kernel_rfl) hS ?_)))))))));intro w_1 hS;refine sp rfl (qk _) (sp rfl (Qmi rfl) (sp rfl (g_ixI ua xX ha rfl rfl (by omega) (by omega)) (sh rfl (qC uj hxA rfl rfl) (sp rfl (qk _) (sp rfl (Qmi rfl) (sp rfl (g_ixI ua xX hb rfl rfl (by omega) (by omega)) (sh rfl (qC uj hyA rfl rfl) (sp rfl (g_neq rfl rfl) (sn (xN (qo rfl ?_ ?_)))))))))))
    ·
     intro hc24
     try simp only[zA,zO,zN,zI,zF,zM,zT,zU]at hc24
     have e:=dec_ne hxi hyi hc24;refine QwR (qq hS (Qab rfl) (QoN (ub (Qs (uw (uw (Qs (uw (ret1 results139 (qr (v:=.bool _) rfl) ?_)))))))));exact⟨by rw[e],hS.nil⟩
    ·
     intro hc24
     try simp only[zA,zO,zN,zI,zF,zM,zT,zU]at hc24
     have heq2:=take_eq hxi hyi heq hc24;refine xZ (Qh (xN (reg (qq hS (g_add rfl rfl (by omega) (by omega)) (qq hS (Qmi rfl) ?_)))));exact⟨k+1,_,rfl,⟨⟨rfl,rfl,rfl,rfl,trivial⟩,hS.sel [],by omega,heq2⟩,by omega⟩
   ·
    intro hc14
    try simp only[zA,zO,zN,zI,zF,zM,zT,zU]at hc14
    have hk:k=a.length:=by omega
    subst hk;have e:=vG hlen heq;refine uD (uA (uA (Qw (xN (QwR (qq hS (Qab rfl) (QoN (ub (ret1 results139 (qr (v:=.bool _) rfl) ?_)))))))));exact⟨by rw[e],hS.nil⟩
theorem cnan_c (n:Int)(w0:World)(I0:Imm)(hI:Sat I0 w0):Ctr prog 144 [.int .i64 n] w0 (fun v w'=>v = .bool false∧Ext w0 I0 w' I0):=by
 refine fn (n:=6) func144 rfl rfl rfl ?_;have hS:=St.start hI;refine QwR (qq hS (Qab rfl) (QoR (qq hS (Qmi rfl) (qq hS (Qmi rfl) (qq hS (g_neqF rfl rfl rfl) (qq hS (Qab rfl) (QoN (ub (ret1 results144 (qr (v:=.bool _) rfl) ?_)))))))));exact⟨rfl,hS.nil⟩
theorem snan_c (n:Int)(w0:World)(I0:Imm)(hI:Sat I0 w0):Ctr prog 117 [.int .i64 n] w0 (fun v w'=>v = .bool false∧Ext w0 I0 w' I0):=by
 refine fn (n:=6) func117 rfl rfl rfl ?_;have hS:=St.start hI;refine QwR (qq hS (Qab rfl) (QoR (qq hS (Qmi rfl) (qq hS (Qmi rfl) (qq hS (g_neqF rfl rfl rfl) (qq hS (Qab rfl) (QoN (ub (ret1 results117 (qr (v:=.bool _) rfl) ?_)))))))));exact⟨rfl,hS.nil⟩
theorem cless_c (a b:Int)(w0:World)(I0:Imm)(hI:Sat I0 w0):Ctr prog 116 [.int .i64 a,.int .i64 b] w0 (fun v w'=>v = .bool (decide (a < b))∧Ext w0 I0 w' I0):=by
 refine fn (n:=17) func116 rfl rfl rfl ?_;have hS:=St.start hI;refine QwR (qq hS (Qab rfl) (QoR (qq hS (Qmi rfl) (qe (ql call144 rfl (cnan_c a _ I0 hS.imm)) ?_))));rintro _ w_1⟨rfl,hE⟩;replace hS:=hS.callE hE;refine qq hS (Qmb rfl) (qsf rfl rfl rfl (qsf rfl rfl rfl (qsf rfl rfl rfl (qq hS (g_and (b:=false) rfl rfl (fun h=>(by cases h))) (qq hS (Qmb rfl) (qqs rfl rfl hS (Qmi rfl) (qqs rfl rfl hS (Qmi rfl) (qqs rfl rfl hS (g_lss rfl rfl) (qq hS (g_or rfl rfl (fun _=>rfl)) (qq hS (Qab rfl) (QoN (ub ?_))))))))))));refine ret1 results116 (qr (v:=.bool _) rfl) ?_;exact⟨rfl,hS.nil⟩
end Go.Proofs.YtcajgkfgjpfmaaaGreat
