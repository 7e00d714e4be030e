/- inlayref29: All, Path, Reach, Ints: what they compute. Conditions: a valid graph. -/
import Derived.Test.YtcajgkfgjpfmaaaGreatRg29
set_option linter.unusedSimpArgs false
set_option linter.unusedVariables false
namespace Go.Proofs.YtcajgkfgjpfmaaaGreat
open Tryz
open Go Go.RowKit Go.Inl
theorem vB (ad bd : Option Addr) (cap capb : Nat) (a b : List Int) (w0 : World) (I0 : Imm) (hI : Sat I0 w0) (ha : RFl I0 1 intC (.slice ad a.length cap) a) (hb : RFl I0 1 intC (.slice bd b.length capb) b) :
 Ctr prog 35 [.slice ad a.length cap,.slice bd b.length capb] w0 (fun v w'=>v = .bool (decide (a=b))∧Ext w0 I0 w' I0):=by
 have hle:=RSl.le ha;simp only[maxLen]at hle;refine fn (n:=26) func35 rfl rfl rfl ?_;have hS:=St.start hI;refine QwR (qq hS (Qab rfl) (QoN (xL (QwR (qq hS (qk _) (qq hS (qz rfl ua ha rfl) (qq hS (qk _) (qq hS (qz rfl ua hb rfl) (qq hS (g_neq rfl rfl) (QoN (qo rfl ?_ ?_)))))))))))
 ·
  intro hc10;simp only[xT,xM,xS,xO]at hc10;have e:decide (a=b)=false:=by rw[xM]; intro h; subst h; omega
  refine QwR (qq hS (Qab rfl) (QoN (ub (uw (ret1 results35 (qr (v:=.bool _) rfl) ?_)))));exact⟨by rw[e],hS.nil⟩
 ·
  intro hc10;simp only[xT,xM,xS,xO]at hc10;have hlen:a.length=b.length:=by omega
  refine xZ (xN (xL (QwR (qq hS (Qai rfl) (QoN (uk (loop (fun(k:Nat) σ w=>okS σ [(0,.slice ad a.length cap),(1,.slice bd b.length capb),(5,.int .i64 k)]∧St [] w0 I0 I0 w []∧k≤a.length∧a.take k=b.take k) (fun k=>a.length - k) (0) ?_ ?_)))))))
  ·
   exact⟨⟨rfl,rfl,rfl,trivial⟩,hS.sel [],by omega,rfl⟩
  ·
   rintro k σ w_l⟨hs,hS,hk0,heq⟩;rw[← qx hs]; clear hs
   refine xL (QwR (qq hS (Qmi rfl) (qq hS (qk _) (qq hS (qz rfl ua ha rfl) (qq hS (g_lss rfl rfl) (QoN (qo rfl ?_ ?_)))))))
   ·
    intro hc14
    try simp only[zA,zO,zN,zI,zF,zM,zT,zU]at hc14
    obtain⟨x,hxi⟩:∃x,a[k]? = some x:=⟨_,xW (by omega)⟩
    obtain⟨y,hyi⟩:∃y,b[k]? = some y:=⟨_,xW (by omega)⟩
    have hxA:=ha.at hxi;have hyA:=hb.at hyi;refine xZ (xN (xL (uk (xL (draw (.cons 0 .pure (.cons 1 .pure (.cons 2 .pure (.cons 3 .held (.cons 4 .pure (.cons 5 .pure (.cons 6 .pure (.cons 7 .held (.cons 8 .pure .nil))))))))) mixed (by kernel_rfl) hS ?_)))));intro w_1 hS;refine sp rfl (qk _) (sp rfl (Qmi rfl) (sp rfl (g_ixI ua xX ha rfl rfl (by omega) (by omega)) (sh rfl (qC uj hxA rfl rfl) (sp rfl (qk _) (sp rfl (Qmi rfl) (sp rfl (g_ixI ua xX hb rfl rfl (by omega) (by omega)) (sh rfl (qC uj hyA rfl rfl) (sp rfl (g_neq rfl rfl) (sn (xN (qo rfl ?_ ?_)))))))))))
    ·
     intro hc25
     try simp only[zA,zO,zN,zI,zF,zM,zT,zU]at hc25
     have e:=dec_ne hxi hyi hc25;refine QwR (qq hS (Qab rfl) (QoN (ub (Qs (uw (uw (Qs (uw (ret1 results35 (qr (v:=.bool _) rfl) ?_)))))))));exact⟨by rw[e],hS.nil⟩
    ·
     intro hc25
     try simp only[zA,zO,zN,zI,zF,zM,zT,zU]at hc25
     have heq2:=take_eq hxi hyi heq hc25;refine xZ (Qh (xN (reg (qq hS (Qmi rfl) (qq hS (g_add rfl rfl (by omega) (by omega)) (qq hS (Qai rfl) ?_))))));exact⟨k+1,_,rfl,⟨⟨rfl,rfl,rfl,trivial⟩,hS.sel [],by omega,heq2⟩,by omega⟩
   ·
    intro hc14
    try simp only[zA,zO,zN,zI,zF,zM,zT,zU]at hc14
    have hk:k=a.length:=by omega
    subst hk;have e:=vG hlen heq;refine uD (uA (uA (Qw (xN (QwR (qq hS (Qab rfl) (QoN (ub (ret1 results35 (qr (v:=.bool _) rfl) ?_)))))))));exact⟨by rw[e],hS.nil⟩
end Go.Proofs.YtcajgkfgjpfmaaaGreat
