/- inlayref08.Op and Cut, patch.Cost: what they compute. Conditions: numbers within bounds. inlaylaw08.NormalCuts: its function answers true; what Cut makes is right and has the same symbols. Conditions: arguments are bytes. inlaylaw08.NormalCuts: its function answers true. Conditions: arguments are bytes. -/
import Derived.Test.YtgkgihnpjgbmhaaGreatDoorKLaw
set_option linter.unusedSimpArgs false
set_option linter.unusedVariables false
namespace Go.Proofs.YtgkgihnpjgbmhaaGreatDoor
open Tryz
open Go Go.RowKit Go.Inl
def sumP : List OpL → Int
 | []=>0
 | x::l=>costP x+sumP l
theorem sumP_eq {n : Int} : ∀ (l : List OpL), OpsOk n l → sumP l = sumC l
 | [],_=>rfl
 | x::l,h=>by
   unfold sumP sumC;rw[sumP_eq l fun y hy=>h y (by simp[hy]),opc_costP (h x (by simp)).2]
theorem m_copying_cost (v : Value) (w : World) : (method (prog.types.size + Made.depth) 157 v "inlay/patch.cost").run prog w = .ok (174, v) w := by kernel_rfl
theorem m_differing_cost (v : Value) (w : World) : (method (prog.types.size + Made.depth) 158 v "inlay/patch.cost").run prog w = .ok (178, v) w := by kernel_rfl
theorem m_running_cost (v : Value) (w : World) : (method (prog.types.size + Made.depth) 159 v "inlay/patch.cost").run prog w = .ok (181, v) w := by kernel_rfl
theorem m_literal_cost (v : Value) (w : World) : (method (prog.types.size + Made.depth) 160 v "inlay/patch.cost").run prog w = .ok (184, v) w := by kernel_rfl
theorem m_unknownOne_cost (v : Value) (w : World) : (method (prog.types.size + Made.depth) 162 v "inlay/patch.cost").run prog w = .ok (187, v) w := by kernel_rfl
theorem does_cost {n : Nat} {σ : Nat → Value} {ty : TypeId} {aT : Array TypeId} {r : Operand} {w : World} {I : Imm} (x : OpL) (ad : Option Addr) (m cap : Nat) (hI : Sat I w) (hd : RBytes I (.sg ad m cap) x.data) (hx : x.wf) (hr : ev n σ r = ofV x (opV x ad m cap)) :
 Does prog (ev n σ) (.call { callee := .invoke r "inlay/patch.cost", args := #[], argTypes := aT }) ty w (fun v w' => v = .ig (costP x) ∧ Ext w I w' I) := by
 unfold ofV at hr;unfold costP;by_cases h1:x.kind=1
 · rw [xS h1] at hr ⊢
   exact jc (l:=[]) hr (m_copying_cost _) call174 rfl (copying_cost x ad m cap w I hI hd hx)
 rw[xP h1]at hr ⊢;by_cases h2:x.kind=2
 · rw [xS h2] at hr ⊢
   exact jc (l:=[]) hr (m_differing_cost _) call178 rfl (differing_cost x ad m cap w I hI hd hx)
 rw[xP h2]at hr ⊢;by_cases h3:x.kind=3
 · rw [xS h3] at hr ⊢
   exact jc (l:=[]) hr (m_running_cost _) call181 rfl (running_cost x ad m cap w I hI hd hx)
 rw[xP h3]at hr ⊢;by_cases h4:x.kind=4
 · rw [xS h4] at hr ⊢
   exact jc (l:=[]) hr (m_literal_cost _) call184 rfl (literal_cost x ad m cap w I hI hd hx)
 rw[xP h4]at hr ⊢;exact jc (l:=[]) hr (m_unknownOne_cost _) call187 rfl (unknown_cost w I hI)
theorem patchCost_c (p : PatL) (ad : Option Addr) (m cap : Nat) (w0 : World) (I0 : Imm) (hI : Sat I0 w0) (hops : ROps I0 (.sg ad m cap) p.ops) (hp : p.wf) (hb : ∀ x ∈ p.ops, 0 ≤ x.len ∧ x.len ≤ 65536) :
 Ctr prog 13 [.agg #[.bool p.lifted,.ig p.in_,.ig p.out,.sg ad m cap]] w0 (fun v w'=>v = .ig (sumP p.ops)∧Ext w0 I0 w' I0):=by
 have hlm:=hp.len;refine fn (n:=20) func13 rfl rfl rfl ?_;have Z:=St.start hI;refine QwR (qe (d_box (cs:=[.bool _,.ig _,.ig _,.sg _ _ _]) Z rfl) ?_);clear Z;rintro _ w_1⟨b1,rfl,Z⟩;refine qq Z (Qai rfl) (QoR (qq Z (Qai rfl) (QoN (xJ (QwR (qq Z (qa (o':=3) uk rfl Qm rfl rfl rfl) (qq Z (qc 0 Jo rfl rfl rfl) (qq Z (qo rfl Qn hops rfl) (qq Z (Qmi rfl) (QoN (xU (loop (fun(x:Nat×Int) σ w=>okS σ [(3,.ig x.2),(7,.sg ad m cap),(8,.ig p.ops.length),(9,.ig x.1)]∧St [] w0 I0 I0 w []∧x.1≤p.ops.length∧0≤x.2∧x.2≤70000*(x.1:Int)∧x.2+sumP (p.ops.drop x.1)=sumP p.ops) (fun x=>p.ops.length - x.1) ((0,0)) ?_ ?_))))))))))))
 ·
  exact⟨⟨rfl,rfl,rfl,rfl,trivial⟩,Z.sel [false],by simp,by decide,by decide,by simp⟩
 ·
  rintro⟨k,s⟩σ w_l⟨hs,Z,hk0,hl0,hl1,hgo⟩;dsimp only at hs Z hk0 hl0 hl1 hgo ⊢;rw[← qj hs]; clear hs
  refine QwR (qq Z (g_lss rfl rfl) (QoN (xJ (qh rfl ?_ ?_))))
  ·
   intro hc10
   try simp only[zA,zO,zN,zI,zF,zM,zT,zU]at hc10
   obtain⟨x,hx⟩:∃x,p.ops[k]? = some x:=⟨_,xI (by omega)⟩
   have hxm:=xR hx;obtain⟨cs,hcl,hoA,hro⟩:=RSl.at hops hx;obtain⟨adx,mx,capx,rfl,hd⟩:=hro;have hxl:=hb x hxm;have hxc:0≤costP x∧costP x≤70000:=by unfold costP; (repeat' split) <;> omega
   rw[zx hx,sumP]at hgo;refine xM (xL (xJ (xU (QwR (qq Z (g_ixI Qn uz hops rfl rfl (by omega) (by omega)) (qq Z (g_ldE (us:=[.ig _,.ig _,.ig _,.bg _,.sg _ _ _]) uz Qo hoA rfl rfl rfl) (qe (qr (cs:=[.ig _,.ig _,.ig _,.bg _,.sg _ _ _]) Z QE rfl) ?_)))))));clear Z;rintro _ w_2⟨b5,rfl,Z⟩;refine qe (qf 0 Z uz rfl rfl rfl (vs:=[.ig _,.ig _,.ig _,.bg _,.sg _ _ _]) rfl rfl rfl (xH rfl) (cs':=[_,_,_,_,_]) rfl) ?_;clear Z;rintro _ w_3⟨rfl,Z⟩;refine QoN (reg (qq Z (Qmi rfl) (qq Z (g_ldO 0 (vs:=[.ig _,.ig _,.ig _,.bg _,.sg _ _ _]) uz Qo rfl rfl rfl rfl) (qe (qi call37 rfl (of_c x adx mx capx _ I0 Z.imm hd (hp.ops x hxm))) ?_))));rintro _ w_4⟨rfl,hE⟩;replace Z:=Z.callE hE;refine qe (does_cost x adx mx capx Z.imm hd (hp.ops x hxm) rfl) ?_;rintro _ w_5⟨rfl,hE⟩;replace Z:=Z.callE hE;refine qq Z (g_add rfl rfl (by omega) (by omega)) (qq Z (Qai rfl) (qy (uM (xL (reg (qq Z (g_add rfl rfl (by omega) (by omega)) (qq Z (Qmi rfl) ?_)))))));exact⟨(k+1,s+costP x),_,rfl,⟨⟨rfl,rfl,rfl,rfl,trivial⟩,Z.sel [false],by dsimp only; omega,by dsimp only; omega,by dsimp only; omega,by dsimp only; omega⟩,by dsimp only; omega⟩
  ·
   intro hc10
   try simp only[zA,zO,zN,zI,zF,zM,zT,zU]at hc10
   have hk:k=p.ops.length:=by omega
   subst hk;rw[List.drop_length,sumP,Int.add_zero]at hgo;refine ur (um (um (Qi (xL (QwR (qq Z (Qmi rfl) (qq Z (Qai rfl) (QoN (xO (ret1 results13 (qg (v:=.ig _) rfl) ?_))))))))));rw[← hgo]; exact⟨rfl,Z.nil⟩
end Go.Proofs.YtgkgihnpjgbmhaaGreatDoor
namespace Go.Proofs.YtgkgihnpjgbmhaaGreatDoor
open Tryz
open Go Go.RowKit Go.Inl
theorem patchCost_ok (p : PatL) (ad : Option Addr) (m cap : Nat) (w0 : World) (I0 : Imm) (hI : Sat I0 w0) (hops : ROps I0 (.sg ad m cap) p.ops) (hp : p.wf) (hok : (checkP p).2 = 0) :
 Ctr prog 13 [.agg #[.bool p.lifted,.ig p.in_,.ig p.out,.sg ad m cap]] w0 (fun v w'=>v = .ig (sumC p.ops)∧Ext w0 I0 w' I0):=by
 obtain⟨h1,h2,h3,h4,h5,h6,h7⟩:=ja hok;have hb:=ops_len_bd _ h1;have h:=patchCost_c p ad m cap w0 I0 hI hops hp fun x hx=>by have:=hb x hx; omega
 rw[sumP_eq _ h1]at h;exact h
end Go.Proofs.YtgkgihnpjgbmhaaGreatDoor
namespace Go.Proofs.YtgkgihnpjgbmhaaGreatDoor
open Tryz
open Go Go.RowKit Go.Inl
end Go.Proofs.YtgkgihnpjgbmhaaGreatDoor
