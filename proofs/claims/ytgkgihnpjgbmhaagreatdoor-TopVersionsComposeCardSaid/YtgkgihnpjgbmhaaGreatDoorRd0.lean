/- Package pack: what the deferred call of read does. Conditions: none. -/
import Derived.Test.YtgkgihnpjgbmhaaGreatDoorOp14
import Derived.Test.YtgkgihnpjgbmhaaGreatDoorKCore3
set_option linter.unusedSimpArgs false
set_option linter.unusedVariables false
namespace Go.Proofs.YtgkgihnpjgbmhaaGreatDoor
open Tryz
open Go Go.RowKit Go.Inl
theorem neq_nil (W:World):(binOp .neq 20 .nilIface .nilIface).run prog W = .ok (.bool false) W:=by kernel_rfl
theorem g_neqI {n : Nat} {σ : Nat → Value} {S : World → Prop} {t' ty : TypeId} {x y : Operand} {u : Value} {b : Bool} (hx : ev n σ x = u) (hy : ev n σ y = .nilIface) (h : ∀ W, (binOp .neq 20 u .nilIface).run prog W = .ok (.bool b) W) (hq : ∀ W, (eqGuard .neq 20 x y u .nilIface).run prog W = .ok () W) :
 Gives prog (ev n σ) S (.binOp .neq 20 x y t') ty (.bool b):=fun w _=>by
 have h1:=h w;have h2:=hq w;simp only[execOp,hx,hy,Sem.run_bind,h1,h2,Result.andThen_ok];simp[h1]
theorem readD_idle (b:Nat)(w:World):CallsDIn (fen none) 0 prog 97 [.pointer (some ⟨b,0,none⟩)].toArray .returning w (fun e u w'=>(∃v,e = .returned v)∧u = .returning∧w'=w):=by
 refine fnS (n:=15) func97 rfl rfl rfl fun c₀ cs hu=>(wpSIn_seq (rec_reg (v:=.nilIface) (cs':=c₀::cs) rfl (.inr ⟨by simp[recoverD,hu],rfl,rfl⟩) (wpSIn_of_wpIn rfl (QwR (qp (qs rfl) (qp (g_neqI rfl rfl neq_nil (fun W=>rfl)) (qB (vK (jf rfl (vL (⟨rfl,.returning,?_,.tuple #[],?_,⟨_,rfl⟩,rfl,rfl⟩)))))))))))
 · cases c₀; simp only at hu; subst hu; rfl
 · simp[results,results97]
end Go.Proofs.YtgkgihnpjgbmhaaGreatDoor
