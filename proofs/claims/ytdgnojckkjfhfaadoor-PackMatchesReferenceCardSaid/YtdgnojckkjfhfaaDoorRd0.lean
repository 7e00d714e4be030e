/- Package pack: what the deferred call of read does. Conditions: none. -/
import Derived.Test.YtdgnojckkjfhfaaDoorOp14
import Derived.Test.YtdgnojckkjfhfaaDoorKCore3
namespace Go.Proofs.YtdgnojckkjfhfaaDoor
open Go Go.RowKit Go.Inl
set_option linter.unusedSimpArgs false
set_option linter.unusedVariables false
theorem assert_short (W : World) : (Instr.typeAssert (.iface 103 (.agg #[])) 20 103 true).run Tryd.prog W = .ok (.tuple #[.agg #[], .bool true]) W := by kernel_rfl
theorem neq_nil (W : World) : (binOp .neq 20 .nilIface .nilIface).run Tryd.prog W = .ok (.bool false) W := by kernel_rfl
theorem neq_short (W : World) : (binOp .neq 20 (.iface 103 (.agg #[])) .nilIface).run Tryd.prog W = .ok (.bool true) W := by kernel_rfl
theorem zero_short (W : World) : (zeroValue 103).run Tryd.prog W = .ok (.agg #[]) W := by kernel_rfl
theorem g_neqI {n : Nat} {σ : Nat → Value} {S : World → Prop} {t' ty : TypeId} {x y : Operand} {u : Value} {b : Bool} (hx : ev n σ x = u) (hy : ev n σ y = .nilIface) (h : ∀ W, (binOp .neq 20 u .nilIface).run Tryd.prog W = .ok (.bool b) W) (hq : ∀ W, (eqGuard .neq 20 x y u .nilIface).run Tryd.prog W = .ok () W) :
    Gives Tryd.prog (ev n σ) S (.binOp .neq 20 x y t') ty (.bool b) := fun w _ => by
  have h1 := h w
  have h2 := hq w
  simp only [execOp, hx, hy, Sem.run_bind, h1, h2, Result.andThen_ok]
  simp [h1]
theorem readD_idle (b : Nat) (w : World) : CallsDIn (fen none) 0 Tryd.prog 46 [.pointer (some ⟨b, 0, none⟩)].toArray .returning w (fun e u w' => (∃ v, e = .returned v) ∧ u = .returning ∧ w' = w) := by
  refine fnS (n := 15) Tryd.func46 rfl rfl rfl fun c₀ cs hu => ?_
  refine wpSIn_seq ?_
  refine rec_reg (v := .nilIface) (cs' := c₀ :: cs) rfl (.inr ⟨by simp [recoverD, hu], rfl, rfl⟩) ?_
  refine wpSIn_of_wpIn rfl ?_
  refine wpIn_seq ?_
  refine reg ?_
  refine qp (g_movev rfl) ?_
  refine qp (g_neqI rfl rfl neq_nil (fun W => rfl)) ?_
  refine ol_nil ?_
  refine thenN ?_
  refine cond_f rfl ?_
  refine wpIn_skip ?_
  refine ⟨rfl, .returning, ?_, .tuple #[], ?_, ⟨_, rfl⟩, rfl, rfl⟩
  · cases c₀; simp only at hu; subst hu; rfl
  · simp [results, Tryd.results46]
def shortV : Value := .iface 103 (.agg #[])
theorem g_assertS {n : Nat} {σ : Nat → Value} {S : World → Prop} {ty : TypeId} {x : Operand} (hx : ev n σ x = .iface 103 (.agg #[])) : Gives Tryd.prog (ev n σ) S (.typeAssert x 20 103 true) ty (.tuple #[.agg #[], .bool true]) := fun w _ => by
  have h1 := assert_short w
  simp only [execOp, hx, Sem.run_bind, h1, Result.andThen_ok]
  rfl
theorem size_short (w : World) : (sizeOf 103).run Tryd.prog w = .ok 0 w := by kernel_rfl
theorem readD_pan {X : List Nat} {w0 w : World} {I0 I : Imm} {L : List Res} {k b : Nat} {T : TypeId} {x : Value} (hS : St X w0 I0 I w L) (hL : L[k]? = some (.cel b T [x])) : CallsDIn (fen none) 0 Tryd.prog 46 [.pointer (some ⟨b, 0, none⟩)].toArray (.panicking [{ v := shortV, recovered := false }]) w (fun e u w' => (∃ v, e = .returned v) ∧ settle u = .returning ∧ St X w0 I0 I w' (L.set k (.cel b T [.bool false]))) := by
  refine fnS (n := 15) Tryd.func46 rfl rfl rfl fun c₀ cs hu => ?_
  refine wpSIn_seq ?_
  refine rec_reg (v := shortV) (cs' := { c₀ with mode := .panicking [{ v := shortV, recovered := true }] } :: cs) rfl (.inl (by simp [recoverD, hu])) ?_
  refine wpSIn_of_wpIn rfl ?_
  refine wpIn_seq ?_
  refine reg ?_
  refine qq hS (g_movev rfl) ?_
  refine qq hS (g_neqI rfl rfl neq_short (fun W => rfl)) ?_
  refine ol_nil ?_
  refine thenN ?_
  refine cond_t rfl ?_
  refine wpIn_seq ?_
  refine wpIn_seq ?_
  refine reg ?_
  refine qq hS (g_movev rfl) ?_
  refine qq hS (g_assertS rfl) ?_
  refine qq hS (g_movev rfl) ?_
  refine qq hS (g_extract rfl rfl) ?_
  refine qq hS (g_extract rfl rfl) ?_
  refine qe (d_alloc (cs := []) hS zero_short rfl) ?_
  clear hS
  rintro _ w1 ⟨b2, rfl, hS⟩
  refine qe (d_store 0 (vs := []) (cs' := []) hS size_short rfl rfl rfl rfl rfl rfl (Nat.le_refl _) rfl) ?_
  clear hS
  rintro _ w2 ⟨rfl, hS⟩
  refine qq hS (g_assignv (v := .bool true) rfl) ?_
  refine ol_nil ?_
  refine thenN ?_
  refine wpIn_seq ?_
  refine reg ?_
  refine qq hS (g_movev (v := .bool true) rfl) ?_
  refine qq hS (g_not rfl) ?_
  refine ol_nil ?_
  refine thenN ?_
  refine cond_f rfl ?_
  refine wpIn_skip ?_
  refine thenN ?_
  refine reg ?_
  refine qe (d_store (k + 1) (vs := [.bool false]) (cs' := [.bool false]) hS Tryd.sizeOf4 (by rw [List.getElem?_set_ne (by omega)]; exact hL) rfl rfl rfl rfl rfl (Nat.le_refl _) rfl) ?_
  clear hS
  rintro _ w3 ⟨rfl, hS⟩
  refine ol_nil ?_
  refine ⟨rfl, .panicking [{ v := shortV, recovered := true }], rfl, .tuple #[], ?_, ⟨_, rfl⟩, rfl, ?_⟩
  · simp [results, Tryd.results46]
  · exact hS.sub (List.sublist_cons_self _ _)

end Go.Proofs.YtdgnojckkjfhfaaDoor

