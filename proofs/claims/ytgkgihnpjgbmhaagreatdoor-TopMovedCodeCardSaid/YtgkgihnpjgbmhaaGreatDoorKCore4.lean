/- Fields of elements of an own row of lists of cells: loads, stores; such a row made. Conditions: none. slices.Insert of one int into an own slice, by the library's contracts, as hypotheses. Conditions: as said. append to a clipped slice that stands still; clear of the tail of an own slice; a slice clipped. Conditions: as said. -/
import Derived.Test.YtgkgihnpjgbmhaaGreatDoorKCore3
import Derived.Test.YtgkgihnpjgbmhaaGreatDoorKCore2
import Derived.Lib.SliceRun
set_option linter.unusedSimpArgs false
set_option linter.unusedVariables false
namespace Go.Inl
open Go
section
variable {P:Program} {n:Nat} {σ:Nat→Value} {ty t:TypeId} {x y:Operand} {X:List Nat} {w0 w:World} {I0 I:Imm} {L:List Res}
theorem flat_unit (cs:List Value)(N:Nat):flat (fun(_:Unit)=>cs) (List.replicate N ())=(List.replicate N cs).flatten:=by
 induction N with
 | zero=>rfl
 | succ N ih=>rw[List.replicate_succ,List.replicate_succ,List.flatten_cons,← ih]; rfl
theorem d_makeC {sz by' : Nat} (cs : List Value) (hcs : cs.length = sz) (N : Nat) {e : TypeId} {z : Value} {kl kc : IntKind} {m : Int} (Z : St X w0 I0 I w L) (hT : P.underlying t = some (.slice e)) (hi : Info P e z sz by') (hz : z.cells = cs.toArray) (hsz : Nat.blt 0 sz = true)
 (hx:ev n σ x = .int kl m) (hy:ev n σ y = .int kc m) (hm:m=N) (hN:N≤4294967296) (hb:Nat.ble by' 1024=true) :
 Does P (ev n σ) (.makeSlice t x y) ty w fun v w'=>∃b,v = .slice (some ⟨b,0,none⟩) N N∧St X w0 I0 I w' (.cel b e (List.replicate N cs).flatten::L):=by
 refine(jS (enc:=fun(_:Unit)=>cs) (fun _=>hcs) () N Z hT hi hz hsz hx hy hm hN hb).mono ?_;rintro v w' ⟨b,h1,h2⟩;refine⟨b,h1,?_⟩;rw[flat_unit]at h2;exact h2
end
end Go.Inl
namespace Go.Inl
open Go Go.RowKit
section
variable {X:List Nat} {w0 w:World} {I0 I:Imm} {L:List Res}
end
section
variable {P:Program} {f:FuncId} {X:List Nat} {w0 w:World} {I0 I:Imm} {L:List Res}
end
end Go.Inl
namespace Go.Inl
open Go Go.RowKit
section
variable {P:Program} {n:Nat} {σ:Nat→Value} {w:World} {ty:TypeId} {X:List Nat} {w0:World} {I0 I:Imm} {L:List Res}
theorem g_eqSliceNilA {S : World → Prop} {t t' e : TypeId} {x y : Operand} {a : Option Addr} {k c : Nat} (hT : P.underlying t = some (.slice e)) (hx : ev n σ x = .slice a k c) (hy : ev n σ y = .slice none 0 0) :
 Gives P (ev n σ) S (.binOp .eql t x y t') ty (.bool a.isNone):=fun w _=>by
 have h1:(binOp .eql t (.slice a k c) (.slice none 0 0)).run P w = .ok (.bool a.isNone) w:=Go.Lib.run_eql_slice_nil w t e a k c 0 0 hT;simp only[execOp,hx,hy,Sem.run_bind,eqGuard,h1];simp[Result.andThen,h1]
end
end Go.Inl
