/- Contracts in the form that the laws of chapter 9 use, and what these need of plain laws. Conditions: numbers within bounds. -/
import Derived.Test.YtcajgkfgjpfmaaaGreatSanity9
import Derived.Test.YtcajgkfgjpfmaaaGreatKComp
import Derived.Test.YtcajgkfgjpfmaaaGreatKCut
set_option linter.unusedSimpArgs false
set_option linter.unusedVariables false
namespace Go.Proofs.YtcajgkfgjpfmaaaGreat
open Go Go.RowKit Go.Inl
theorem g_neF {P:Program}{n:Nat}{σ:Nat→Value}{S:World→Prop}{ty t t':TypeId}{x y:Operand}{k:IntKind}{a b:Int}(hx:ev n σ x = .int k a)(hy:ev n σ y = .int k b)(hc:a=b):Gives P (ev n σ) S (.binOp .neq t x y t') ty (.bool false):=by
 subst hc; have:=g_neq (P:=P) (S:=S) (t:=t) (t':=t') (ty:=ty) hx hy; rwa [uK rfl]at this
end Go.Proofs.YtcajgkfgjpfmaaaGreat
