/- inst.Words and inst.Bytes: what they compute. Conditions: bytes are bytes, words are words. -/
import Derived.Test.YtcajgkfgjpfmaaaGreatKCore3
import Derived.Test.YtcajgkfgjpfmaaaGreatKCore2
import Derived.Test.YtcajgkfgjpfmaaaGreatKSpec
import Derived.Test.YtcajgkfgjpfmaaaGreatFacts
import Derived.Test.YtcajgkfgjpfmaaaGreatPats
import Derived.Test.YtcajgkfgjpfmaaaGreatKLaw
set_option linter.unusedSimpArgs false
set_option linter.unusedVariables false
namespace Go.Proofs.YtcajgkfgjpfmaaaGreat
open Go Go.RowKit Go.Inl
theorem g_toV {P:Program}{ρ:Operand→Value}{S:World→Prop}{op:Op}{ty:TypeId}{v v':Value}(h:Gives P ρ S op ty v)(e:v=v'):Gives P ρ S op ty v':=by subst e; exact h
theorem g_neqF {P:Program}{n:Nat}{σ:Nat→Value}{S:World→Prop}{t t' ty:TypeId}{x y:Operand}{k:IntKind}{a b:Int}(hx:ev n σ x = .int k a)(hy:ev n σ y = .int k b)(h:a=b):Gives P (ev n σ) S (.binOp .neq t x y t') ty (.bool false):=g_toV (g_neq hx hy) (by rw[uK h]; rfl)
end Go.Proofs.YtcajgkfgjpfmaaaGreat
