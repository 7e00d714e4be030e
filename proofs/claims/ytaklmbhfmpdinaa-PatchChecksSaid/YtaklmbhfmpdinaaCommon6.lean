/- Contracts and facts that the laws which reach patch.Apply share. Conditions: none. -/
import Derived.Test.YtaklmbhfmpdinaaPParts
import Derived.Test.YtaklmbhfmpdinaaKLaw
namespace Go.Proofs.Ytaklmbhfmpdinaa
open Go Go.RowKit Go.Inl
set_option linter.unusedSimpArgs false
set_option linter.unusedVariables false
section
variable {P : Program} {n : Nat} {σ : Nat → Value} {S : World → Prop} {t t' ty : TypeId} {x y : Operand} {k : IntKind} {a b : Int}
end
end Go.Proofs.Ytaklmbhfmpdinaa

