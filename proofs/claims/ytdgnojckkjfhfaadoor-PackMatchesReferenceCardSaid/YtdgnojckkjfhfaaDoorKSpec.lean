/- What package compose computes, as plain Lean, and its plain laws: through is associative, the whole patch changes nothing. Conditions: none. -/
import Derived.Test.YtdgnojckkjfhfaaDoorKOpt
namespace Go.Inl
def z0 : Sym := ⟨false, 0, 0⟩
end Go.Inl
