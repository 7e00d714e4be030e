/- normal.table fills the table of places. Conditions: at most 65536 right symbols. -/
import Derived.Test.YthfgchcdilodlaaGreatSmall
import Derived.Test.YthfgchcdilodlaaGreatTabB
namespace Go.Proofs.YthfgchcdilodlaaGreat
open Go Go.RowKit Go.Inl
set_option linter.unusedSimpArgs false
set_option linter.unusedVariables false

end Go.Proofs.YthfgchcdilodlaaGreat

