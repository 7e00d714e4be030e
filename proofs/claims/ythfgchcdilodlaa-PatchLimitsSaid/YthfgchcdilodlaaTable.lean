/- normal.table fills the table of places. Conditions: at most 65536 right symbols. -/
import Derived.Test.YthfgchcdilodlaaSmall
import Derived.Test.YthfgchcdilodlaaTabB
namespace Go.Proofs.Ythfgchcdilodlaa
open Go Go.RowKit Go.Inl
set_option linter.unusedSimpArgs false
set_option linter.unusedVariables false

end Go.Proofs.Ythfgchcdilodlaa

