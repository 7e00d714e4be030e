/- normal.Cheapest and normal.Form: what they compute. Conditions: numbers within bounds. -/
import Derived.Test.YthfgchcdilodlaaGreatCheck
import Derived.Test.YthfgchcdilodlaaGreatTable
namespace Go.Proofs.YthfgchcdilodlaaGreat
open Go Go.RowKit Go.Inl
set_option linter.unusedSimpArgs false
set_option linter.unusedVariables false
structure LS where
  i : Nat
  f : Nat
  done : List OpL
  css : List (List Value)
  a : Option Addr
  c : Nat

end Go.Proofs.YthfgchcdilodlaaGreat

