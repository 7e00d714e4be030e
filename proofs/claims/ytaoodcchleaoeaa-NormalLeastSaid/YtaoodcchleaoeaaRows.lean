/-
  No cell of these rows narrows 'for every input' (looked for: loops, veiled, ifaces, maps, wideKeys, modest, calm, conditions, laid).
  DERIVED. THE GIVEN ROWS OF THIS SEAT. 7 by the template 'for every input the law returns true; each argument reads behind the call as it read before'; 0 by the template 'total and deterministic' (their statements: YtaoodcchleaoeaaTotals.lean).
  GIVEN WITH THE SEED: the statements are not yours to turn. If you find one false, say at which input.
  Laid BY PROGRAM, IN A SANDBOX (cutbox-rows.mjs): the forced cells as the released guide's own fill.sh prints them over the translation 716449848e0fb259… (all of the seat's roots in one cut). By AI agents, Wed Nov 11 2026. No macro, syntax, notation, axiom, sorry.
-/
import Derived.Test.YtaoodcchleaoeaaChecked
import GoSem.Claim
import GoSem.ClaimJoined
import GoSem.ClaimMapViews
import Derived.JoinedTies
import Derived.KernelRfl
namespace Go.Proofs.Ytaoodcchleaoeaa
/- THE CELL 'sum', in the pinned program and in every row, IS THE sha256 OF THE DUMP (.gsa) THAT YtaoodcchleaoeaaProg.lean LOADS. Nothing in Lean hashes anything: it is a label: what it is worth is what the hold of that sum in a sandbox is worth. -/
noncomputable def Try.pinned : Pinned := { name := "ytaoodcchleaoeaa", sum := "716449848e0fb259bcb82aa20234e976bb02e9377e23f17fbb956d2f6c139eda", checked := Try.checked }
namespace Rows
def none {H : Type} : Left H := { results := [], args := [] }

/-- 'inlaylaw08.NormalMatchesReference': WHATEVER THE INPUT: true; the input reads as it did. -/
def normalMatchesReferenceSpec : ChangeSpec := { name := "normalMatchesReference", fn := fun _ => fun
  | [d1, d2, d3] => { results := [.lit (.bool true)], args := [d1, d2, d3] }
  | _ => none }
def normalMatchesReferenceRow : OpenClaim := { program := "ytaoodcchleaoeaa", sum := "716449848e0fb259bcb82aa20234e976bb02e9377e23f17fbb956d2f6c139eda", func := "inlay/inlaylaw08.NormalMatchesReference", spec := "normalMatchesReference", unfollowed := true, recurses := true, apart := false }
def NormalMatchesReferenceSaid : Prop := normalMatchesReferenceRow.holds Try.pinned (OpenSpec.ofChange normalMatchesReferenceSpec)

/-- ITS FALSE NEIGHBOUR: 'it returns false'. Refute it at one input. -/
def normalMatchesReferenceWrong : ChangeSpec := { name := "normalMatchesReference", fn := fun _ => fun
  | [d1, d2, d3] => { results := [.lit (.bool false)], args := [d1, d2, d3] }
  | _ => none }
def NormalMatchesReferenceWrongFalsely : Prop := normalMatchesReferenceRow.holds Try.pinned (OpenSpec.ofChange normalMatchesReferenceWrong)

/-- 'inlaylaw08.NormalOnce': WHATEVER THE INPUT: true; the input reads as it did. -/
def normalOnceSpec : ChangeSpec := { name := "normalOnce", fn := fun _ => fun
  | [d1, d2, d3] => { results := [.lit (.bool true)], args := [d1, d2, d3] }
  | _ => none }
def normalOnceRow : OpenClaim := { program := "ytaoodcchleaoeaa", sum := "716449848e0fb259bcb82aa20234e976bb02e9377e23f17fbb956d2f6c139eda", func := "inlay/inlaylaw08.NormalOnce", spec := "normalOnce", unfollowed := true, recurses := true, apart := false }
def NormalOnceSaid : Prop := normalOnceRow.holds Try.pinned (OpenSpec.ofChange normalOnceSpec)

/-- ITS FALSE NEIGHBOUR: 'it returns false'. Refute it at one input. -/
def normalOnceWrong : ChangeSpec := { name := "normalOnce", fn := fun _ => fun
  | [d1, d2, d3] => { results := [.lit (.bool false)], args := [d1, d2, d3] }
  | _ => none }
def NormalOnceWrongFalsely : Prop := normalOnceRow.holds Try.pinned (OpenSpec.ofChange normalOnceWrong)

/-- 'inlaylaw08.NormalJoins': WHATEVER THE INPUT: true; the input reads as it did. -/
def normalJoinsSpec : ChangeSpec := { name := "normalJoins", fn := fun _ => fun
  | [d1, d2, d3] => { results := [.lit (.bool true)], args := [d1, d2, d3] }
  | _ => none }
def normalJoinsRow : OpenClaim := { program := "ytaoodcchleaoeaa", sum := "716449848e0fb259bcb82aa20234e976bb02e9377e23f17fbb956d2f6c139eda", func := "inlay/inlaylaw08.NormalJoins", spec := "normalJoins", unfollowed := true, recurses := true, apart := false }
def NormalJoinsSaid : Prop := normalJoinsRow.holds Try.pinned (OpenSpec.ofChange normalJoinsSpec)

/-- ITS FALSE NEIGHBOUR: 'it returns false'. Refute it at one input. -/
def normalJoinsWrong : ChangeSpec := { name := "normalJoins", fn := fun _ => fun
  | [d1, d2, d3] => { results := [.lit (.bool false)], args := [d1, d2, d3] }
  | _ => none }
def NormalJoinsWrongFalsely : Prop := normalJoinsRow.holds Try.pinned (OpenSpec.ofChange normalJoinsWrong)

/-- 'inlaylaw08.NormalRuns': WHATEVER THE INPUT: true; the input reads as it did. -/
def normalRunsSpec : ChangeSpec := { name := "normalRuns", fn := fun _ => fun
  | [d1, d2, d3] => { results := [.lit (.bool true)], args := [d1, d2, d3] }
  | _ => none }
def normalRunsRow : OpenClaim := { program := "ytaoodcchleaoeaa", sum := "716449848e0fb259bcb82aa20234e976bb02e9377e23f17fbb956d2f6c139eda", func := "inlay/inlaylaw08.NormalRuns", spec := "normalRuns", unfollowed := true, recurses := true, apart := false }
def NormalRunsSaid : Prop := normalRunsRow.holds Try.pinned (OpenSpec.ofChange normalRunsSpec)

/-- ITS FALSE NEIGHBOUR: 'it returns false'. Refute it at one input. -/
def normalRunsWrong : ChangeSpec := { name := "normalRuns", fn := fun _ => fun
  | [d1, d2, d3] => { results := [.lit (.bool false)], args := [d1, d2, d3] }
  | _ => none }
def NormalRunsWrongFalsely : Prop := normalRunsRow.holds Try.pinned (OpenSpec.ofChange normalRunsWrong)

/-- 'inlaylaw08.NormalRefuses': WHATEVER THE INPUT: true; the input reads as it did. -/
def normalRefusesSpec : ChangeSpec := { name := "normalRefuses", fn := fun _ => fun
  | [d1, d2, d3] => { results := [.lit (.bool true)], args := [d1, d2, d3] }
  | _ => none }
def normalRefusesRow : OpenClaim := { program := "ytaoodcchleaoeaa", sum := "716449848e0fb259bcb82aa20234e976bb02e9377e23f17fbb956d2f6c139eda", func := "inlay/inlaylaw08.NormalRefuses", spec := "normalRefuses", unfollowed := true, recurses := true, apart := false }
def NormalRefusesSaid : Prop := normalRefusesRow.holds Try.pinned (OpenSpec.ofChange normalRefusesSpec)

/-- ITS FALSE NEIGHBOUR: 'it returns false'. Refute it at one input. -/
def normalRefusesWrong : ChangeSpec := { name := "normalRefuses", fn := fun _ => fun
  | [d1, d2, d3] => { results := [.lit (.bool false)], args := [d1, d2, d3] }
  | _ => none }
def NormalRefusesWrongFalsely : Prop := normalRefusesRow.holds Try.pinned (OpenSpec.ofChange normalRefusesWrong)

/-- 'inlaylaw08.NormalCuts': WHATEVER THE INPUT: true; the input reads as it did. -/
def normalCutsSpec : ChangeSpec := { name := "normalCuts", fn := fun _ => fun
  | [d1, d2] => { results := [.lit (.bool true)], args := [d1, d2] }
  | _ => none }
def normalCutsRow : OpenClaim := { program := "ytaoodcchleaoeaa", sum := "716449848e0fb259bcb82aa20234e976bb02e9377e23f17fbb956d2f6c139eda", func := "inlay/inlaylaw08.NormalCuts", spec := "normalCuts", unfollowed := true, recurses := true, apart := false }
def NormalCutsSaid : Prop := normalCutsRow.holds Try.pinned (OpenSpec.ofChange normalCutsSpec)

/-- ITS FALSE NEIGHBOUR: 'it returns false'. Refute it at one input. -/
def normalCutsWrong : ChangeSpec := { name := "normalCuts", fn := fun _ => fun
  | [d1, d2] => { results := [.lit (.bool false)], args := [d1, d2] }
  | _ => none }
def NormalCutsWrongFalsely : Prop := normalCutsRow.holds Try.pinned (OpenSpec.ofChange normalCutsWrong)

/-- 'inlaylaw08.NormalLeast': WHATEVER THE INPUT: true; the input reads as it did. -/
def normalLeastSpec : ChangeSpec := { name := "normalLeast", fn := fun _ => fun
  | [d1, d2] => { results := [.lit (.bool true)], args := [d1, d2] }
  | _ => none }
def normalLeastRow : OpenClaim := { program := "ytaoodcchleaoeaa", sum := "716449848e0fb259bcb82aa20234e976bb02e9377e23f17fbb956d2f6c139eda", func := "inlay/inlaylaw08.NormalLeast", spec := "normalLeast", unfollowed := true, recurses := true, apart := false }
def NormalLeastSaid : Prop := normalLeastRow.holds Try.pinned (OpenSpec.ofChange normalLeastSpec)

/-- ITS FALSE NEIGHBOUR: 'it returns false'. Refute it at one input. -/
def normalLeastWrong : ChangeSpec := { name := "normalLeast", fn := fun _ => fun
  | [d1, d2] => { results := [.lit (.bool false)], args := [d1, d2] }
  | _ => none }
def NormalLeastWrongFalsely : Prop := normalLeastRow.holds Try.pinned (OpenSpec.ofChange normalLeastWrong)

/- THE SECOND FORM. 'bulk': how many values and letters a reading holds, each counted each time it is reached (what is shared counts as often as it is met; a slice's spare places count too). A statement '..UptoSaid' is the law's where the arguments, and the package variables that the reading takes, are together of bulk at most 1048576: NARROWER than '..Said'. Prove '..Said' where nothing that the law and all that it calls make is longer than what came in: it says more and counts as full. Else prove '..UptoSaid'. A law counts once. -/
mutual
def uptoBulk {H : Type} : DataW H → Nat
  | .lit (.string bytes) => bytes.length + 1
  | .lit _ => 1
  | .nil => 1
  | .ptr d => uptoBulk d + 1
  | .slice elems spare => uptoBulkAll elems + uptoBulkAll spare + 1
  | .agg parts => uptoBulkAll parts + 1
  | .iface _ d => uptoBulk d + 1
  | .map entries => uptoBulkEntries entries + 1
  | .held _ => 1
def uptoBulkAll {H : Type} : List (DataW H) → Nat
  | [] => 0
  | d :: r => uptoBulk d + uptoBulkAll r
def uptoBulkEntries {H : Type} : List (Lit × DataW H) → Nat
  | [] => 0
  | x :: r => uptoBulkEntry x + uptoBulkEntries r
def uptoBulkEntry {H : Type} : Lit × DataW H → Nat
  | (.string bytes, d) => bytes.length + uptoBulk d + 1
  | (_, d) => uptoBulk d + 1
 end
def uptoSmall : (H : Type) → List (DataW H) → Bool := fun _ ds => decide (uptoBulkAll ds ≤ 1048576)
def OpenSpec.upto (s : _root_.Go.ChangeSpec) : _root_.Go.OpenSpec := { _root_.Go.OpenSpec.ofChange s with cond := some uptoSmall }

/-- 'inlaylaw08.NormalMatchesReference', WHERE WHAT IT READS IS OF BULK AT MOST 1048576: true; the input reads as it did. -/
def normalMatchesReferenceUptoRow : OpenClaim := { program := "ytaoodcchleaoeaa", sum := "716449848e0fb259bcb82aa20234e976bb02e9377e23f17fbb956d2f6c139eda", func := "inlay/inlaylaw08.NormalMatchesReference", spec := "normalMatchesReference", unfollowed := true, recurses := true, apart := false, narrowed := true }
def NormalMatchesReferenceUptoSaid : Prop := normalMatchesReferenceUptoRow.holds Try.pinned (OpenSpec.upto normalMatchesReferenceSpec)

/-- 'inlaylaw08.NormalOnce', WHERE WHAT IT READS IS OF BULK AT MOST 1048576: true; the input reads as it did. -/
def normalOnceUptoRow : OpenClaim := { program := "ytaoodcchleaoeaa", sum := "716449848e0fb259bcb82aa20234e976bb02e9377e23f17fbb956d2f6c139eda", func := "inlay/inlaylaw08.NormalOnce", spec := "normalOnce", unfollowed := true, recurses := true, apart := false, narrowed := true }
def NormalOnceUptoSaid : Prop := normalOnceUptoRow.holds Try.pinned (OpenSpec.upto normalOnceSpec)

/-- 'inlaylaw08.NormalJoins', WHERE WHAT IT READS IS OF BULK AT MOST 1048576: true; the input reads as it did. -/
def normalJoinsUptoRow : OpenClaim := { program := "ytaoodcchleaoeaa", sum := "716449848e0fb259bcb82aa20234e976bb02e9377e23f17fbb956d2f6c139eda", func := "inlay/inlaylaw08.NormalJoins", spec := "normalJoins", unfollowed := true, recurses := true, apart := false, narrowed := true }
def NormalJoinsUptoSaid : Prop := normalJoinsUptoRow.holds Try.pinned (OpenSpec.upto normalJoinsSpec)

/-- 'inlaylaw08.NormalRuns', WHERE WHAT IT READS IS OF BULK AT MOST 1048576: true; the input reads as it did. -/
def normalRunsUptoRow : OpenClaim := { program := "ytaoodcchleaoeaa", sum := "716449848e0fb259bcb82aa20234e976bb02e9377e23f17fbb956d2f6c139eda", func := "inlay/inlaylaw08.NormalRuns", spec := "normalRuns", unfollowed := true, recurses := true, apart := false, narrowed := true }
def NormalRunsUptoSaid : Prop := normalRunsUptoRow.holds Try.pinned (OpenSpec.upto normalRunsSpec)

/-- 'inlaylaw08.NormalRefuses', WHERE WHAT IT READS IS OF BULK AT MOST 1048576: true; the input reads as it did. -/
def normalRefusesUptoRow : OpenClaim := { program := "ytaoodcchleaoeaa", sum := "716449848e0fb259bcb82aa20234e976bb02e9377e23f17fbb956d2f6c139eda", func := "inlay/inlaylaw08.NormalRefuses", spec := "normalRefuses", unfollowed := true, recurses := true, apart := false, narrowed := true }
def NormalRefusesUptoSaid : Prop := normalRefusesUptoRow.holds Try.pinned (OpenSpec.upto normalRefusesSpec)

/-- 'inlaylaw08.NormalCuts', WHERE WHAT IT READS IS OF BULK AT MOST 1048576: true; the input reads as it did. -/
def normalCutsUptoRow : OpenClaim := { program := "ytaoodcchleaoeaa", sum := "716449848e0fb259bcb82aa20234e976bb02e9377e23f17fbb956d2f6c139eda", func := "inlay/inlaylaw08.NormalCuts", spec := "normalCuts", unfollowed := true, recurses := true, apart := false, narrowed := true }
def NormalCutsUptoSaid : Prop := normalCutsUptoRow.holds Try.pinned (OpenSpec.upto normalCutsSpec)

/-- 'inlaylaw08.NormalLeast', WHERE WHAT IT READS IS OF BULK AT MOST 1048576: true; the input reads as it did. -/
def normalLeastUptoRow : OpenClaim := { program := "ytaoodcchleaoeaa", sum := "716449848e0fb259bcb82aa20234e976bb02e9377e23f17fbb956d2f6c139eda", func := "inlay/inlaylaw08.NormalLeast", spec := "normalLeast", unfollowed := true, recurses := true, apart := false, narrowed := true }
def NormalLeastUptoSaid : Prop := normalLeastUptoRow.holds Try.pinned (OpenSpec.upto normalLeastSpec)

end Rows
end Go.Proofs.Ytaoodcchleaoeaa
