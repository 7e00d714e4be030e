/-
  No cell of these rows narrows 'for every input' (looked for: loops, veiled, ifaces, maps, wideKeys, modest, calm, conditions, laid).
  DERIVED. THE GIVEN ROWS OF THIS SEAT. 9 by the template 'for every input the law returns true; each argument reads behind the call as it read before'; 0 by the template 'total and deterministic' (their statements: YtodopmclnklgdaaGreatTotals.lean).
  GIVEN WITH THE SEED: the statements are not yours to turn. If you find one false, say at which input.
  Laid BY PROGRAM, IN A SANDBOX (cutbox-rows.mjs): the forced cells as the released guide's own fill.sh prints them over the translation b4c2f32ad87c6d96… (all of the seat's roots in one cut). By AI agents, Wed Nov 11 2026. No macro, syntax, notation, axiom, sorry.
-/
import Derived.Test.YtodopmclnklgdaaGreatChecked
import GoSem.Claim
import GoSem.ClaimJoined
import GoSem.ClaimMapViews
import Derived.JoinedTies
import Derived.KernelRfl
namespace Go.Proofs.YtodopmclnklgdaaGreat
/- THE CELL 'sum', in the pinned program and in every row, IS THE sha256 OF THE DUMP (.gsa) THAT YtodopmclnklgdaaGreatProg.lean LOADS. Nothing in Lean hashes anything: it is a label: what it is worth is what the hold of that sum in a sandbox is worth. -/
noncomputable def Tryz.pinned : Pinned := { name := "ytodopmclnklgdaagreat", sum := "b4c2f32ad87c6d96e369e4eb85241386c05ec26974616de95e6c7389591b2cc7", checked := Tryz.checked }
namespace Rows
def none {H : Type} : Left H := { results := [], args := [] }

/-- 'inlaylaw08.NormalKeeps': WHATEVER THE INPUT: true; the input reads as it did. -/
def normalKeepsSpec : ChangeSpec := { name := "normalKeeps", fn := fun _ => fun
  | [d1, d2] => { results := [.lit (.bool true)], args := [d1, d2] }
  | _ => none }
def normalKeepsRow : OpenClaim := { program := "ytodopmclnklgdaagreat", sum := "b4c2f32ad87c6d96e369e4eb85241386c05ec26974616de95e6c7389591b2cc7", func := "inlay/inlaylaw08.NormalKeeps", spec := "normalKeeps", unfollowed := true, recurses := true, apart := false }
def NormalKeepsSaid : Prop := normalKeepsRow.holds Tryz.pinned (OpenSpec.ofChange normalKeepsSpec)

/-- ITS FALSE NEIGHBOUR: 'it returns false'. Refute it at one input. -/
def normalKeepsWrong : ChangeSpec := { name := "normalKeeps", fn := fun _ => fun
  | [d1, d2] => { results := [.lit (.bool false)], args := [d1, d2] }
  | _ => none }
def NormalKeepsWrongFalsely : Prop := normalKeepsRow.holds Tryz.pinned (OpenSpec.ofChange normalKeepsWrong)

/-- 'inlaylaw09.ComposeApplies': WHATEVER THE INPUT: true; the input reads as it did. -/
def composeAppliesSpec : ChangeSpec := { name := "composeApplies", fn := fun _ => fun
  | [d1, d2] => { results := [.lit (.bool true)], args := [d1, d2] }
  | _ => none }
def composeAppliesRow : OpenClaim := { program := "ytodopmclnklgdaagreat", sum := "b4c2f32ad87c6d96e369e4eb85241386c05ec26974616de95e6c7389591b2cc7", func := "inlay/inlaylaw09.ComposeApplies", spec := "composeApplies", unfollowed := true, recurses := true, apart := false }
def ComposeAppliesSaid : Prop := composeAppliesRow.holds Tryz.pinned (OpenSpec.ofChange composeAppliesSpec)

/-- ITS FALSE NEIGHBOUR: 'it returns false'. Refute it at one input. -/
def composeAppliesWrong : ChangeSpec := { name := "composeApplies", fn := fun _ => fun
  | [d1, d2] => { results := [.lit (.bool false)], args := [d1, d2] }
  | _ => none }
def ComposeAppliesWrongFalsely : Prop := composeAppliesRow.holds Tryz.pinned (OpenSpec.ofChange composeAppliesWrong)

/-- 'inlaylaw11.MergeReads': WHATEVER THE INPUT: true; the input reads as it did. -/
def mergeReadsSpec : ChangeSpec := { name := "mergeReads", fn := fun _ => fun
  | [d1, d2] => { results := [.lit (.bool true)], args := [d1, d2] }
  | _ => none }
def mergeReadsRow : OpenClaim := { program := "ytodopmclnklgdaagreat", sum := "b4c2f32ad87c6d96e369e4eb85241386c05ec26974616de95e6c7389591b2cc7", func := "inlay/inlaylaw11.MergeReads", spec := "mergeReads", unfollowed := true, recurses := true, apart := false }
def MergeReadsSaid : Prop := mergeReadsRow.holds Tryz.pinned (OpenSpec.ofChange mergeReadsSpec)

/-- ITS FALSE NEIGHBOUR: 'it returns false'. Refute it at one input. -/
def mergeReadsWrong : ChangeSpec := { name := "mergeReads", fn := fun _ => fun
  | [d1, d2] => { results := [.lit (.bool false)], args := [d1, d2] }
  | _ => none }
def MergeReadsWrongFalsely : Prop := mergeReadsRow.holds Tryz.pinned (OpenSpec.ofChange mergeReadsWrong)

/-- 'inlaylaw11.MergeBoth': WHATEVER THE INPUT: true; the input reads as it did. -/
def mergeBothSpec : ChangeSpec := { name := "mergeBoth", fn := fun _ => fun
  | [d1, d2] => { results := [.lit (.bool true)], args := [d1, d2] }
  | _ => none }
def mergeBothRow : OpenClaim := { program := "ytodopmclnklgdaagreat", sum := "b4c2f32ad87c6d96e369e4eb85241386c05ec26974616de95e6c7389591b2cc7", func := "inlay/inlaylaw11.MergeBoth", spec := "mergeBoth", unfollowed := true, recurses := true, apart := false }
def MergeBothSaid : Prop := mergeBothRow.holds Tryz.pinned (OpenSpec.ofChange mergeBothSpec)

/-- ITS FALSE NEIGHBOUR: 'it returns false'. Refute it at one input. -/
def mergeBothWrong : ChangeSpec := { name := "mergeBoth", fn := fun _ => fun
  | [d1, d2] => { results := [.lit (.bool false)], args := [d1, d2] }
  | _ => none }
def MergeBothWrongFalsely : Prop := mergeBothRow.holds Tryz.pinned (OpenSpec.ofChange mergeBothWrong)

/-- 'inlaylaw11.MergeExchanges': WHATEVER THE INPUT: true; the input reads as it did. -/
def mergeExchangesSpec : ChangeSpec := { name := "mergeExchanges", fn := fun _ => fun
  | [d1, d2] => { results := [.lit (.bool true)], args := [d1, d2] }
  | _ => none }
def mergeExchangesRow : OpenClaim := { program := "ytodopmclnklgdaagreat", sum := "b4c2f32ad87c6d96e369e4eb85241386c05ec26974616de95e6c7389591b2cc7", func := "inlay/inlaylaw11.MergeExchanges", spec := "mergeExchanges", unfollowed := true, recurses := true, apart := false }
def MergeExchangesSaid : Prop := mergeExchangesRow.holds Tryz.pinned (OpenSpec.ofChange mergeExchangesSpec)

/-- ITS FALSE NEIGHBOUR: 'it returns false'. Refute it at one input. -/
def mergeExchangesWrong : ChangeSpec := { name := "mergeExchanges", fn := fun _ => fun
  | [d1, d2] => { results := [.lit (.bool false)], args := [d1, d2] }
  | _ => none }
def MergeExchangesWrongFalsely : Prop := mergeExchangesRow.holds Tryz.pinned (OpenSpec.ofChange mergeExchangesWrong)

/-- 'inlaylaw11.MergeTouched': WHATEVER THE INPUT: true; the input reads as it did. -/
def mergeTouchedSpec : ChangeSpec := { name := "mergeTouched", fn := fun _ => fun
  | [d1, d2] => { results := [.lit (.bool true)], args := [d1, d2] }
  | _ => none }
def mergeTouchedRow : OpenClaim := { program := "ytodopmclnklgdaagreat", sum := "b4c2f32ad87c6d96e369e4eb85241386c05ec26974616de95e6c7389591b2cc7", func := "inlay/inlaylaw11.MergeTouched", spec := "mergeTouched", unfollowed := true, recurses := true, apart := false }
def MergeTouchedSaid : Prop := mergeTouchedRow.holds Tryz.pinned (OpenSpec.ofChange mergeTouchedSpec)

/-- ITS FALSE NEIGHBOUR: 'it returns false'. Refute it at one input. -/
def mergeTouchedWrong : ChangeSpec := { name := "mergeTouched", fn := fun _ => fun
  | [d1, d2] => { results := [.lit (.bool false)], args := [d1, d2] }
  | _ => none }
def MergeTouchedWrongFalsely : Prop := mergeTouchedRow.holds Tryz.pinned (OpenSpec.ofChange mergeTouchedWrong)

/-- 'inlaylaw12.SplitSectors': WHATEVER THE INPUT: true; the input reads as it did. -/
def splitSectorsSpec : ChangeSpec := { name := "splitSectors", fn := fun _ => fun
  | [d1, d2, d3] => { results := [.lit (.bool true)], args := [d1, d2, d3] }
  | _ => none }
def splitSectorsRow : OpenClaim := { program := "ytodopmclnklgdaagreat", sum := "b4c2f32ad87c6d96e369e4eb85241386c05ec26974616de95e6c7389591b2cc7", func := "inlay/inlaylaw12.SplitSectors", spec := "splitSectors", unfollowed := true, recurses := true, apart := false }
def SplitSectorsSaid : Prop := splitSectorsRow.holds Tryz.pinned (OpenSpec.ofChange splitSectorsSpec)

/-- ITS FALSE NEIGHBOUR: 'it returns false'. Refute it at one input. -/
def splitSectorsWrong : ChangeSpec := { name := "splitSectors", fn := fun _ => fun
  | [d1, d2, d3] => { results := [.lit (.bool false)], args := [d1, d2, d3] }
  | _ => none }
def SplitSectorsWrongFalsely : Prop := splitSectorsRow.holds Tryz.pinned (OpenSpec.ofChange splitSectorsWrong)

/-- 'inlaylaw12.SplitJoins': WHATEVER THE INPUT: true; the input reads as it did. -/
def splitJoinsSpec : ChangeSpec := { name := "splitJoins", fn := fun _ => fun
  | [d1, d2, d3] => { results := [.lit (.bool true)], args := [d1, d2, d3] }
  | _ => none }
def splitJoinsRow : OpenClaim := { program := "ytodopmclnklgdaagreat", sum := "b4c2f32ad87c6d96e369e4eb85241386c05ec26974616de95e6c7389591b2cc7", func := "inlay/inlaylaw12.SplitJoins", spec := "splitJoins", unfollowed := true, recurses := true, apart := false }
def SplitJoinsSaid : Prop := splitJoinsRow.holds Tryz.pinned (OpenSpec.ofChange splitJoinsSpec)

/-- ITS FALSE NEIGHBOUR: 'it returns false'. Refute it at one input. -/
def splitJoinsWrong : ChangeSpec := { name := "splitJoins", fn := fun _ => fun
  | [d1, d2, d3] => { results := [.lit (.bool false)], args := [d1, d2, d3] }
  | _ => none }
def SplitJoinsWrongFalsely : Prop := splitJoinsRow.holds Tryz.pinned (OpenSpec.ofChange splitJoinsWrong)

/-- 'inlaylaw12.SplitSections': WHATEVER THE INPUT: true; the input reads as it did. -/
def splitSectionsSpec : ChangeSpec := { name := "splitSections", fn := fun _ => fun
  | [d1, d2, d3] => { results := [.lit (.bool true)], args := [d1, d2, d3] }
  | _ => none }
def splitSectionsRow : OpenClaim := { program := "ytodopmclnklgdaagreat", sum := "b4c2f32ad87c6d96e369e4eb85241386c05ec26974616de95e6c7389591b2cc7", func := "inlay/inlaylaw12.SplitSections", spec := "splitSections", unfollowed := true, recurses := true, apart := false }
def SplitSectionsSaid : Prop := splitSectionsRow.holds Tryz.pinned (OpenSpec.ofChange splitSectionsSpec)

/-- ITS FALSE NEIGHBOUR: 'it returns false'. Refute it at one input. -/
def splitSectionsWrong : ChangeSpec := { name := "splitSections", fn := fun _ => fun
  | [d1, d2, d3] => { results := [.lit (.bool false)], args := [d1, d2, d3] }
  | _ => none }
def SplitSectionsWrongFalsely : Prop := splitSectionsRow.holds Tryz.pinned (OpenSpec.ofChange splitSectionsWrong)

/- THE SECOND FORM. 'bulk': how many values and letters a reading holds, each counted each time it is reached (what is shared counts as often as it is met; a slice's spare places count too). A statement '..UptoSaid' is the law's where the arguments, and the package variables that the reading takes, are together of bulk at most 1048576: NARROWER than '..Said'. Prove '..Said' where nothing that the law and all that it calls make is longer than what came in: it says more and counts as full. Else prove '..UptoSaid'. A law counts once. -/
mutual
def uptoBulk {H : Type} : DataW H → Nat
  | .lit (.string bytes) => bytes.length + 1
  | .lit _ => 1
  | .nil => 1
  | .ptr d => uptoBulk d + 1
  | .slice elems spare => uptoBulkAll elems + uptoBulkAll spare + 1
  | .agg parts => uptoBulkAll parts + 1
  | .iface _ d => uptoBulk d + 1
  | .map entries => uptoBulkEntries entries + 1
  | .held _ => 1
def uptoBulkAll {H : Type} : List (DataW H) → Nat
  | [] => 0
  | d :: r => uptoBulk d + uptoBulkAll r
def uptoBulkEntries {H : Type} : List (Lit × DataW H) → Nat
  | [] => 0
  | x :: r => uptoBulkEntry x + uptoBulkEntries r
def uptoBulkEntry {H : Type} : Lit × DataW H → Nat
  | (.string bytes, d) => bytes.length + uptoBulk d + 1
  | (_, d) => uptoBulk d + 1
 end
def uptoSmall : (H : Type) → List (DataW H) → Bool := fun _ ds => decide (uptoBulkAll ds ≤ 1048576)
def OpenSpec.upto (s : _root_.Go.ChangeSpec) : _root_.Go.OpenSpec := { _root_.Go.OpenSpec.ofChange s with cond := some uptoSmall }

/-- 'inlaylaw08.NormalKeeps', WHERE WHAT IT READS IS OF BULK AT MOST 1048576: true; the input reads as it did. -/
def normalKeepsUptoRow : OpenClaim := { program := "ytodopmclnklgdaagreat", sum := "b4c2f32ad87c6d96e369e4eb85241386c05ec26974616de95e6c7389591b2cc7", func := "inlay/inlaylaw08.NormalKeeps", spec := "normalKeeps", unfollowed := true, recurses := true, apart := false, narrowed := true }
def NormalKeepsUptoSaid : Prop := normalKeepsUptoRow.holds Tryz.pinned (OpenSpec.upto normalKeepsSpec)

/-- 'inlaylaw09.ComposeApplies', WHERE WHAT IT READS IS OF BULK AT MOST 1048576: true; the input reads as it did. -/
def composeAppliesUptoRow : OpenClaim := { program := "ytodopmclnklgdaagreat", sum := "b4c2f32ad87c6d96e369e4eb85241386c05ec26974616de95e6c7389591b2cc7", func := "inlay/inlaylaw09.ComposeApplies", spec := "composeApplies", unfollowed := true, recurses := true, apart := false, narrowed := true }
def ComposeAppliesUptoSaid : Prop := composeAppliesUptoRow.holds Tryz.pinned (OpenSpec.upto composeAppliesSpec)

/-- 'inlaylaw11.MergeReads', WHERE WHAT IT READS IS OF BULK AT MOST 1048576: true; the input reads as it did. -/
def mergeReadsUptoRow : OpenClaim := { program := "ytodopmclnklgdaagreat", sum := "b4c2f32ad87c6d96e369e4eb85241386c05ec26974616de95e6c7389591b2cc7", func := "inlay/inlaylaw11.MergeReads", spec := "mergeReads", unfollowed := true, recurses := true, apart := false, narrowed := true }
def MergeReadsUptoSaid : Prop := mergeReadsUptoRow.holds Tryz.pinned (OpenSpec.upto mergeReadsSpec)

/-- 'inlaylaw11.MergeBoth', WHERE WHAT IT READS IS OF BULK AT MOST 1048576: true; the input reads as it did. -/
def mergeBothUptoRow : OpenClaim := { program := "ytodopmclnklgdaagreat", sum := "b4c2f32ad87c6d96e369e4eb85241386c05ec26974616de95e6c7389591b2cc7", func := "inlay/inlaylaw11.MergeBoth", spec := "mergeBoth", unfollowed := true, recurses := true, apart := false, narrowed := true }
def MergeBothUptoSaid : Prop := mergeBothUptoRow.holds Tryz.pinned (OpenSpec.upto mergeBothSpec)

/-- 'inlaylaw11.MergeExchanges', WHERE WHAT IT READS IS OF BULK AT MOST 1048576: true; the input reads as it did. -/
def mergeExchangesUptoRow : OpenClaim := { program := "ytodopmclnklgdaagreat", sum := "b4c2f32ad87c6d96e369e4eb85241386c05ec26974616de95e6c7389591b2cc7", func := "inlay/inlaylaw11.MergeExchanges", spec := "mergeExchanges", unfollowed := true, recurses := true, apart := false, narrowed := true }
def MergeExchangesUptoSaid : Prop := mergeExchangesUptoRow.holds Tryz.pinned (OpenSpec.upto mergeExchangesSpec)

/-- 'inlaylaw11.MergeTouched', WHERE WHAT IT READS IS OF BULK AT MOST 1048576: true; the input reads as it did. -/
def mergeTouchedUptoRow : OpenClaim := { program := "ytodopmclnklgdaagreat", sum := "b4c2f32ad87c6d96e369e4eb85241386c05ec26974616de95e6c7389591b2cc7", func := "inlay/inlaylaw11.MergeTouched", spec := "mergeTouched", unfollowed := true, recurses := true, apart := false, narrowed := true }
def MergeTouchedUptoSaid : Prop := mergeTouchedUptoRow.holds Tryz.pinned (OpenSpec.upto mergeTouchedSpec)

/-- 'inlaylaw12.SplitSectors', WHERE WHAT IT READS IS OF BULK AT MOST 1048576: true; the input reads as it did. -/
def splitSectorsUptoRow : OpenClaim := { program := "ytodopmclnklgdaagreat", sum := "b4c2f32ad87c6d96e369e4eb85241386c05ec26974616de95e6c7389591b2cc7", func := "inlay/inlaylaw12.SplitSectors", spec := "splitSectors", unfollowed := true, recurses := true, apart := false, narrowed := true }
def SplitSectorsUptoSaid : Prop := splitSectorsUptoRow.holds Tryz.pinned (OpenSpec.upto splitSectorsSpec)

/-- 'inlaylaw12.SplitJoins', WHERE WHAT IT READS IS OF BULK AT MOST 1048576: true; the input reads as it did. -/
def splitJoinsUptoRow : OpenClaim := { program := "ytodopmclnklgdaagreat", sum := "b4c2f32ad87c6d96e369e4eb85241386c05ec26974616de95e6c7389591b2cc7", func := "inlay/inlaylaw12.SplitJoins", spec := "splitJoins", unfollowed := true, recurses := true, apart := false, narrowed := true }
def SplitJoinsUptoSaid : Prop := splitJoinsUptoRow.holds Tryz.pinned (OpenSpec.upto splitJoinsSpec)

/-- 'inlaylaw12.SplitSections', WHERE WHAT IT READS IS OF BULK AT MOST 1048576: true; the input reads as it did. -/
def splitSectionsUptoRow : OpenClaim := { program := "ytodopmclnklgdaagreat", sum := "b4c2f32ad87c6d96e369e4eb85241386c05ec26974616de95e6c7389591b2cc7", func := "inlay/inlaylaw12.SplitSections", spec := "splitSections", unfollowed := true, recurses := true, apart := false, narrowed := true }
def SplitSectionsUptoSaid : Prop := splitSectionsUptoRow.holds Tryz.pinned (OpenSpec.upto splitSectionsSpec)

end Rows
end Go.Proofs.YtodopmclnklgdaaGreat
