/-
  No cell of these rows narrows 'for every input' (looked for: loops, veiled, ifaces, maps, wideKeys, modest, calm, conditions, laid).
  DERIVED. THE GIVEN ROWS OF THIS SEAT. 9 by the template 'for every input the law returns true; each argument reads behind the call as it read before'; 0 by the template 'total and deterministic' (their statements: YthningkgpanaoaaTotals.lean).
  GIVEN WITH THE SEED: the statements are not yours to turn. If you find one false, say at which input.
  Laid BY PROGRAM, IN A SANDBOX (cutbox-rows.mjs): the forced cells as the released guide's own fill.sh prints them over the translation 0f1e2bf3ea8646bd… (all of the seat's roots in one cut). By AI agents, Wed Nov 11 2026. No macro, syntax, notation, axiom, sorry.
-/
import Derived.Test.YthningkgpanaoaaChecked
import GoSem.Claim
import GoSem.ClaimJoined
import GoSem.ClaimMapViews
import Derived.JoinedTies
import Derived.KernelRfl
namespace Go.Proofs.Ythningkgpanaoaa
/- THE CELL 'sum', in the pinned program and in every row, IS THE sha256 OF THE DUMP (.gsa) THAT YthningkgpanaoaaProg.lean LOADS. Nothing in Lean hashes anything: it is a label: what it is worth is what the hold of that sum in a sandbox is worth. -/
noncomputable def Try.pinned : Pinned := { name := "ythningkgpanaoaa", sum := "0f1e2bf3ea8646bde07cd401693aa243eed62c1a3ef51ed4cbd415a5e18bb64e", checked := Try.checked }
namespace Rows
def none {H : Type} : Left H := { results := [], args := [] }

/-- 'inlaylaw09.ComposeMatchesReference': WHATEVER THE INPUT: true; the input reads as it did. -/
def composeMatchesReferenceSpec : ChangeSpec := { name := "composeMatchesReference", fn := fun _ => fun
  | [d1, d2, d3] => { results := [.lit (.bool true)], args := [d1, d2, d3] }
  | _ => none }
def composeMatchesReferenceRow : OpenClaim := { program := "ythningkgpanaoaa", sum := "0f1e2bf3ea8646bde07cd401693aa243eed62c1a3ef51ed4cbd415a5e18bb64e", func := "inlay/inlaylaw09.ComposeMatchesReference", spec := "composeMatchesReference", unfollowed := true, recurses := true, apart := false }
def ComposeMatchesReferenceSaid : Prop := composeMatchesReferenceRow.holds Try.pinned (OpenSpec.ofChange composeMatchesReferenceSpec)

/-- ITS FALSE NEIGHBOUR: 'it returns false'. Refute it at one input. -/
def composeMatchesReferenceWrong : ChangeSpec := { name := "composeMatchesReference", fn := fun _ => fun
  | [d1, d2, d3] => { results := [.lit (.bool false)], args := [d1, d2, d3] }
  | _ => none }
def ComposeMatchesReferenceWrongFalsely : Prop := composeMatchesReferenceRow.holds Try.pinned (OpenSpec.ofChange composeMatchesReferenceWrong)

/-- 'inlaylaw09.ComposeGroups': WHATEVER THE INPUT: true; the input reads as it did. -/
def composeGroupsSpec : ChangeSpec := { name := "composeGroups", fn := fun _ => fun
  | [d1, d2] => { results := [.lit (.bool true)], args := [d1, d2] }
  | _ => none }
def composeGroupsRow : OpenClaim := { program := "ythningkgpanaoaa", sum := "0f1e2bf3ea8646bde07cd401693aa243eed62c1a3ef51ed4cbd415a5e18bb64e", func := "inlay/inlaylaw09.ComposeGroups", spec := "composeGroups", unfollowed := true, recurses := true, apart := false }
def ComposeGroupsSaid : Prop := composeGroupsRow.holds Try.pinned (OpenSpec.ofChange composeGroupsSpec)

/-- ITS FALSE NEIGHBOUR: 'it returns false'. Refute it at one input. -/
def composeGroupsWrong : ChangeSpec := { name := "composeGroups", fn := fun _ => fun
  | [d1, d2] => { results := [.lit (.bool false)], args := [d1, d2] }
  | _ => none }
def ComposeGroupsWrongFalsely : Prop := composeGroupsRow.holds Try.pinned (OpenSpec.ofChange composeGroupsWrong)

/-- 'inlaylaw09.ComposeRefuses': WHATEVER THE INPUT: true; the input reads as it did. -/
def composeRefusesSpec : ChangeSpec := { name := "composeRefuses", fn := fun _ => fun
  | [d1, d2, d3] => { results := [.lit (.bool true)], args := [d1, d2, d3] }
  | _ => none }
def composeRefusesRow : OpenClaim := { program := "ythningkgpanaoaa", sum := "0f1e2bf3ea8646bde07cd401693aa243eed62c1a3ef51ed4cbd415a5e18bb64e", func := "inlay/inlaylaw09.ComposeRefuses", spec := "composeRefuses", unfollowed := true, recurses := true, apart := false }
def ComposeRefusesSaid : Prop := composeRefusesRow.holds Try.pinned (OpenSpec.ofChange composeRefusesSpec)

/-- ITS FALSE NEIGHBOUR: 'it returns false'. Refute it at one input. -/
def composeRefusesWrong : ChangeSpec := { name := "composeRefuses", fn := fun _ => fun
  | [d1, d2, d3] => { results := [.lit (.bool false)], args := [d1, d2, d3] }
  | _ => none }
def ComposeRefusesWrongFalsely : Prop := composeRefusesRow.holds Try.pinned (OpenSpec.ofChange composeRefusesWrong)

/-- 'inlaylaw09.ComposeWhole': WHATEVER THE INPUT: true; the input reads as it did. -/
def composeWholeSpec : ChangeSpec := { name := "composeWhole", fn := fun _ => fun
  | [d1, d2] => { results := [.lit (.bool true)], args := [d1, d2] }
  | _ => none }
def composeWholeRow : OpenClaim := { program := "ythningkgpanaoaa", sum := "0f1e2bf3ea8646bde07cd401693aa243eed62c1a3ef51ed4cbd415a5e18bb64e", func := "inlay/inlaylaw09.ComposeWhole", spec := "composeWhole", unfollowed := true, recurses := true, apart := false }
def ComposeWholeSaid : Prop := composeWholeRow.holds Try.pinned (OpenSpec.ofChange composeWholeSpec)

/-- ITS FALSE NEIGHBOUR: 'it returns false'. Refute it at one input. -/
def composeWholeWrong : ChangeSpec := { name := "composeWhole", fn := fun _ => fun
  | [d1, d2] => { results := [.lit (.bool false)], args := [d1, d2] }
  | _ => none }
def ComposeWholeWrongFalsely : Prop := composeWholeRow.holds Try.pinned (OpenSpec.ofChange composeWholeWrong)

/-- 'inlaylaw09.ComposeLeast': WHATEVER THE INPUT: true; the input reads as it did. -/
def composeLeastSpec : ChangeSpec := { name := "composeLeast", fn := fun _ => fun
  | [d1, d2] => { results := [.lit (.bool true)], args := [d1, d2] }
  | _ => none }
def composeLeastRow : OpenClaim := { program := "ythningkgpanaoaa", sum := "0f1e2bf3ea8646bde07cd401693aa243eed62c1a3ef51ed4cbd415a5e18bb64e", func := "inlay/inlaylaw09.ComposeLeast", spec := "composeLeast", unfollowed := true, recurses := true, apart := false }
def ComposeLeastSaid : Prop := composeLeastRow.holds Try.pinned (OpenSpec.ofChange composeLeastSpec)

/-- ITS FALSE NEIGHBOUR: 'it returns false'. Refute it at one input. -/
def composeLeastWrong : ChangeSpec := { name := "composeLeast", fn := fun _ => fun
  | [d1, d2] => { results := [.lit (.bool false)], args := [d1, d2] }
  | _ => none }
def ComposeLeastWrongFalsely : Prop := composeLeastRow.holds Try.pinned (OpenSpec.ofChange composeLeastWrong)

/-- 'inlaylaw09.ComposeThrough': WHATEVER THE INPUT: true; the input reads as it did. -/
def composeThroughSpec : ChangeSpec := { name := "composeThrough", fn := fun _ => fun
  | [d1, d2] => { results := [.lit (.bool true)], args := [d1, d2] }
  | _ => none }
def composeThroughRow : OpenClaim := { program := "ythningkgpanaoaa", sum := "0f1e2bf3ea8646bde07cd401693aa243eed62c1a3ef51ed4cbd415a5e18bb64e", func := "inlay/inlaylaw09.ComposeThrough", spec := "composeThrough", unfollowed := true, recurses := true, apart := false }
def ComposeThroughSaid : Prop := composeThroughRow.holds Try.pinned (OpenSpec.ofChange composeThroughSpec)

/-- ITS FALSE NEIGHBOUR: 'it returns false'. Refute it at one input. -/
def composeThroughWrong : ChangeSpec := { name := "composeThrough", fn := fun _ => fun
  | [d1, d2] => { results := [.lit (.bool false)], args := [d1, d2] }
  | _ => none }
def ComposeThroughWrongFalsely : Prop := composeThroughRow.holds Try.pinned (OpenSpec.ofChange composeThroughWrong)

/-- 'inlaylaw12.SplitMatchesReference': WHATEVER THE INPUT: true; the input reads as it did. -/
def splitMatchesReferenceSpec : ChangeSpec := { name := "splitMatchesReference", fn := fun _ => fun
  | [d1, d2, d3] => { results := [.lit (.bool true)], args := [d1, d2, d3] }
  | _ => none }
def splitMatchesReferenceRow : OpenClaim := { program := "ythningkgpanaoaa", sum := "0f1e2bf3ea8646bde07cd401693aa243eed62c1a3ef51ed4cbd415a5e18bb64e", func := "inlay/inlaylaw12.SplitMatchesReference", spec := "splitMatchesReference", unfollowed := true, recurses := true, apart := false }
def SplitMatchesReferenceSaid : Prop := splitMatchesReferenceRow.holds Try.pinned (OpenSpec.ofChange splitMatchesReferenceSpec)

/-- ITS FALSE NEIGHBOUR: 'it returns false'. Refute it at one input. -/
def splitMatchesReferenceWrong : ChangeSpec := { name := "splitMatchesReference", fn := fun _ => fun
  | [d1, d2, d3] => { results := [.lit (.bool false)], args := [d1, d2, d3] }
  | _ => none }
def SplitMatchesReferenceWrongFalsely : Prop := splitMatchesReferenceRow.holds Try.pinned (OpenSpec.ofChange splitMatchesReferenceWrong)

/-- 'inlaylaw12.SplitLifted': WHATEVER THE INPUT: true; the input reads as it did. -/
def splitLiftedSpec : ChangeSpec := { name := "splitLifted", fn := fun _ => fun
  | [d1, d2] => { results := [.lit (.bool true)], args := [d1, d2] }
  | _ => none }
def splitLiftedRow : OpenClaim := { program := "ythningkgpanaoaa", sum := "0f1e2bf3ea8646bde07cd401693aa243eed62c1a3ef51ed4cbd415a5e18bb64e", func := "inlay/inlaylaw12.SplitLifted", spec := "splitLifted", unfollowed := true, recurses := true, apart := false }
def SplitLiftedSaid : Prop := splitLiftedRow.holds Try.pinned (OpenSpec.ofChange splitLiftedSpec)

/-- ITS FALSE NEIGHBOUR: 'it returns false'. Refute it at one input. -/
def splitLiftedWrong : ChangeSpec := { name := "splitLifted", fn := fun _ => fun
  | [d1, d2] => { results := [.lit (.bool false)], args := [d1, d2] }
  | _ => none }
def SplitLiftedWrongFalsely : Prop := splitLiftedRow.holds Try.pinned (OpenSpec.ofChange splitLiftedWrong)

/-- 'inlaylaw12.SplitRefuses': WHATEVER THE INPUT: true; the input reads as it did. -/
def splitRefusesSpec : ChangeSpec := { name := "splitRefuses", fn := fun _ => fun
  | [d1, d2, d3] => { results := [.lit (.bool true)], args := [d1, d2, d3] }
  | _ => none }
def splitRefusesRow : OpenClaim := { program := "ythningkgpanaoaa", sum := "0f1e2bf3ea8646bde07cd401693aa243eed62c1a3ef51ed4cbd415a5e18bb64e", func := "inlay/inlaylaw12.SplitRefuses", spec := "splitRefuses", unfollowed := true, recurses := true, apart := false }
def SplitRefusesSaid : Prop := splitRefusesRow.holds Try.pinned (OpenSpec.ofChange splitRefusesSpec)

/-- ITS FALSE NEIGHBOUR: 'it returns false'. Refute it at one input. -/
def splitRefusesWrong : ChangeSpec := { name := "splitRefuses", fn := fun _ => fun
  | [d1, d2, d3] => { results := [.lit (.bool false)], args := [d1, d2, d3] }
  | _ => none }
def SplitRefusesWrongFalsely : Prop := splitRefusesRow.holds Try.pinned (OpenSpec.ofChange splitRefusesWrong)

/- THE SECOND FORM. 'bulk': how many values and letters a reading holds, each counted each time it is reached (what is shared counts as often as it is met; a slice's spare places count too). A statement '..UptoSaid' is the law's where the arguments, and the package variables that the reading takes, are together of bulk at most 1048576: NARROWER than '..Said'. Prove '..Said' where nothing that the law and all that it calls make is longer than what came in: it says more and counts as full. Else prove '..UptoSaid'. A law counts once. -/
mutual
def uptoBulk {H : Type} : DataW H → Nat
  | .lit (.string bytes) => bytes.length + 1
  | .lit _ => 1
  | .nil => 1
  | .ptr d => uptoBulk d + 1
  | .slice elems spare => uptoBulkAll elems + uptoBulkAll spare + 1
  | .agg parts => uptoBulkAll parts + 1
  | .iface _ d => uptoBulk d + 1
  | .map entries => uptoBulkEntries entries + 1
  | .held _ => 1
def uptoBulkAll {H : Type} : List (DataW H) → Nat
  | [] => 0
  | d :: r => uptoBulk d + uptoBulkAll r
def uptoBulkEntries {H : Type} : List (Lit × DataW H) → Nat
  | [] => 0
  | x :: r => uptoBulkEntry x + uptoBulkEntries r
def uptoBulkEntry {H : Type} : Lit × DataW H → Nat
  | (.string bytes, d) => bytes.length + uptoBulk d + 1
  | (_, d) => uptoBulk d + 1
 end
def uptoSmall : (H : Type) → List (DataW H) → Bool := fun _ ds => decide (uptoBulkAll ds ≤ 1048576)
def OpenSpec.upto (s : _root_.Go.ChangeSpec) : _root_.Go.OpenSpec := { _root_.Go.OpenSpec.ofChange s with cond := some uptoSmall }

/-- 'inlaylaw09.ComposeMatchesReference', WHERE WHAT IT READS IS OF BULK AT MOST 1048576: true; the input reads as it did. -/
def composeMatchesReferenceUptoRow : OpenClaim := { program := "ythningkgpanaoaa", sum := "0f1e2bf3ea8646bde07cd401693aa243eed62c1a3ef51ed4cbd415a5e18bb64e", func := "inlay/inlaylaw09.ComposeMatchesReference", spec := "composeMatchesReference", unfollowed := true, recurses := true, apart := false, narrowed := true }
def ComposeMatchesReferenceUptoSaid : Prop := composeMatchesReferenceUptoRow.holds Try.pinned (OpenSpec.upto composeMatchesReferenceSpec)

/-- 'inlaylaw09.ComposeGroups', WHERE WHAT IT READS IS OF BULK AT MOST 1048576: true; the input reads as it did. -/
def composeGroupsUptoRow : OpenClaim := { program := "ythningkgpanaoaa", sum := "0f1e2bf3ea8646bde07cd401693aa243eed62c1a3ef51ed4cbd415a5e18bb64e", func := "inlay/inlaylaw09.ComposeGroups", spec := "composeGroups", unfollowed := true, recurses := true, apart := false, narrowed := true }
def ComposeGroupsUptoSaid : Prop := composeGroupsUptoRow.holds Try.pinned (OpenSpec.upto composeGroupsSpec)

/-- 'inlaylaw09.ComposeRefuses', WHERE WHAT IT READS IS OF BULK AT MOST 1048576: true; the input reads as it did. -/
def composeRefusesUptoRow : OpenClaim := { program := "ythningkgpanaoaa", sum := "0f1e2bf3ea8646bde07cd401693aa243eed62c1a3ef51ed4cbd415a5e18bb64e", func := "inlay/inlaylaw09.ComposeRefuses", spec := "composeRefuses", unfollowed := true, recurses := true, apart := false, narrowed := true }
def ComposeRefusesUptoSaid : Prop := composeRefusesUptoRow.holds Try.pinned (OpenSpec.upto composeRefusesSpec)

/-- 'inlaylaw09.ComposeWhole', WHERE WHAT IT READS IS OF BULK AT MOST 1048576: true; the input reads as it did. -/
def composeWholeUptoRow : OpenClaim := { program := "ythningkgpanaoaa", sum := "0f1e2bf3ea8646bde07cd401693aa243eed62c1a3ef51ed4cbd415a5e18bb64e", func := "inlay/inlaylaw09.ComposeWhole", spec := "composeWhole", unfollowed := true, recurses := true, apart := false, narrowed := true }
def ComposeWholeUptoSaid : Prop := composeWholeUptoRow.holds Try.pinned (OpenSpec.upto composeWholeSpec)

/-- 'inlaylaw09.ComposeLeast', WHERE WHAT IT READS IS OF BULK AT MOST 1048576: true; the input reads as it did. -/
def composeLeastUptoRow : OpenClaim := { program := "ythningkgpanaoaa", sum := "0f1e2bf3ea8646bde07cd401693aa243eed62c1a3ef51ed4cbd415a5e18bb64e", func := "inlay/inlaylaw09.ComposeLeast", spec := "composeLeast", unfollowed := true, recurses := true, apart := false, narrowed := true }
def ComposeLeastUptoSaid : Prop := composeLeastUptoRow.holds Try.pinned (OpenSpec.upto composeLeastSpec)

/-- 'inlaylaw09.ComposeThrough', WHERE WHAT IT READS IS OF BULK AT MOST 1048576: true; the input reads as it did. -/
def composeThroughUptoRow : OpenClaim := { program := "ythningkgpanaoaa", sum := "0f1e2bf3ea8646bde07cd401693aa243eed62c1a3ef51ed4cbd415a5e18bb64e", func := "inlay/inlaylaw09.ComposeThrough", spec := "composeThrough", unfollowed := true, recurses := true, apart := false, narrowed := true }
def ComposeThroughUptoSaid : Prop := composeThroughUptoRow.holds Try.pinned (OpenSpec.upto composeThroughSpec)

/-- 'inlaylaw12.SplitMatchesReference', WHERE WHAT IT READS IS OF BULK AT MOST 1048576: true; the input reads as it did. -/
def splitMatchesReferenceUptoRow : OpenClaim := { program := "ythningkgpanaoaa", sum := "0f1e2bf3ea8646bde07cd401693aa243eed62c1a3ef51ed4cbd415a5e18bb64e", func := "inlay/inlaylaw12.SplitMatchesReference", spec := "splitMatchesReference", unfollowed := true, recurses := true, apart := false, narrowed := true }
def SplitMatchesReferenceUptoSaid : Prop := splitMatchesReferenceUptoRow.holds Try.pinned (OpenSpec.upto splitMatchesReferenceSpec)

/-- 'inlaylaw12.SplitLifted', WHERE WHAT IT READS IS OF BULK AT MOST 1048576: true; the input reads as it did. -/
def splitLiftedUptoRow : OpenClaim := { program := "ythningkgpanaoaa", sum := "0f1e2bf3ea8646bde07cd401693aa243eed62c1a3ef51ed4cbd415a5e18bb64e", func := "inlay/inlaylaw12.SplitLifted", spec := "splitLifted", unfollowed := true, recurses := true, apart := false, narrowed := true }
def SplitLiftedUptoSaid : Prop := splitLiftedUptoRow.holds Try.pinned (OpenSpec.upto splitLiftedSpec)

/-- 'inlaylaw12.SplitRefuses', WHERE WHAT IT READS IS OF BULK AT MOST 1048576: true; the input reads as it did. -/
def splitRefusesUptoRow : OpenClaim := { program := "ythningkgpanaoaa", sum := "0f1e2bf3ea8646bde07cd401693aa243eed62c1a3ef51ed4cbd415a5e18bb64e", func := "inlay/inlaylaw12.SplitRefuses", spec := "splitRefuses", unfollowed := true, recurses := true, apart := false, narrowed := true }
def SplitRefusesUptoSaid : Prop := splitRefusesUptoRow.holds Try.pinned (OpenSpec.upto splitRefusesSpec)

end Rows
end Go.Proofs.Ythningkgpanaoaa
