/-
  No cell of these rows narrows 'for every input' (looked for: loops, veiled, ifaces, maps, wideKeys, modest, calm, conditions, laid).
  DERIVED. THE GIVEN ROWS OF THIS SEAT. 4 by the template 'for every input the law returns true; each argument reads behind the call as it read before'; 0 by the template 'total and deterministic' (their statements: YtalemnjjljnnpaaTotals.lean).
  GIVEN WITH THE SEED: the statements are not yours to turn. If you find one false, say at which input.
  Laid BY PROGRAM, IN A SANDBOX (cutbox-rows.mjs): the forced cells as the released guide's own fill.sh prints them over the translation 7f70970829f50609… (all of the seat's roots in one cut). By AI agents, Wed Nov 11 2026. No macro, syntax, notation, axiom, sorry.
-/
import Derived.Test.YtalemnjjljnnpaaChecked
import GoSem.Claim
import GoSem.ClaimJoined
import GoSem.ClaimMapViews
import Derived.JoinedTies
import Derived.KernelRfl
namespace Go.Proofs.Ytalemnjjljnnpaa
/- THE CELL 'sum', in the pinned program and in every row, IS THE sha256 OF THE DUMP (.gsa) THAT YtalemnjjljnnpaaProg.lean LOADS. Nothing in Lean hashes anything: it is a label: what it is worth is what the hold of that sum in a sandbox is worth. -/
noncomputable def Try.pinned : Pinned := { name := "ytalemnjjljnnpaa", sum := "7f70970829f50609b394c27ca9345795adc324e4d8c49b1b896ab064ff8fc868", checked := Try.checked }
namespace Rows
def none {H : Type} : Left H := { results := [], args := [] }

/-- 'inlaylaw11.MergeMatchesReference': WHATEVER THE INPUT: true; the input reads as it did. -/
def mergeMatchesReferenceSpec : ChangeSpec := { name := "mergeMatchesReference", fn := fun _ => fun
  | [d1, d2, d3] => { results := [.lit (.bool true)], args := [d1, d2, d3] }
  | _ => none }
def mergeMatchesReferenceRow : OpenClaim := { program := "ytalemnjjljnnpaa", sum := "7f70970829f50609b394c27ca9345795adc324e4d8c49b1b896ab064ff8fc868", func := "inlay/inlaylaw11.MergeMatchesReference", spec := "mergeMatchesReference", unfollowed := true, recurses := true, apart := false }
def MergeMatchesReferenceSaid : Prop := mergeMatchesReferenceRow.holds Try.pinned (OpenSpec.ofChange mergeMatchesReferenceSpec)

/-- ITS FALSE NEIGHBOUR: 'it returns false'. Refute it at one input. -/
def mergeMatchesReferenceWrong : ChangeSpec := { name := "mergeMatchesReference", fn := fun _ => fun
  | [d1, d2, d3] => { results := [.lit (.bool false)], args := [d1, d2, d3] }
  | _ => none }
def MergeMatchesReferenceWrongFalsely : Prop := mergeMatchesReferenceRow.holds Try.pinned (OpenSpec.ofChange mergeMatchesReferenceWrong)

/-- 'inlaylaw11.MergeClashes': WHATEVER THE INPUT: true; the input reads as it did. -/
def mergeClashesSpec : ChangeSpec := { name := "mergeClashes", fn := fun _ => fun
  | [d] => { results := [.lit (.bool true)], args := [d] }
  | _ => none }
def mergeClashesRow : OpenClaim := { program := "ytalemnjjljnnpaa", sum := "7f70970829f50609b394c27ca9345795adc324e4d8c49b1b896ab064ff8fc868", func := "inlay/inlaylaw11.MergeClashes", spec := "mergeClashes", unfollowed := true, recurses := true, apart := false }
def MergeClashesSaid : Prop := mergeClashesRow.holds Try.pinned (OpenSpec.ofChange mergeClashesSpec)

/-- ITS FALSE NEIGHBOUR: 'it returns false'. Refute it at one input. -/
def mergeClashesWrong : ChangeSpec := { name := "mergeClashes", fn := fun _ => fun
  | [d] => { results := [.lit (.bool false)], args := [d] }
  | _ => none }
def MergeClashesWrongFalsely : Prop := mergeClashesRow.holds Try.pinned (OpenSpec.ofChange mergeClashesWrong)

/-- 'inlaylaw11.MergeOrder': WHATEVER THE INPUT: true; the input reads as it did. -/
def mergeOrderSpec : ChangeSpec := { name := "mergeOrder", fn := fun _ => fun
  | [d] => { results := [.lit (.bool true)], args := [d] }
  | _ => none }
def mergeOrderRow : OpenClaim := { program := "ytalemnjjljnnpaa", sum := "7f70970829f50609b394c27ca9345795adc324e4d8c49b1b896ab064ff8fc868", func := "inlay/inlaylaw11.MergeOrder", spec := "mergeOrder", unfollowed := true, recurses := true, apart := false }
def MergeOrderSaid : Prop := mergeOrderRow.holds Try.pinned (OpenSpec.ofChange mergeOrderSpec)

/-- ITS FALSE NEIGHBOUR: 'it returns false'. Refute it at one input. -/
def mergeOrderWrong : ChangeSpec := { name := "mergeOrder", fn := fun _ => fun
  | [d] => { results := [.lit (.bool false)], args := [d] }
  | _ => none }
def MergeOrderWrongFalsely : Prop := mergeOrderRow.holds Try.pinned (OpenSpec.ofChange mergeOrderWrong)

/-- 'inlaylaw11.MergeRefuses': WHATEVER THE INPUT: true; the input reads as it did. -/
def mergeRefusesSpec : ChangeSpec := { name := "mergeRefuses", fn := fun _ => fun
  | [d1, d2] => { results := [.lit (.bool true)], args := [d1, d2] }
  | _ => none }
def mergeRefusesRow : OpenClaim := { program := "ytalemnjjljnnpaa", sum := "7f70970829f50609b394c27ca9345795adc324e4d8c49b1b896ab064ff8fc868", func := "inlay/inlaylaw11.MergeRefuses", spec := "mergeRefuses", unfollowed := true, recurses := true, apart := false }
def MergeRefusesSaid : Prop := mergeRefusesRow.holds Try.pinned (OpenSpec.ofChange mergeRefusesSpec)

/-- ITS FALSE NEIGHBOUR: 'it returns false'. Refute it at one input. -/
def mergeRefusesWrong : ChangeSpec := { name := "mergeRefuses", fn := fun _ => fun
  | [d1, d2] => { results := [.lit (.bool false)], args := [d1, d2] }
  | _ => none }
def MergeRefusesWrongFalsely : Prop := mergeRefusesRow.holds Try.pinned (OpenSpec.ofChange mergeRefusesWrong)

/- THE SECOND FORM. 'bulk': how many values and letters a reading holds, each counted each time it is reached (what is shared counts as often as it is met; a slice's spare places count too). A statement '..UptoSaid' is the law's where the arguments, and the package variables that the reading takes, are together of bulk at most 1048576: NARROWER than '..Said'. Prove '..Said' where nothing that the law and all that it calls make is longer than what came in: it says more and counts as full. Else prove '..UptoSaid'. A law counts once. -/
mutual
def uptoBulk {H : Type} : DataW H → Nat
  | .lit (.string bytes) => bytes.length + 1
  | .lit _ => 1
  | .nil => 1
  | .ptr d => uptoBulk d + 1
  | .slice elems spare => uptoBulkAll elems + uptoBulkAll spare + 1
  | .agg parts => uptoBulkAll parts + 1
  | .iface _ d => uptoBulk d + 1
  | .map entries => uptoBulkEntries entries + 1
  | .held _ => 1
def uptoBulkAll {H : Type} : List (DataW H) → Nat
  | [] => 0
  | d :: r => uptoBulk d + uptoBulkAll r
def uptoBulkEntries {H : Type} : List (Lit × DataW H) → Nat
  | [] => 0
  | x :: r => uptoBulkEntry x + uptoBulkEntries r
def uptoBulkEntry {H : Type} : Lit × DataW H → Nat
  | (.string bytes, d) => bytes.length + uptoBulk d + 1
  | (_, d) => uptoBulk d + 1
 end
def uptoSmall : (H : Type) → List (DataW H) → Bool := fun _ ds => decide (uptoBulkAll ds ≤ 1048576)
def OpenSpec.upto (s : _root_.Go.ChangeSpec) : _root_.Go.OpenSpec := { _root_.Go.OpenSpec.ofChange s with cond := some uptoSmall }

/-- 'inlaylaw11.MergeMatchesReference', WHERE WHAT IT READS IS OF BULK AT MOST 1048576: true; the input reads as it did. -/
def mergeMatchesReferenceUptoRow : OpenClaim := { program := "ytalemnjjljnnpaa", sum := "7f70970829f50609b394c27ca9345795adc324e4d8c49b1b896ab064ff8fc868", func := "inlay/inlaylaw11.MergeMatchesReference", spec := "mergeMatchesReference", unfollowed := true, recurses := true, apart := false, narrowed := true }
def MergeMatchesReferenceUptoSaid : Prop := mergeMatchesReferenceUptoRow.holds Try.pinned (OpenSpec.upto mergeMatchesReferenceSpec)

/-- 'inlaylaw11.MergeClashes', WHERE WHAT IT READS IS OF BULK AT MOST 1048576: true; the input reads as it did. -/
def mergeClashesUptoRow : OpenClaim := { program := "ytalemnjjljnnpaa", sum := "7f70970829f50609b394c27ca9345795adc324e4d8c49b1b896ab064ff8fc868", func := "inlay/inlaylaw11.MergeClashes", spec := "mergeClashes", unfollowed := true, recurses := true, apart := false, narrowed := true }
def MergeClashesUptoSaid : Prop := mergeClashesUptoRow.holds Try.pinned (OpenSpec.upto mergeClashesSpec)

/-- 'inlaylaw11.MergeOrder', WHERE WHAT IT READS IS OF BULK AT MOST 1048576: true; the input reads as it did. -/
def mergeOrderUptoRow : OpenClaim := { program := "ytalemnjjljnnpaa", sum := "7f70970829f50609b394c27ca9345795adc324e4d8c49b1b896ab064ff8fc868", func := "inlay/inlaylaw11.MergeOrder", spec := "mergeOrder", unfollowed := true, recurses := true, apart := false, narrowed := true }
def MergeOrderUptoSaid : Prop := mergeOrderUptoRow.holds Try.pinned (OpenSpec.upto mergeOrderSpec)

/-- 'inlaylaw11.MergeRefuses', WHERE WHAT IT READS IS OF BULK AT MOST 1048576: true; the input reads as it did. -/
def mergeRefusesUptoRow : OpenClaim := { program := "ytalemnjjljnnpaa", sum := "7f70970829f50609b394c27ca9345795adc324e4d8c49b1b896ab064ff8fc868", func := "inlay/inlaylaw11.MergeRefuses", spec := "mergeRefuses", unfollowed := true, recurses := true, apart := false, narrowed := true }
def MergeRefusesUptoSaid : Prop := mergeRefusesUptoRow.holds Try.pinned (OpenSpec.upto mergeRefusesSpec)

end Rows
end Go.Proofs.Ytalemnjjljnnpaa
