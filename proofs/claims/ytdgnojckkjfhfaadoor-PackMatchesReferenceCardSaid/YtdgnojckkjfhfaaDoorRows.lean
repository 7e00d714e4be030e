/-
  NARROWER THAN 'FOR EVERY INPUT', by the rows' own cells (each row's printed sentence says how): PackMatchesReference: laid · PackOnly: laid · PackDamage: laid · PackLengths: laid · PackRefuses: laid · PackSizes: laid.
  DERIVED. THE GIVEN ROWS OF THIS SEAT. 6 by the template 'for every input the law returns true; each argument reads behind the call as it read before'; 0 by the template 'total and deterministic' (their statements: YtdgnojckkjfhfaaDoorTotals.lean).
  GIVEN WITH THE SEED: the statements are not yours to turn. If you find one false, say at which input.
  Laid BY PROGRAM, IN A SANDBOX (cutbox-rows.mjs): the forced cells as the released guide's own fill.sh prints them over the translation f2902597ed8ab04a… (all of the seat's roots in one cut). By AI agents, Wed Nov 11 2026. No macro, syntax, notation, axiom, sorry.
-/
import Derived.Test.YtdgnojckkjfhfaaDoorChecked
import GoSem.PinnedTables
import GoSem.Claim
import GoSem.ClaimJoined
import GoSem.ClaimMapViews
import Derived.JoinedTies
import Derived.KernelRfl
namespace Go.Proofs.YtdgnojckkjfhfaaDoor
/- THE CELL 'sum', in the pinned program and in every row, IS THE sha256 OF THE DUMP (.gsa) THAT YtdgnojckkjfhfaaDoorProg.lean LOADS. Nothing in Lean hashes anything: it is a label: what it is worth is what the hold of that sum in a sandbox is worth. -/
noncomputable def Tryd.pinned : Pinned := { name := "ytdgnojckkjfhfaadoor", sum := "f2902597ed8ab04a7c8478f65fe71c0dfeb332ad26027baf6dcc03dd0d8fcf45", checked := Tryd.checked }
namespace Rows
def none {H : Type} : Left H := { results := [], args := [] }

/- WHAT THE LISTED PACKAGE-LEVEL VARIABLES READ AS WHEN THE CALL BEGINS. Each datum BY PROGRAM (the guide's laid-datum.mjs) off the statement by which the dump's own 'gosem.cut.vars' lays the variable. In a bare row this is a premise. The card (YtdgnojckkjfhfaaDoorCards.lean) ties it to the program's text. -/
def laid_unicode_utf8_acceptRanges {H : Type} : DataW H := .agg [.agg [.lit (.int .u8 128), .lit (.int .u8 191)], .agg [.lit (.int .u8 160), .lit (.int .u8 191)], .agg [.lit (.int .u8 128), .lit (.int .u8 159)], .agg [.lit (.int .u8 144), .lit (.int .u8 191)], .agg [.lit (.int .u8 128), .lit (.int .u8 143)], .agg [.lit (.int .u8 0), .lit (.int .u8 0)], .agg [.lit (.int .u8 0), .lit (.int .u8 0)], .agg [.lit (.int .u8 0), .lit (.int .u8 0)], .agg [.lit (.int .u8 0), .lit (.int .u8 0)], .agg [.lit (.int .u8 0), .lit (.int .u8 0)], .agg [.lit (.int .u8 0), .lit (.int .u8 0)], .agg [.lit (.int .u8 0), .lit (.int .u8 0)], .agg [.lit (.int .u8 0), .lit (.int .u8 0)], .agg [.lit (.int .u8 0), .lit (.int .u8 0)], .agg [.lit (.int .u8 0), .lit (.int .u8 0)], .agg [.lit (.int .u8 0), .lit (.int .u8 0)]]
/-- One of Go's own tables, pinned by name: the form's constant. -/
def laid_unicode_utf8_first : DataW Unit := Go.Pinned.utf8First

/-- 'inlaylaw14.PackMatchesReference': WHATEVER THE INPUT: true; the input reads as it did. -/
def packMatchesReferenceSpec : ChangeSpec := { name := "packMatchesReference", fn := fun _ => fun
  | [d1, d2, d3] => { results := [.lit (.bool true)], args := [d1, d2, d3] }
  | _ => none }
def packMatchesReferenceRow : OpenClaim := { program := "ytdgnojckkjfhfaadoor", sum := "f2902597ed8ab04a7c8478f65fe71c0dfeb332ad26027baf6dcc03dd0d8fcf45", func := "inlay/inlaylaw14.PackMatchesReference", spec := "packMatchesReference", unfollowed := true, recurses := true, named := ["unicode/utf8.first", "unicode/utf8.acceptRanges"], apart := false, laid := [("unicode/utf8.acceptRanges", laid_unicode_utf8_acceptRanges), ("unicode/utf8.first", laid_unicode_utf8_first)] }
def PackMatchesReferenceSaid : Prop := packMatchesReferenceRow.holds Tryd.pinned (OpenSpec.ofChange packMatchesReferenceSpec)

/-- ITS FALSE NEIGHBOUR: 'it returns false'. Refute it at one input. -/
def packMatchesReferenceWrong : ChangeSpec := { name := "packMatchesReference", fn := fun _ => fun
  | [d1, d2, d3] => { results := [.lit (.bool false)], args := [d1, d2, d3] }
  | _ => none }
def PackMatchesReferenceWrongFalsely : Prop := packMatchesReferenceRow.holds Tryd.pinned (OpenSpec.ofChange packMatchesReferenceWrong)

/-- 'inlaylaw14.PackOnly': WHATEVER THE INPUT: true; the input reads as it did. -/
def packOnlySpec : ChangeSpec := { name := "packOnly", fn := fun _ => fun
  | [d1, d2, d3] => { results := [.lit (.bool true)], args := [d1, d2, d3] }
  | _ => none }
def packOnlyRow : OpenClaim := { program := "ytdgnojckkjfhfaadoor", sum := "f2902597ed8ab04a7c8478f65fe71c0dfeb332ad26027baf6dcc03dd0d8fcf45", func := "inlay/inlaylaw14.PackOnly", spec := "packOnly", unfollowed := true, recurses := true, named := ["unicode/utf8.first", "unicode/utf8.acceptRanges"], apart := false, laid := [("unicode/utf8.acceptRanges", laid_unicode_utf8_acceptRanges), ("unicode/utf8.first", laid_unicode_utf8_first)] }
def PackOnlySaid : Prop := packOnlyRow.holds Tryd.pinned (OpenSpec.ofChange packOnlySpec)

/-- ITS FALSE NEIGHBOUR: 'it returns false'. Refute it at one input. -/
def packOnlyWrong : ChangeSpec := { name := "packOnly", fn := fun _ => fun
  | [d1, d2, d3] => { results := [.lit (.bool false)], args := [d1, d2, d3] }
  | _ => none }
def PackOnlyWrongFalsely : Prop := packOnlyRow.holds Tryd.pinned (OpenSpec.ofChange packOnlyWrong)

/-- 'inlaylaw14.PackDamage': WHATEVER THE INPUT: true; the input reads as it did. -/
def packDamageSpec : ChangeSpec := { name := "packDamage", fn := fun _ => fun
  | [d1, d2, d3] => { results := [.lit (.bool true)], args := [d1, d2, d3] }
  | _ => none }
def packDamageRow : OpenClaim := { program := "ytdgnojckkjfhfaadoor", sum := "f2902597ed8ab04a7c8478f65fe71c0dfeb332ad26027baf6dcc03dd0d8fcf45", func := "inlay/inlaylaw14.PackDamage", spec := "packDamage", unfollowed := true, recurses := true, named := ["unicode/utf8.first", "unicode/utf8.acceptRanges"], apart := false, laid := [("unicode/utf8.acceptRanges", laid_unicode_utf8_acceptRanges), ("unicode/utf8.first", laid_unicode_utf8_first)] }
def PackDamageSaid : Prop := packDamageRow.holds Tryd.pinned (OpenSpec.ofChange packDamageSpec)

/-- ITS FALSE NEIGHBOUR: 'it returns false'. Refute it at one input. -/
def packDamageWrong : ChangeSpec := { name := "packDamage", fn := fun _ => fun
  | [d1, d2, d3] => { results := [.lit (.bool false)], args := [d1, d2, d3] }
  | _ => none }
def PackDamageWrongFalsely : Prop := packDamageRow.holds Tryd.pinned (OpenSpec.ofChange packDamageWrong)

/-- 'inlaylaw14.PackLengths': WHATEVER THE INPUT: true; the input reads as it did. -/
def packLengthsSpec : ChangeSpec := { name := "packLengths", fn := fun _ => fun
  | [d1, d2, d3] => { results := [.lit (.bool true)], args := [d1, d2, d3] }
  | _ => none }
def packLengthsRow : OpenClaim := { program := "ytdgnojckkjfhfaadoor", sum := "f2902597ed8ab04a7c8478f65fe71c0dfeb332ad26027baf6dcc03dd0d8fcf45", func := "inlay/inlaylaw14.PackLengths", spec := "packLengths", unfollowed := true, recurses := true, named := ["unicode/utf8.first", "unicode/utf8.acceptRanges"], apart := false, laid := [("unicode/utf8.acceptRanges", laid_unicode_utf8_acceptRanges), ("unicode/utf8.first", laid_unicode_utf8_first)] }
def PackLengthsSaid : Prop := packLengthsRow.holds Tryd.pinned (OpenSpec.ofChange packLengthsSpec)

/-- ITS FALSE NEIGHBOUR: 'it returns false'. Refute it at one input. -/
def packLengthsWrong : ChangeSpec := { name := "packLengths", fn := fun _ => fun
  | [d1, d2, d3] => { results := [.lit (.bool false)], args := [d1, d2, d3] }
  | _ => none }
def PackLengthsWrongFalsely : Prop := packLengthsRow.holds Tryd.pinned (OpenSpec.ofChange packLengthsWrong)

/-- 'inlaylaw14.PackRefuses': WHATEVER THE INPUT: true; the input reads as it did. -/
def packRefusesSpec : ChangeSpec := { name := "packRefuses", fn := fun _ => fun
  | [d1, d2] => { results := [.lit (.bool true)], args := [d1, d2] }
  | _ => none }
def packRefusesRow : OpenClaim := { program := "ytdgnojckkjfhfaadoor", sum := "f2902597ed8ab04a7c8478f65fe71c0dfeb332ad26027baf6dcc03dd0d8fcf45", func := "inlay/inlaylaw14.PackRefuses", spec := "packRefuses", unfollowed := true, recurses := true, named := ["unicode/utf8.first", "unicode/utf8.acceptRanges"], apart := false, laid := [("unicode/utf8.acceptRanges", laid_unicode_utf8_acceptRanges), ("unicode/utf8.first", laid_unicode_utf8_first)] }
def PackRefusesSaid : Prop := packRefusesRow.holds Tryd.pinned (OpenSpec.ofChange packRefusesSpec)

/-- ITS FALSE NEIGHBOUR: 'it returns false'. Refute it at one input. -/
def packRefusesWrong : ChangeSpec := { name := "packRefuses", fn := fun _ => fun
  | [d1, d2] => { results := [.lit (.bool false)], args := [d1, d2] }
  | _ => none }
def PackRefusesWrongFalsely : Prop := packRefusesRow.holds Tryd.pinned (OpenSpec.ofChange packRefusesWrong)

/-- 'inlaylaw14.PackSizes': WHATEVER THE INPUT: true; the input reads as it did. -/
def packSizesSpec : ChangeSpec := { name := "packSizes", fn := fun _ => fun
  | [d1, d2] => { results := [.lit (.bool true)], args := [d1, d2] }
  | _ => none }
def packSizesRow : OpenClaim := { program := "ytdgnojckkjfhfaadoor", sum := "f2902597ed8ab04a7c8478f65fe71c0dfeb332ad26027baf6dcc03dd0d8fcf45", func := "inlay/inlaylaw14.PackSizes", spec := "packSizes", unfollowed := true, recurses := true, named := ["unicode/utf8.first", "unicode/utf8.acceptRanges"], apart := false, laid := [("unicode/utf8.acceptRanges", laid_unicode_utf8_acceptRanges), ("unicode/utf8.first", laid_unicode_utf8_first)] }
def PackSizesSaid : Prop := packSizesRow.holds Tryd.pinned (OpenSpec.ofChange packSizesSpec)

/-- ITS FALSE NEIGHBOUR: 'it returns false'. Refute it at one input. -/
def packSizesWrong : ChangeSpec := { name := "packSizes", fn := fun _ => fun
  | [d1, d2] => { results := [.lit (.bool false)], args := [d1, d2] }
  | _ => none }
def PackSizesWrongFalsely : Prop := packSizesRow.holds Tryd.pinned (OpenSpec.ofChange packSizesWrong)

/- THE SECOND FORM. 'bulk': how many values and letters a reading holds, each counted each time it is reached (what is shared counts as often as it is met; a slice's spare places count too). A statement '..UptoSaid' is the law's where the arguments, and the package variables that the reading takes, are together of bulk at most 1048576: NARROWER than '..Said'. Prove '..Said' where nothing that the law and all that it calls make is longer than what came in: it says more and counts as full. Else prove '..UptoSaid'. A law counts once. -/
mutual
def uptoBulk {H : Type} : DataW H → Nat
  | .lit (.string bytes) => bytes.length + 1
  | .lit _ => 1
  | .nil => 1
  | .ptr d => uptoBulk d + 1
  | .slice elems spare => uptoBulkAll elems + uptoBulkAll spare + 1
  | .agg parts => uptoBulkAll parts + 1
  | .iface _ d => uptoBulk d + 1
  | .map entries => uptoBulkEntries entries + 1
  | .held _ => 1
def uptoBulkAll {H : Type} : List (DataW H) → Nat
  | [] => 0
  | d :: r => uptoBulk d + uptoBulkAll r
def uptoBulkEntries {H : Type} : List (Lit × DataW H) → Nat
  | [] => 0
  | x :: r => uptoBulkEntry x + uptoBulkEntries r
def uptoBulkEntry {H : Type} : Lit × DataW H → Nat
  | (.string bytes, d) => bytes.length + uptoBulk d + 1
  | (_, d) => uptoBulk d + 1
 end
def uptoSmall : (H : Type) → List (DataW H) → Bool := fun _ ds => decide (uptoBulkAll ds ≤ 1048576)
def OpenSpec.upto (s : _root_.Go.ChangeSpec) : _root_.Go.OpenSpec := { _root_.Go.OpenSpec.ofChange s with cond := some uptoSmall }

/-- 'inlaylaw14.PackMatchesReference', WHERE WHAT IT READS IS OF BULK AT MOST 1048576: true; the input reads as it did. -/
def packMatchesReferenceUptoRow : OpenClaim := { program := "ytdgnojckkjfhfaadoor", sum := "f2902597ed8ab04a7c8478f65fe71c0dfeb332ad26027baf6dcc03dd0d8fcf45", func := "inlay/inlaylaw14.PackMatchesReference", spec := "packMatchesReference", unfollowed := true, recurses := true, named := ["unicode/utf8.first", "unicode/utf8.acceptRanges"], apart := false, laid := [("unicode/utf8.acceptRanges", laid_unicode_utf8_acceptRanges), ("unicode/utf8.first", laid_unicode_utf8_first)], narrowed := true }
def PackMatchesReferenceUptoSaid : Prop := packMatchesReferenceUptoRow.holds Tryd.pinned (OpenSpec.upto packMatchesReferenceSpec)

/-- 'inlaylaw14.PackOnly', WHERE WHAT IT READS IS OF BULK AT MOST 1048576: true; the input reads as it did. -/
def packOnlyUptoRow : OpenClaim := { program := "ytdgnojckkjfhfaadoor", sum := "f2902597ed8ab04a7c8478f65fe71c0dfeb332ad26027baf6dcc03dd0d8fcf45", func := "inlay/inlaylaw14.PackOnly", spec := "packOnly", unfollowed := true, recurses := true, named := ["unicode/utf8.first", "unicode/utf8.acceptRanges"], apart := false, laid := [("unicode/utf8.acceptRanges", laid_unicode_utf8_acceptRanges), ("unicode/utf8.first", laid_unicode_utf8_first)], narrowed := true }
def PackOnlyUptoSaid : Prop := packOnlyUptoRow.holds Tryd.pinned (OpenSpec.upto packOnlySpec)

/-- 'inlaylaw14.PackDamage', WHERE WHAT IT READS IS OF BULK AT MOST 1048576: true; the input reads as it did. -/
def packDamageUptoRow : OpenClaim := { program := "ytdgnojckkjfhfaadoor", sum := "f2902597ed8ab04a7c8478f65fe71c0dfeb332ad26027baf6dcc03dd0d8fcf45", func := "inlay/inlaylaw14.PackDamage", spec := "packDamage", unfollowed := true, recurses := true, named := ["unicode/utf8.first", "unicode/utf8.acceptRanges"], apart := false, laid := [("unicode/utf8.acceptRanges", laid_unicode_utf8_acceptRanges), ("unicode/utf8.first", laid_unicode_utf8_first)], narrowed := true }
def PackDamageUptoSaid : Prop := packDamageUptoRow.holds Tryd.pinned (OpenSpec.upto packDamageSpec)

/-- 'inlaylaw14.PackLengths', WHERE WHAT IT READS IS OF BULK AT MOST 1048576: true; the input reads as it did. -/
def packLengthsUptoRow : OpenClaim := { program := "ytdgnojckkjfhfaadoor", sum := "f2902597ed8ab04a7c8478f65fe71c0dfeb332ad26027baf6dcc03dd0d8fcf45", func := "inlay/inlaylaw14.PackLengths", spec := "packLengths", unfollowed := true, recurses := true, named := ["unicode/utf8.first", "unicode/utf8.acceptRanges"], apart := false, laid := [("unicode/utf8.acceptRanges", laid_unicode_utf8_acceptRanges), ("unicode/utf8.first", laid_unicode_utf8_first)], narrowed := true }
def PackLengthsUptoSaid : Prop := packLengthsUptoRow.holds Tryd.pinned (OpenSpec.upto packLengthsSpec)

/-- 'inlaylaw14.PackRefuses', WHERE WHAT IT READS IS OF BULK AT MOST 1048576: true; the input reads as it did. -/
def packRefusesUptoRow : OpenClaim := { program := "ytdgnojckkjfhfaadoor", sum := "f2902597ed8ab04a7c8478f65fe71c0dfeb332ad26027baf6dcc03dd0d8fcf45", func := "inlay/inlaylaw14.PackRefuses", spec := "packRefuses", unfollowed := true, recurses := true, named := ["unicode/utf8.first", "unicode/utf8.acceptRanges"], apart := false, laid := [("unicode/utf8.acceptRanges", laid_unicode_utf8_acceptRanges), ("unicode/utf8.first", laid_unicode_utf8_first)], narrowed := true }
def PackRefusesUptoSaid : Prop := packRefusesUptoRow.holds Tryd.pinned (OpenSpec.upto packRefusesSpec)

/-- 'inlaylaw14.PackSizes', WHERE WHAT IT READS IS OF BULK AT MOST 1048576: true; the input reads as it did. -/
def packSizesUptoRow : OpenClaim := { program := "ytdgnojckkjfhfaadoor", sum := "f2902597ed8ab04a7c8478f65fe71c0dfeb332ad26027baf6dcc03dd0d8fcf45", func := "inlay/inlaylaw14.PackSizes", spec := "packSizes", unfollowed := true, recurses := true, named := ["unicode/utf8.first", "unicode/utf8.acceptRanges"], apart := false, laid := [("unicode/utf8.acceptRanges", laid_unicode_utf8_acceptRanges), ("unicode/utf8.first", laid_unicode_utf8_first)], narrowed := true }
def PackSizesUptoSaid : Prop := packSizesUptoRow.holds Tryd.pinned (OpenSpec.upto packSizesSpec)

end Rows
end Go.Proofs.YtdgnojckkjfhfaaDoor
