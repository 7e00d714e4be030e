/-
  No cell of these rows narrows 'for every input' (looked for: loops, veiled, ifaces, maps, wideKeys, modest, calm, conditions, laid).
  DERIVED. THE GIVEN ROWS OF THIS SEAT. 2 by the template 'for every input the law returns true; each argument reads behind the call as it read before'; 0 by the template 'total and deterministic' (their statements: YtaklmbhfmpdinaaGreatTotals.lean).
  GIVEN WITH THE SEED: the statements are not yours to turn. If you find one false, say at which input.
  Laid BY PROGRAM, IN A SANDBOX (cutbox-rows.mjs): the forced cells as the released guide's own fill.sh prints them over the translation 454ad1d4df7afaa5… (all of the seat's roots in one cut). By AI agents, Wed Nov 11 2026. No macro, syntax, notation, axiom, sorry.
-/
import Derived.Test.YtaklmbhfmpdinaaGreatChecked
import GoSem.Claim
import GoSem.ClaimJoined
import GoSem.ClaimMapViews
import Derived.JoinedTies
import Derived.KernelRfl
namespace Go.Proofs.YtaklmbhfmpdinaaGreat
/- THE CELL 'sum', in the pinned program and in every row, IS THE sha256 OF THE DUMP (.gsa) THAT YtaklmbhfmpdinaaGreatProg.lean LOADS. Nothing in Lean hashes anything: it is a label: what it is worth is what the hold of that sum in a sandbox is worth. -/
noncomputable def Tryz.pinned : Pinned := { name := "ytaklmbhfmpdinaagreat", sum := "454ad1d4df7afaa512a951f7dd3a6cc43aca9e709781f70f2ba513da795866e4", checked := Tryz.checked }
namespace Rows
def none {H : Type} : Left H := { results := [], args := [] }

/-- 'inlaylaw10.InverseMatchesReference': WHATEVER THE INPUT: true; the input reads as it did. -/
def inverseMatchesReferenceSpec : ChangeSpec := { name := "inverseMatchesReference", fn := fun _ => fun
  | [d1, d2, d3] => { results := [.lit (.bool true)], args := [d1, d2, d3] }
  | _ => none }
def inverseMatchesReferenceRow : OpenClaim := { program := "ytaklmbhfmpdinaagreat", sum := "454ad1d4df7afaa512a951f7dd3a6cc43aca9e709781f70f2ba513da795866e4", func := "inlay/inlaylaw10.InverseMatchesReference", spec := "inverseMatchesReference", unfollowed := true, recurses := true, apart := false }
def InverseMatchesReferenceSaid : Prop := inverseMatchesReferenceRow.holds Tryz.pinned (OpenSpec.ofChange inverseMatchesReferenceSpec)

/-- ITS FALSE NEIGHBOUR: 'it returns false'. Refute it at one input. -/
def inverseMatchesReferenceWrong : ChangeSpec := { name := "inverseMatchesReference", fn := fun _ => fun
  | [d1, d2, d3] => { results := [.lit (.bool false)], args := [d1, d2, d3] }
  | _ => none }
def InverseMatchesReferenceWrongFalsely : Prop := inverseMatchesReferenceRow.holds Tryz.pinned (OpenSpec.ofChange inverseMatchesReferenceWrong)

/-- 'inlaylaw10.InverseCode': WHATEVER THE INPUT: true; the input reads as it did. -/
def inverseCodeSpec : ChangeSpec := { name := "inverseCode", fn := fun _ => fun
  | [d] => { results := [.lit (.bool true)], args := [d] }
  | _ => none }
def inverseCodeRow : OpenClaim := { program := "ytaklmbhfmpdinaagreat", sum := "454ad1d4df7afaa512a951f7dd3a6cc43aca9e709781f70f2ba513da795866e4", func := "inlay/inlaylaw10.InverseCode", spec := "inverseCode", unfollowed := true, recurses := true, apart := false }
def InverseCodeSaid : Prop := inverseCodeRow.holds Tryz.pinned (OpenSpec.ofChange inverseCodeSpec)

/-- ITS FALSE NEIGHBOUR: 'it returns false'. Refute it at one input. -/
def inverseCodeWrong : ChangeSpec := { name := "inverseCode", fn := fun _ => fun
  | [d] => { results := [.lit (.bool false)], args := [d] }
  | _ => none }
def InverseCodeWrongFalsely : Prop := inverseCodeRow.holds Tryz.pinned (OpenSpec.ofChange inverseCodeWrong)

/- THE SECOND FORM. 'bulk': how many values and letters a reading holds, each counted each time it is reached (what is shared counts as often as it is met; a slice's spare places count too). A statement '..UptoSaid' is the law's where the arguments, and the package variables that the reading takes, are together of bulk at most 1048576: NARROWER than '..Said'. Prove '..Said' where nothing that the law and all that it calls make is longer than what came in: it says more and counts as full. Else prove '..UptoSaid'. A law counts once. -/
mutual
def uptoBulk {H : Type} : DataW H → Nat
  | .lit (.string bytes) => bytes.length + 1
  | .lit _ => 1
  | .nil => 1
  | .ptr d => uptoBulk d + 1
  | .slice elems spare => uptoBulkAll elems + uptoBulkAll spare + 1
  | .agg parts => uptoBulkAll parts + 1
  | .iface _ d => uptoBulk d + 1
  | .map entries => uptoBulkEntries entries + 1
  | .held _ => 1
def uptoBulkAll {H : Type} : List (DataW H) → Nat
  | [] => 0
  | d :: r => uptoBulk d + uptoBulkAll r
def uptoBulkEntries {H : Type} : List (Lit × DataW H) → Nat
  | [] => 0
  | x :: r => uptoBulkEntry x + uptoBulkEntries r
def uptoBulkEntry {H : Type} : Lit × DataW H → Nat
  | (.string bytes, d) => bytes.length + uptoBulk d + 1
  | (_, d) => uptoBulk d + 1
 end
def uptoSmall : (H : Type) → List (DataW H) → Bool := fun _ ds => decide (uptoBulkAll ds ≤ 1048576)
def OpenSpec.upto (s : _root_.Go.ChangeSpec) : _root_.Go.OpenSpec := { _root_.Go.OpenSpec.ofChange s with cond := some uptoSmall }

/-- 'inlaylaw10.InverseMatchesReference', WHERE WHAT IT READS IS OF BULK AT MOST 1048576: true; the input reads as it did. -/
def inverseMatchesReferenceUptoRow : OpenClaim := { program := "ytaklmbhfmpdinaagreat", sum := "454ad1d4df7afaa512a951f7dd3a6cc43aca9e709781f70f2ba513da795866e4", func := "inlay/inlaylaw10.InverseMatchesReference", spec := "inverseMatchesReference", unfollowed := true, recurses := true, apart := false, narrowed := true }
def InverseMatchesReferenceUptoSaid : Prop := inverseMatchesReferenceUptoRow.holds Tryz.pinned (OpenSpec.upto inverseMatchesReferenceSpec)

/-- 'inlaylaw10.InverseCode', WHERE WHAT IT READS IS OF BULK AT MOST 1048576: true; the input reads as it did. -/
def inverseCodeUptoRow : OpenClaim := { program := "ytaklmbhfmpdinaagreat", sum := "454ad1d4df7afaa512a951f7dd3a6cc43aca9e709781f70f2ba513da795866e4", func := "inlay/inlaylaw10.InverseCode", spec := "inverseCode", unfollowed := true, recurses := true, apart := false, narrowed := true }
def InverseCodeUptoSaid : Prop := inverseCodeUptoRow.holds Tryz.pinned (OpenSpec.upto inverseCodeSpec)

end Rows
end Go.Proofs.YtaklmbhfmpdinaaGreat
