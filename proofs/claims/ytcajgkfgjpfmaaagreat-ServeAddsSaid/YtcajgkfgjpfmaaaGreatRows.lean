/-
  No cell of these rows narrows 'for every input' (looked for: loops, veiled, ifaces, maps, wideKeys, modest, calm, conditions, laid).
  DERIVED. THE GIVEN ROWS OF THIS SEAT. 8 by the template 'for every input the law returns true; each argument reads behind the call as it read before'; 0 by the template 'total and deterministic' (their statements: YtcajgkfgjpfmaaaGreatTotals.lean).
  GIVEN WITH THE SEED: the statements are not yours to turn. If you find one false, say at which input.
  Laid BY PROGRAM, IN A SANDBOX (cutbox-rows.mjs): the forced cells as the released guide's own fill.sh prints them over the translation c86fe4b5e5dd7af3… (all of the seat's roots in one cut). By AI agents, Wed Nov 11 2026. No macro, syntax, notation, axiom, sorry.
-/
import Derived.Test.YtcajgkfgjpfmaaaGreatChecked
import GoSem.Claim
import GoSem.ClaimJoined
import GoSem.ClaimMapViews
import Derived.JoinedTies
import Derived.KernelRfl
namespace Go.Proofs.YtcajgkfgjpfmaaaGreat
/- THE CELL 'sum', in the pinned program and in every row, IS THE sha256 OF THE DUMP (.gsa) THAT YtcajgkfgjpfmaaaGreatProg.lean LOADS. Nothing in Lean hashes anything: it is a label: what it is worth is what the hold of that sum in a sandbox is worth. -/
noncomputable def Tryz.pinned : Pinned := { name := "ytcajgkfgjpfmaaagreat", sum := "c86fe4b5e5dd7af3d950d2c47d0e9bb6b0e5f68b6ea2a5cd3d7a2091def5c288", checked := Tryz.checked }
namespace Rows
def none {H : Type} : Left H := { results := [], args := [] }

/-- 'inlaylaw30.ServeMatchesReference': WHATEVER THE INPUT: true; the input reads as it did. -/
def serveMatchesReferenceSpec : ChangeSpec := { name := "serveMatchesReference", fn := fun _ => fun
  | [d1, d2, d3] => { results := [.lit (.bool true)], args := [d1, d2, d3] }
  | _ => none }
def serveMatchesReferenceRow : OpenClaim := { program := "ytcajgkfgjpfmaaagreat", sum := "c86fe4b5e5dd7af3d950d2c47d0e9bb6b0e5f68b6ea2a5cd3d7a2091def5c288", func := "inlay/inlaylaw30.ServeMatchesReference", spec := "serveMatchesReference", inPlace := ["slices.overlaps[int]"], unfollowed := true, recurses := true, apart := false }
def ServeMatchesReferenceSaid : Prop := serveMatchesReferenceRow.holds Tryz.pinned (OpenSpec.ofChange serveMatchesReferenceSpec)

/-- ITS FALSE NEIGHBOUR: 'it returns false'. Refute it at one input. -/
def serveMatchesReferenceWrong : ChangeSpec := { name := "serveMatchesReference", fn := fun _ => fun
  | [d1, d2, d3] => { results := [.lit (.bool false)], args := [d1, d2, d3] }
  | _ => none }
def ServeMatchesReferenceWrongFalsely : Prop := serveMatchesReferenceRow.holds Tryz.pinned (OpenSpec.ofChange serveMatchesReferenceWrong)

/-- 'inlaylaw30.ServeAdds': WHATEVER THE INPUT: true; the input reads as it did. -/
def serveAddsSpec : ChangeSpec := { name := "serveAdds", fn := fun _ => fun
  | [d1, d2, d3] => { results := [.lit (.bool true)], args := [d1, d2, d3] }
  | _ => none }
def serveAddsRow : OpenClaim := { program := "ytcajgkfgjpfmaaagreat", sum := "c86fe4b5e5dd7af3d950d2c47d0e9bb6b0e5f68b6ea2a5cd3d7a2091def5c288", func := "inlay/inlaylaw30.ServeAdds", spec := "serveAdds", inPlace := ["slices.overlaps[int]"], unfollowed := true, recurses := true, apart := false }
def ServeAddsSaid : Prop := serveAddsRow.holds Tryz.pinned (OpenSpec.ofChange serveAddsSpec)

/-- ITS FALSE NEIGHBOUR: 'it returns false'. Refute it at one input. -/
def serveAddsWrong : ChangeSpec := { name := "serveAdds", fn := fun _ => fun
  | [d1, d2, d3] => { results := [.lit (.bool false)], args := [d1, d2, d3] }
  | _ => none }
def ServeAddsWrongFalsely : Prop := serveAddsRow.holds Tryz.pinned (OpenSpec.ofChange serveAddsWrong)

/-- 'inlaylaw30.ServeCaches': WHATEVER THE INPUT: true; the input reads as it did. -/
def serveCachesSpec : ChangeSpec := { name := "serveCaches", fn := fun _ => fun
  | [d1, d2] => { results := [.lit (.bool true)], args := [d1, d2] }
  | _ => none }
def serveCachesRow : OpenClaim := { program := "ytcajgkfgjpfmaaagreat", sum := "c86fe4b5e5dd7af3d950d2c47d0e9bb6b0e5f68b6ea2a5cd3d7a2091def5c288", func := "inlay/inlaylaw30.ServeCaches", spec := "serveCaches", inPlace := ["slices.overlaps[int]"], unfollowed := true, recurses := true, apart := false }
def ServeCachesSaid : Prop := serveCachesRow.holds Tryz.pinned (OpenSpec.ofChange serveCachesSpec)

/-- ITS FALSE NEIGHBOUR: 'it returns false'. Refute it at one input. -/
def serveCachesWrong : ChangeSpec := { name := "serveCaches", fn := fun _ => fun
  | [d1, d2] => { results := [.lit (.bool false)], args := [d1, d2] }
  | _ => none }
def ServeCachesWrongFalsely : Prop := serveCachesRow.holds Tryz.pinned (OpenSpec.ofChange serveCachesWrong)

/-- 'inlaylaw30.ServeLeads': WHATEVER THE INPUT: true; the input reads as it did. -/
def serveLeadsSpec : ChangeSpec := { name := "serveLeads", fn := fun _ => fun
  | [d1, d2] => { results := [.lit (.bool true)], args := [d1, d2] }
  | _ => none }
def serveLeadsRow : OpenClaim := { program := "ytcajgkfgjpfmaaagreat", sum := "c86fe4b5e5dd7af3d950d2c47d0e9bb6b0e5f68b6ea2a5cd3d7a2091def5c288", func := "inlay/inlaylaw30.ServeLeads", spec := "serveLeads", inPlace := ["slices.overlaps[int]"], unfollowed := true, recurses := true, apart := false }
def ServeLeadsSaid : Prop := serveLeadsRow.holds Tryz.pinned (OpenSpec.ofChange serveLeadsSpec)

/-- ITS FALSE NEIGHBOUR: 'it returns false'. Refute it at one input. -/
def serveLeadsWrong : ChangeSpec := { name := "serveLeads", fn := fun _ => fun
  | [d1, d2] => { results := [.lit (.bool false)], args := [d1, d2] }
  | _ => none }
def ServeLeadsWrongFalsely : Prop := serveLeadsRow.holds Tryz.pinned (OpenSpec.ofChange serveLeadsWrong)

/-- 'inlaylaw30.ServeCollects': WHATEVER THE INPUT: true; the input reads as it did. -/
def serveCollectsSpec : ChangeSpec := { name := "serveCollects", fn := fun _ => fun
  | [d1, d2, d3] => { results := [.lit (.bool true)], args := [d1, d2, d3] }
  | _ => none }
def serveCollectsRow : OpenClaim := { program := "ytcajgkfgjpfmaaagreat", sum := "c86fe4b5e5dd7af3d950d2c47d0e9bb6b0e5f68b6ea2a5cd3d7a2091def5c288", func := "inlay/inlaylaw30.ServeCollects", spec := "serveCollects", inPlace := ["slices.overlaps[int]"], unfollowed := true, recurses := true, apart := false }
def ServeCollectsSaid : Prop := serveCollectsRow.holds Tryz.pinned (OpenSpec.ofChange serveCollectsSpec)

/-- ITS FALSE NEIGHBOUR: 'it returns false'. Refute it at one input. -/
def serveCollectsWrong : ChangeSpec := { name := "serveCollects", fn := fun _ => fun
  | [d1, d2, d3] => { results := [.lit (.bool false)], args := [d1, d2, d3] }
  | _ => none }
def ServeCollectsWrongFalsely : Prop := serveCollectsRow.holds Tryz.pinned (OpenSpec.ofChange serveCollectsWrong)

/-- 'inlaylaw30.ServeLimits': WHATEVER THE INPUT: true; the input reads as it did. -/
def serveLimitsSpec : ChangeSpec := { name := "serveLimits", fn := fun _ => fun
  | [d1, d2, d3] => { results := [.lit (.bool true)], args := [d1, d2, d3] }
  | _ => none }
def serveLimitsRow : OpenClaim := { program := "ytcajgkfgjpfmaaagreat", sum := "c86fe4b5e5dd7af3d950d2c47d0e9bb6b0e5f68b6ea2a5cd3d7a2091def5c288", func := "inlay/inlaylaw30.ServeLimits", spec := "serveLimits", inPlace := ["slices.overlaps[int]"], unfollowed := true, recurses := true, apart := false }
def ServeLimitsSaid : Prop := serveLimitsRow.holds Tryz.pinned (OpenSpec.ofChange serveLimitsSpec)

/-- ITS FALSE NEIGHBOUR: 'it returns false'. Refute it at one input. -/
def serveLimitsWrong : ChangeSpec := { name := "serveLimits", fn := fun _ => fun
  | [d1, d2, d3] => { results := [.lit (.bool false)], args := [d1, d2, d3] }
  | _ => none }
def ServeLimitsWrongFalsely : Prop := serveLimitsRow.holds Tryz.pinned (OpenSpec.ofChange serveLimitsWrong)

/-- 'inlaylaw30.ServeWithdraws': WHATEVER THE INPUT: true; the input reads as it did. -/
def serveWithdrawsSpec : ChangeSpec := { name := "serveWithdraws", fn := fun _ => fun
  | [d1, d2, d3] => { results := [.lit (.bool true)], args := [d1, d2, d3] }
  | _ => none }
def serveWithdrawsRow : OpenClaim := { program := "ytcajgkfgjpfmaaagreat", sum := "c86fe4b5e5dd7af3d950d2c47d0e9bb6b0e5f68b6ea2a5cd3d7a2091def5c288", func := "inlay/inlaylaw30.ServeWithdraws", spec := "serveWithdraws", inPlace := ["slices.overlaps[int]"], unfollowed := true, recurses := true, apart := false }
def ServeWithdrawsSaid : Prop := serveWithdrawsRow.holds Tryz.pinned (OpenSpec.ofChange serveWithdrawsSpec)

/-- ITS FALSE NEIGHBOUR: 'it returns false'. Refute it at one input. -/
def serveWithdrawsWrong : ChangeSpec := { name := "serveWithdraws", fn := fun _ => fun
  | [d1, d2, d3] => { results := [.lit (.bool false)], args := [d1, d2, d3] }
  | _ => none }
def ServeWithdrawsWrongFalsely : Prop := serveWithdrawsRow.holds Tryz.pinned (OpenSpec.ofChange serveWithdrawsWrong)

/-- 'inlaylaw30.ServeOffers': WHATEVER THE INPUT: true; the input reads as it did. -/
def serveOffersSpec : ChangeSpec := { name := "serveOffers", fn := fun _ => fun
  | [d1, d2, d3] => { results := [.lit (.bool true)], args := [d1, d2, d3] }
  | _ => none }
def serveOffersRow : OpenClaim := { program := "ytcajgkfgjpfmaaagreat", sum := "c86fe4b5e5dd7af3d950d2c47d0e9bb6b0e5f68b6ea2a5cd3d7a2091def5c288", func := "inlay/inlaylaw30.ServeOffers", spec := "serveOffers", inPlace := ["slices.overlaps[int]"], unfollowed := true, recurses := true, apart := false }
def ServeOffersSaid : Prop := serveOffersRow.holds Tryz.pinned (OpenSpec.ofChange serveOffersSpec)

/-- ITS FALSE NEIGHBOUR: 'it returns false'. Refute it at one input. -/
def serveOffersWrong : ChangeSpec := { name := "serveOffers", fn := fun _ => fun
  | [d1, d2, d3] => { results := [.lit (.bool false)], args := [d1, d2, d3] }
  | _ => none }
def ServeOffersWrongFalsely : Prop := serveOffersRow.holds Tryz.pinned (OpenSpec.ofChange serveOffersWrong)

/- THE SECOND FORM. 'bulk': how many values and letters a reading holds, each counted each time it is reached (what is shared counts as often as it is met; a slice's spare places count too). A statement '..UptoSaid' is the law's where the arguments, and the package variables that the reading takes, are together of bulk at most 1048576: NARROWER than '..Said'. Prove '..Said' where nothing that the law and all that it calls make is longer than what came in: it says more and counts as full. Else prove '..UptoSaid'. A law counts once. -/
mutual
def uptoBulk {H : Type} : DataW H → Nat
  | .lit (.string bytes) => bytes.length + 1
  | .lit _ => 1
  | .nil => 1
  | .ptr d => uptoBulk d + 1
  | .slice elems spare => uptoBulkAll elems + uptoBulkAll spare + 1
  | .agg parts => uptoBulkAll parts + 1
  | .iface _ d => uptoBulk d + 1
  | .map entries => uptoBulkEntries entries + 1
  | .held _ => 1
def uptoBulkAll {H : Type} : List (DataW H) → Nat
  | [] => 0
  | d :: r => uptoBulk d + uptoBulkAll r
def uptoBulkEntries {H : Type} : List (Lit × DataW H) → Nat
  | [] => 0
  | x :: r => uptoBulkEntry x + uptoBulkEntries r
def uptoBulkEntry {H : Type} : Lit × DataW H → Nat
  | (.string bytes, d) => bytes.length + uptoBulk d + 1
  | (_, d) => uptoBulk d + 1
 end
def uptoSmall : (H : Type) → List (DataW H) → Bool := fun _ ds => decide (uptoBulkAll ds ≤ 1048576)
def OpenSpec.upto (s : _root_.Go.ChangeSpec) : _root_.Go.OpenSpec := { _root_.Go.OpenSpec.ofChange s with cond := some uptoSmall }

/-- 'inlaylaw30.ServeMatchesReference', WHERE WHAT IT READS IS OF BULK AT MOST 1048576: true; the input reads as it did. -/
def serveMatchesReferenceUptoRow : OpenClaim := { program := "ytcajgkfgjpfmaaagreat", sum := "c86fe4b5e5dd7af3d950d2c47d0e9bb6b0e5f68b6ea2a5cd3d7a2091def5c288", func := "inlay/inlaylaw30.ServeMatchesReference", spec := "serveMatchesReference", inPlace := ["slices.overlaps[int]"], unfollowed := true, recurses := true, apart := false, narrowed := true }
def ServeMatchesReferenceUptoSaid : Prop := serveMatchesReferenceUptoRow.holds Tryz.pinned (OpenSpec.upto serveMatchesReferenceSpec)

/-- 'inlaylaw30.ServeAdds', WHERE WHAT IT READS IS OF BULK AT MOST 1048576: true; the input reads as it did. -/
def serveAddsUptoRow : OpenClaim := { program := "ytcajgkfgjpfmaaagreat", sum := "c86fe4b5e5dd7af3d950d2c47d0e9bb6b0e5f68b6ea2a5cd3d7a2091def5c288", func := "inlay/inlaylaw30.ServeAdds", spec := "serveAdds", inPlace := ["slices.overlaps[int]"], unfollowed := true, recurses := true, apart := false, narrowed := true }
def ServeAddsUptoSaid : Prop := serveAddsUptoRow.holds Tryz.pinned (OpenSpec.upto serveAddsSpec)

/-- 'inlaylaw30.ServeCaches', WHERE WHAT IT READS IS OF BULK AT MOST 1048576: true; the input reads as it did. -/
def serveCachesUptoRow : OpenClaim := { program := "ytcajgkfgjpfmaaagreat", sum := "c86fe4b5e5dd7af3d950d2c47d0e9bb6b0e5f68b6ea2a5cd3d7a2091def5c288", func := "inlay/inlaylaw30.ServeCaches", spec := "serveCaches", inPlace := ["slices.overlaps[int]"], unfollowed := true, recurses := true, apart := false, narrowed := true }
def ServeCachesUptoSaid : Prop := serveCachesUptoRow.holds Tryz.pinned (OpenSpec.upto serveCachesSpec)

/-- 'inlaylaw30.ServeLeads', WHERE WHAT IT READS IS OF BULK AT MOST 1048576: true; the input reads as it did. -/
def serveLeadsUptoRow : OpenClaim := { program := "ytcajgkfgjpfmaaagreat", sum := "c86fe4b5e5dd7af3d950d2c47d0e9bb6b0e5f68b6ea2a5cd3d7a2091def5c288", func := "inlay/inlaylaw30.ServeLeads", spec := "serveLeads", inPlace := ["slices.overlaps[int]"], unfollowed := true, recurses := true, apart := false, narrowed := true }
def ServeLeadsUptoSaid : Prop := serveLeadsUptoRow.holds Tryz.pinned (OpenSpec.upto serveLeadsSpec)

/-- 'inlaylaw30.ServeCollects', WHERE WHAT IT READS IS OF BULK AT MOST 1048576: true; the input reads as it did. -/
def serveCollectsUptoRow : OpenClaim := { program := "ytcajgkfgjpfmaaagreat", sum := "c86fe4b5e5dd7af3d950d2c47d0e9bb6b0e5f68b6ea2a5cd3d7a2091def5c288", func := "inlay/inlaylaw30.ServeCollects", spec := "serveCollects", inPlace := ["slices.overlaps[int]"], unfollowed := true, recurses := true, apart := false, narrowed := true }
def ServeCollectsUptoSaid : Prop := serveCollectsUptoRow.holds Tryz.pinned (OpenSpec.upto serveCollectsSpec)

/-- 'inlaylaw30.ServeLimits', WHERE WHAT IT READS IS OF BULK AT MOST 1048576: true; the input reads as it did. -/
def serveLimitsUptoRow : OpenClaim := { program := "ytcajgkfgjpfmaaagreat", sum := "c86fe4b5e5dd7af3d950d2c47d0e9bb6b0e5f68b6ea2a5cd3d7a2091def5c288", func := "inlay/inlaylaw30.ServeLimits", spec := "serveLimits", inPlace := ["slices.overlaps[int]"], unfollowed := true, recurses := true, apart := false, narrowed := true }
def ServeLimitsUptoSaid : Prop := serveLimitsUptoRow.holds Tryz.pinned (OpenSpec.upto serveLimitsSpec)

/-- 'inlaylaw30.ServeWithdraws', WHERE WHAT IT READS IS OF BULK AT MOST 1048576: true; the input reads as it did. -/
def serveWithdrawsUptoRow : OpenClaim := { program := "ytcajgkfgjpfmaaagreat", sum := "c86fe4b5e5dd7af3d950d2c47d0e9bb6b0e5f68b6ea2a5cd3d7a2091def5c288", func := "inlay/inlaylaw30.ServeWithdraws", spec := "serveWithdraws", inPlace := ["slices.overlaps[int]"], unfollowed := true, recurses := true, apart := false, narrowed := true }
def ServeWithdrawsUptoSaid : Prop := serveWithdrawsUptoRow.holds Tryz.pinned (OpenSpec.upto serveWithdrawsSpec)

/-- 'inlaylaw30.ServeOffers', WHERE WHAT IT READS IS OF BULK AT MOST 1048576: true; the input reads as it did. -/
def serveOffersUptoRow : OpenClaim := { program := "ytcajgkfgjpfmaaagreat", sum := "c86fe4b5e5dd7af3d950d2c47d0e9bb6b0e5f68b6ea2a5cd3d7a2091def5c288", func := "inlay/inlaylaw30.ServeOffers", spec := "serveOffers", inPlace := ["slices.overlaps[int]"], unfollowed := true, recurses := true, apart := false, narrowed := true }
def ServeOffersUptoSaid : Prop := serveOffersUptoRow.holds Tryz.pinned (OpenSpec.upto serveOffersSpec)

end Rows
end Go.Proofs.YtcajgkfgjpfmaaaGreat
