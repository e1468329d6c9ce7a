/-
  No cell of these rows narrows 'for every input' (looked for: loops, veiled, ifaces, maps, wideKeys, modest, calm, conditions, laid).
  DERIVED. THE GIVEN ROWS OF THIS SEAT. 8 by the template 'for every input the law returns true; each argument reads behind the call as it read before'; 0 by the template 'total and deterministic' (their statements: YtlapnahjboljiaaTotals.lean).
  GIVEN WITH THE SEED: the statements are not yours to turn. If you find one false, say at which input.
  Laid BY PROGRAM, IN A SANDBOX (cutbox-rows.mjs): the forced cells as the released guide's own fill.sh prints them over the translation 61127f648ce3d1ed… (all of the seat's roots in one cut). By AI agents, Wed Nov 11 2026. No macro, syntax, notation, axiom, sorry.
-/
import Derived.Test.YtlapnahjboljiaaChecked
import GoSem.Claim
import GoSem.ClaimJoined
import GoSem.ClaimMapViews
import Derived.JoinedTies
import Derived.KernelRfl
namespace Go.Proofs.Ytlapnahjboljiaa
/- THE CELL 'sum', in the pinned program and in every row, IS THE sha256 OF THE DUMP (.gsa) THAT YtlapnahjboljiaaProg.lean LOADS. Nothing in Lean hashes anything: it is a label: what it is worth is what the hold of that sum in a sandbox is worth. -/
noncomputable def Try.pinned : Pinned := { name := "ytlapnahjboljiaa", sum := "61127f648ce3d1ed00f6723f9256ca2af3acf7dd206d930a844e76f38f9d64d9", checked := Try.checked }
namespace Rows
def none {H : Type} : Left H := { results := [], args := [] }

/-- 'perigeelaw24.LeaseChecks': WHATEVER THE INPUT: true; the input reads as it did. -/
def leaseChecksSpec : ChangeSpec := { name := "leaseChecks", fn := fun _ => fun
  | [d] => { results := [.lit (.bool true)], args := [d] }
  | _ => none }
def leaseChecksRow : OpenClaim := { program := "ytlapnahjboljiaa", sum := "61127f648ce3d1ed00f6723f9256ca2af3acf7dd206d930a844e76f38f9d64d9", func := "perigee/perigeelaw24.LeaseChecks", spec := "leaseChecks", inPlace := ["slices.overlaps[perigee/api.Lease]"], unfollowed := true, recurses := true, apart := false }
def LeaseChecksSaid : Prop := leaseChecksRow.holds Try.pinned (OpenSpec.ofChange leaseChecksSpec)

/-- ITS FALSE NEIGHBOUR: 'it returns false'. Refute it at one input. -/
def leaseChecksWrong : ChangeSpec := { name := "leaseChecks", fn := fun _ => fun
  | [d] => { results := [.lit (.bool false)], args := [d] }
  | _ => none }
def LeaseChecksWrongFalsely : Prop := leaseChecksRow.holds Try.pinned (OpenSpec.ofChange leaseChecksWrong)

/-- 'perigeelaw24.LeaseAmounts': WHATEVER THE INPUT: true; the input reads as it did. -/
def leaseAmountsSpec : ChangeSpec := { name := "leaseAmounts", fn := fun _ => fun
  | [d1, d2] => { results := [.lit (.bool true)], args := [d1, d2] }
  | _ => none }
def leaseAmountsRow : OpenClaim := { program := "ytlapnahjboljiaa", sum := "61127f648ce3d1ed00f6723f9256ca2af3acf7dd206d930a844e76f38f9d64d9", func := "perigee/perigeelaw24.LeaseAmounts", spec := "leaseAmounts", inPlace := ["slices.overlaps[perigee/api.Lease]"], unfollowed := true, recurses := true, apart := false }
def LeaseAmountsSaid : Prop := leaseAmountsRow.holds Try.pinned (OpenSpec.ofChange leaseAmountsSpec)

/-- ITS FALSE NEIGHBOUR: 'it returns false'. Refute it at one input. -/
def leaseAmountsWrong : ChangeSpec := { name := "leaseAmounts", fn := fun _ => fun
  | [d1, d2] => { results := [.lit (.bool false)], args := [d1, d2] }
  | _ => none }
def LeaseAmountsWrongFalsely : Prop := leaseAmountsRow.holds Try.pinned (OpenSpec.ofChange leaseAmountsWrong)

/-- 'perigeelaw24.LeaseMatchesSpecification': WHATEVER THE INPUT: true; the input reads as it did. -/
def leaseMatchesSpecificationSpec : ChangeSpec := { name := "leaseMatchesSpecification", fn := fun _ => fun
  | [d1, d2] => { results := [.lit (.bool true)], args := [d1, d2] }
  | _ => none }
def leaseMatchesSpecificationRow : OpenClaim := { program := "ytlapnahjboljiaa", sum := "61127f648ce3d1ed00f6723f9256ca2af3acf7dd206d930a844e76f38f9d64d9", func := "perigee/perigeelaw24.LeaseMatchesSpecification", spec := "leaseMatchesSpecification", inPlace := ["slices.overlaps[perigee/api.Lease]"], unfollowed := true, recurses := true, apart := false }
def LeaseMatchesSpecificationSaid : Prop := leaseMatchesSpecificationRow.holds Try.pinned (OpenSpec.ofChange leaseMatchesSpecificationSpec)

/-- ITS FALSE NEIGHBOUR: 'it returns false'. Refute it at one input. -/
def leaseMatchesSpecificationWrong : ChangeSpec := { name := "leaseMatchesSpecification", fn := fun _ => fun
  | [d1, d2] => { results := [.lit (.bool false)], args := [d1, d2] }
  | _ => none }
def LeaseMatchesSpecificationWrongFalsely : Prop := leaseMatchesSpecificationRow.holds Try.pinned (OpenSpec.ofChange leaseMatchesSpecificationWrong)

/-- 'perigeelaw24.LeaseConserves': WHATEVER THE INPUT: true; the input reads as it did. -/
def leaseConservesSpec : ChangeSpec := { name := "leaseConserves", fn := fun _ => fun
  | [d1, d2] => { results := [.lit (.bool true)], args := [d1, d2] }
  | _ => none }
def leaseConservesRow : OpenClaim := { program := "ytlapnahjboljiaa", sum := "61127f648ce3d1ed00f6723f9256ca2af3acf7dd206d930a844e76f38f9d64d9", func := "perigee/perigeelaw24.LeaseConserves", spec := "leaseConserves", inPlace := ["slices.overlaps[perigee/api.Lease]"], unfollowed := true, recurses := true, apart := false }
def LeaseConservesSaid : Prop := leaseConservesRow.holds Try.pinned (OpenSpec.ofChange leaseConservesSpec)

/-- ITS FALSE NEIGHBOUR: 'it returns false'. Refute it at one input. -/
def leaseConservesWrong : ChangeSpec := { name := "leaseConserves", fn := fun _ => fun
  | [d1, d2] => { results := [.lit (.bool false)], args := [d1, d2] }
  | _ => none }
def LeaseConservesWrongFalsely : Prop := leaseConservesRow.holds Try.pinned (OpenSpec.ofChange leaseConservesWrong)

/-- 'perigeelaw24.LeaseRoundTrip': WHATEVER THE INPUT: true; the input reads as it did. -/
def leaseRoundTripSpec : ChangeSpec := { name := "leaseRoundTrip", fn := fun _ => fun
  | [d1, d2, d3] => { results := [.lit (.bool true)], args := [d1, d2, d3] }
  | _ => none }
def leaseRoundTripRow : OpenClaim := { program := "ytlapnahjboljiaa", sum := "61127f648ce3d1ed00f6723f9256ca2af3acf7dd206d930a844e76f38f9d64d9", func := "perigee/perigeelaw24.LeaseRoundTrip", spec := "leaseRoundTrip", inPlace := ["slices.overlaps[perigee/api.Lease]"], unfollowed := true, recurses := true, apart := false }
def LeaseRoundTripSaid : Prop := leaseRoundTripRow.holds Try.pinned (OpenSpec.ofChange leaseRoundTripSpec)

/-- ITS FALSE NEIGHBOUR: 'it returns false'. Refute it at one input. -/
def leaseRoundTripWrong : ChangeSpec := { name := "leaseRoundTrip", fn := fun _ => fun
  | [d1, d2, d3] => { results := [.lit (.bool false)], args := [d1, d2, d3] }
  | _ => none }
def LeaseRoundTripWrongFalsely : Prop := leaseRoundTripRow.holds Try.pinned (OpenSpec.ofChange leaseRoundTripWrong)

/-- 'perigeelaw24.LeaseParts': WHATEVER THE INPUT: true; the input reads as it did. -/
def leasePartsSpec : ChangeSpec := { name := "leaseParts", fn := fun _ => fun
  | [d1, d2, d3, d4, d5, d6] => { results := [.lit (.bool true)], args := [d1, d2, d3, d4, d5, d6] }
  | _ => none }
def leasePartsRow : OpenClaim := { program := "ytlapnahjboljiaa", sum := "61127f648ce3d1ed00f6723f9256ca2af3acf7dd206d930a844e76f38f9d64d9", func := "perigee/perigeelaw24.LeaseParts", spec := "leaseParts", inPlace := ["slices.overlaps[perigee/api.Lease]"], unfollowed := true, recurses := true, apart := false }
def LeasePartsSaid : Prop := leasePartsRow.holds Try.pinned (OpenSpec.ofChange leasePartsSpec)

/-- ITS FALSE NEIGHBOUR: 'it returns false'. Refute it at one input. -/
def leasePartsWrong : ChangeSpec := { name := "leaseParts", fn := fun _ => fun
  | [d1, d2, d3, d4, d5, d6] => { results := [.lit (.bool false)], args := [d1, d2, d3, d4, d5, d6] }
  | _ => none }
def LeasePartsWrongFalsely : Prop := leasePartsRow.holds Try.pinned (OpenSpec.ofChange leasePartsWrong)

/-- 'perigeelaw24.LeaseExpires': WHATEVER THE INPUT: true; the input reads as it did. -/
def leaseExpiresSpec : ChangeSpec := { name := "leaseExpires", fn := fun _ => fun
  | [d1, d2, d3, d4] => { results := [.lit (.bool true)], args := [d1, d2, d3, d4] }
  | _ => none }
def leaseExpiresRow : OpenClaim := { program := "ytlapnahjboljiaa", sum := "61127f648ce3d1ed00f6723f9256ca2af3acf7dd206d930a844e76f38f9d64d9", func := "perigee/perigeelaw24.LeaseExpires", spec := "leaseExpires", inPlace := ["slices.overlaps[perigee/api.Lease]"], unfollowed := true, recurses := true, apart := false }
def LeaseExpiresSaid : Prop := leaseExpiresRow.holds Try.pinned (OpenSpec.ofChange leaseExpiresSpec)

/-- ITS FALSE NEIGHBOUR: 'it returns false'. Refute it at one input. -/
def leaseExpiresWrong : ChangeSpec := { name := "leaseExpires", fn := fun _ => fun
  | [d1, d2, d3, d4] => { results := [.lit (.bool false)], args := [d1, d2, d3, d4] }
  | _ => none }
def LeaseExpiresWrongFalsely : Prop := leaseExpiresRow.holds Try.pinned (OpenSpec.ofChange leaseExpiresWrong)

/-- 'perigeelaw24.LeaseTransfers': WHATEVER THE INPUT: true; the input reads as it did. -/
def leaseTransfersSpec : ChangeSpec := { name := "leaseTransfers", fn := fun _ => fun
  | [d1, d2, d3, d4] => { results := [.lit (.bool true)], args := [d1, d2, d3, d4] }
  | _ => none }
def leaseTransfersRow : OpenClaim := { program := "ytlapnahjboljiaa", sum := "61127f648ce3d1ed00f6723f9256ca2af3acf7dd206d930a844e76f38f9d64d9", func := "perigee/perigeelaw24.LeaseTransfers", spec := "leaseTransfers", inPlace := ["slices.overlaps[perigee/api.Lease]"], unfollowed := true, recurses := true, apart := false }
def LeaseTransfersSaid : Prop := leaseTransfersRow.holds Try.pinned (OpenSpec.ofChange leaseTransfersSpec)

/-- ITS FALSE NEIGHBOUR: 'it returns false'. Refute it at one input. -/
def leaseTransfersWrong : ChangeSpec := { name := "leaseTransfers", fn := fun _ => fun
  | [d1, d2, d3, d4] => { results := [.lit (.bool false)], args := [d1, d2, d3, d4] }
  | _ => none }
def LeaseTransfersWrongFalsely : Prop := leaseTransfersRow.holds Try.pinned (OpenSpec.ofChange leaseTransfersWrong)

/- THE SECOND FORM. 'bulk': how many values and letters a reading holds, each counted each time it is reached (what is shared counts as often as it is met; a slice's spare places count too). A statement '..UptoSaid' is the law's where the arguments, and the package variables that the reading takes, are together of bulk at most 1048576: NARROWER than '..Said'. Prove '..Said' where nothing that the law and all that it calls make is longer than what came in: it says more and counts as full. Else prove '..UptoSaid'. A law counts once. -/
mutual
def uptoBulk {H : Type} : DataW H → Nat
  | .lit (.string bytes) => bytes.length + 1
  | .lit _ => 1
  | .nil => 1
  | .ptr d => uptoBulk d + 1
  | .slice elems spare => uptoBulkAll elems + uptoBulkAll spare + 1
  | .agg parts => uptoBulkAll parts + 1
  | .iface _ d => uptoBulk d + 1
  | .map entries => uptoBulkEntries entries + 1
  | .held _ => 1
def uptoBulkAll {H : Type} : List (DataW H) → Nat
  | [] => 0
  | d :: r => uptoBulk d + uptoBulkAll r
def uptoBulkEntries {H : Type} : List (Lit × DataW H) → Nat
  | [] => 0
  | x :: r => uptoBulkEntry x + uptoBulkEntries r
def uptoBulkEntry {H : Type} : Lit × DataW H → Nat
  | (.string bytes, d) => bytes.length + uptoBulk d + 1
  | (_, d) => uptoBulk d + 1
 end
def uptoSmall : (H : Type) → List (DataW H) → Bool := fun _ ds => decide (uptoBulkAll ds ≤ 1048576)
def OpenSpec.upto (s : _root_.Go.ChangeSpec) : _root_.Go.OpenSpec := { _root_.Go.OpenSpec.ofChange s with cond := some uptoSmall }

/-- 'perigeelaw24.LeaseChecks', WHERE WHAT IT READS IS OF BULK AT MOST 1048576: true; the input reads as it did. -/
def leaseChecksUptoRow : OpenClaim := { program := "ytlapnahjboljiaa", sum := "61127f648ce3d1ed00f6723f9256ca2af3acf7dd206d930a844e76f38f9d64d9", func := "perigee/perigeelaw24.LeaseChecks", spec := "leaseChecks", inPlace := ["slices.overlaps[perigee/api.Lease]"], unfollowed := true, recurses := true, apart := false, narrowed := true }
def LeaseChecksUptoSaid : Prop := leaseChecksUptoRow.holds Try.pinned (OpenSpec.upto leaseChecksSpec)

/-- 'perigeelaw24.LeaseAmounts', WHERE WHAT IT READS IS OF BULK AT MOST 1048576: true; the input reads as it did. -/
def leaseAmountsUptoRow : OpenClaim := { program := "ytlapnahjboljiaa", sum := "61127f648ce3d1ed00f6723f9256ca2af3acf7dd206d930a844e76f38f9d64d9", func := "perigee/perigeelaw24.LeaseAmounts", spec := "leaseAmounts", inPlace := ["slices.overlaps[perigee/api.Lease]"], unfollowed := true, recurses := true, apart := false, narrowed := true }
def LeaseAmountsUptoSaid : Prop := leaseAmountsUptoRow.holds Try.pinned (OpenSpec.upto leaseAmountsSpec)

/-- 'perigeelaw24.LeaseMatchesSpecification', WHERE WHAT IT READS IS OF BULK AT MOST 1048576: true; the input reads as it did. -/
def leaseMatchesSpecificationUptoRow : OpenClaim := { program := "ytlapnahjboljiaa", sum := "61127f648ce3d1ed00f6723f9256ca2af3acf7dd206d930a844e76f38f9d64d9", func := "perigee/perigeelaw24.LeaseMatchesSpecification", spec := "leaseMatchesSpecification", inPlace := ["slices.overlaps[perigee/api.Lease]"], unfollowed := true, recurses := true, apart := false, narrowed := true }
def LeaseMatchesSpecificationUptoSaid : Prop := leaseMatchesSpecificationUptoRow.holds Try.pinned (OpenSpec.upto leaseMatchesSpecificationSpec)

/-- 'perigeelaw24.LeaseConserves', WHERE WHAT IT READS IS OF BULK AT MOST 1048576: true; the input reads as it did. -/
def leaseConservesUptoRow : OpenClaim := { program := "ytlapnahjboljiaa", sum := "61127f648ce3d1ed00f6723f9256ca2af3acf7dd206d930a844e76f38f9d64d9", func := "perigee/perigeelaw24.LeaseConserves", spec := "leaseConserves", inPlace := ["slices.overlaps[perigee/api.Lease]"], unfollowed := true, recurses := true, apart := false, narrowed := true }
def LeaseConservesUptoSaid : Prop := leaseConservesUptoRow.holds Try.pinned (OpenSpec.upto leaseConservesSpec)

/-- 'perigeelaw24.LeaseRoundTrip', WHERE WHAT IT READS IS OF BULK AT MOST 1048576: true; the input reads as it did. -/
def leaseRoundTripUptoRow : OpenClaim := { program := "ytlapnahjboljiaa", sum := "61127f648ce3d1ed00f6723f9256ca2af3acf7dd206d930a844e76f38f9d64d9", func := "perigee/perigeelaw24.LeaseRoundTrip", spec := "leaseRoundTrip", inPlace := ["slices.overlaps[perigee/api.Lease]"], unfollowed := true, recurses := true, apart := false, narrowed := true }
def LeaseRoundTripUptoSaid : Prop := leaseRoundTripUptoRow.holds Try.pinned (OpenSpec.upto leaseRoundTripSpec)

/-- 'perigeelaw24.LeaseParts', WHERE WHAT IT READS IS OF BULK AT MOST 1048576: true; the input reads as it did. -/
def leasePartsUptoRow : OpenClaim := { program := "ytlapnahjboljiaa", sum := "61127f648ce3d1ed00f6723f9256ca2af3acf7dd206d930a844e76f38f9d64d9", func := "perigee/perigeelaw24.LeaseParts", spec := "leaseParts", inPlace := ["slices.overlaps[perigee/api.Lease]"], unfollowed := true, recurses := true, apart := false, narrowed := true }
def LeasePartsUptoSaid : Prop := leasePartsUptoRow.holds Try.pinned (OpenSpec.upto leasePartsSpec)

/-- 'perigeelaw24.LeaseExpires', WHERE WHAT IT READS IS OF BULK AT MOST 1048576: true; the input reads as it did. -/
def leaseExpiresUptoRow : OpenClaim := { program := "ytlapnahjboljiaa", sum := "61127f648ce3d1ed00f6723f9256ca2af3acf7dd206d930a844e76f38f9d64d9", func := "perigee/perigeelaw24.LeaseExpires", spec := "leaseExpires", inPlace := ["slices.overlaps[perigee/api.Lease]"], unfollowed := true, recurses := true, apart := false, narrowed := true }
def LeaseExpiresUptoSaid : Prop := leaseExpiresUptoRow.holds Try.pinned (OpenSpec.upto leaseExpiresSpec)

/-- 'perigeelaw24.LeaseTransfers', WHERE WHAT IT READS IS OF BULK AT MOST 1048576: true; the input reads as it did. -/
def leaseTransfersUptoRow : OpenClaim := { program := "ytlapnahjboljiaa", sum := "61127f648ce3d1ed00f6723f9256ca2af3acf7dd206d930a844e76f38f9d64d9", func := "perigee/perigeelaw24.LeaseTransfers", spec := "leaseTransfers", inPlace := ["slices.overlaps[perigee/api.Lease]"], unfollowed := true, recurses := true, apart := false, narrowed := true }
def LeaseTransfersUptoSaid : Prop := leaseTransfersUptoRow.holds Try.pinned (OpenSpec.upto leaseTransfersSpec)

end Rows
end Go.Proofs.Ytlapnahjboljiaa
