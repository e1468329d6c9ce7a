/-
  No cell of these rows narrows 'for every input' (looked for: loops, veiled, ifaces, maps, wideKeys, modest, calm, conditions, laid).
  DERIVED. THE GIVEN ROWS OF THIS SEAT. 9 by the template 'for every input the law returns true; each argument reads behind the call as it read before'; 0 by the template 'total and deterministic' (their statements: YtheklenmejhdoaaTotals.lean).
  GIVEN WITH THE SEED: the statements are not yours to turn. If you find one false, say at which input.
  Laid BY PROGRAM, IN A SANDBOX (cutbox-rows.mjs): the forced cells as the released guide's own fill.sh prints them over the translation 3ad1faf4fa74e93f… (all of the seat's roots in one cut). By AI agents, Wed Nov 11 2026. No macro, syntax, notation, axiom, sorry.
-/
import Derived.Test.YtheklenmejhdoaaChecked
import GoSem.Claim
import GoSem.ClaimJoined
import GoSem.ClaimMapViews
import Derived.JoinedTies
import Derived.KernelRfl
namespace Go.Proofs.Ytheklenmejhdoaa
/- THE CELL 'sum', in the pinned program and in every row, IS THE sha256 OF THE DUMP (.gsa) THAT YtheklenmejhdoaaProg.lean LOADS. Nothing in Lean hashes anything: it is a label: what it is worth is what the hold of that sum in a sandbox is worth. -/
noncomputable def Try.pinned : Pinned := { name := "ytheklenmejhdoaa", sum := "3ad1faf4fa74e93f947ea933e34e704f1abc73d02c95853d0a445b9cdaacdeda", checked := Try.checked }
namespace Rows
def none {H : Type} : Left H := { results := [], args := [] }

/-- 'perigeelaw35.PlanChecks': WHATEVER THE INPUT: true; the input reads as it did. -/
def planChecksSpec : ChangeSpec := { name := "planChecks", fn := fun _ => fun
  | [d1, d2, d3, d4] => { results := [.lit (.bool true)], args := [d1, d2, d3, d4] }
  | _ => none }
def planChecksRow : OpenClaim := { program := "ytheklenmejhdoaa", sum := "3ad1faf4fa74e93f947ea933e34e704f1abc73d02c95853d0a445b9cdaacdeda", func := "perigee/perigeelaw35.PlanChecks", spec := "planChecks", unfollowed := true, recurses := true, apart := false }
def PlanChecksSaid : Prop := planChecksRow.holds Try.pinned (OpenSpec.ofChange planChecksSpec)

/-- ITS FALSE NEIGHBOUR: 'it returns false'. Refute it at one input. -/
def planChecksWrong : ChangeSpec := { name := "planChecks", fn := fun _ => fun
  | [d1, d2, d3, d4] => { results := [.lit (.bool false)], args := [d1, d2, d3, d4] }
  | _ => none }
def PlanChecksWrongFalsely : Prop := planChecksRow.holds Try.pinned (OpenSpec.ofChange planChecksWrong)

/-- 'perigeelaw35.PlanBest': WHATEVER THE INPUT: true; the input reads as it did. -/
def planBestSpec : ChangeSpec := { name := "planBest", fn := fun _ => fun
  | [d1, d2, d3] => { results := [.lit (.bool true)], args := [d1, d2, d3] }
  | _ => none }
def planBestRow : OpenClaim := { program := "ytheklenmejhdoaa", sum := "3ad1faf4fa74e93f947ea933e34e704f1abc73d02c95853d0a445b9cdaacdeda", func := "perigee/perigeelaw35.PlanBest", spec := "planBest", unfollowed := true, recurses := true, apart := false }
def PlanBestSaid : Prop := planBestRow.holds Try.pinned (OpenSpec.ofChange planBestSpec)

/-- ITS FALSE NEIGHBOUR: 'it returns false'. Refute it at one input. -/
def planBestWrong : ChangeSpec := { name := "planBest", fn := fun _ => fun
  | [d1, d2, d3] => { results := [.lit (.bool false)], args := [d1, d2, d3] }
  | _ => none }
def PlanBestWrongFalsely : Prop := planBestRow.holds Try.pinned (OpenSpec.ofChange planBestWrong)

/-- 'perigeelaw35.PlanPrices': WHATEVER THE INPUT: true; the input reads as it did. -/
def planPricesSpec : ChangeSpec := { name := "planPrices", fn := fun _ => fun
  | [d1, d2, d3] => { results := [.lit (.bool true)], args := [d1, d2, d3] }
  | _ => none }
def planPricesRow : OpenClaim := { program := "ytheklenmejhdoaa", sum := "3ad1faf4fa74e93f947ea933e34e704f1abc73d02c95853d0a445b9cdaacdeda", func := "perigee/perigeelaw35.PlanPrices", spec := "planPrices", unfollowed := true, recurses := true, apart := false }
def PlanPricesSaid : Prop := planPricesRow.holds Try.pinned (OpenSpec.ofChange planPricesSpec)

/-- ITS FALSE NEIGHBOUR: 'it returns false'. Refute it at one input. -/
def planPricesWrong : ChangeSpec := { name := "planPrices", fn := fun _ => fun
  | [d1, d2, d3] => { results := [.lit (.bool false)], args := [d1, d2, d3] }
  | _ => none }
def PlanPricesWrongFalsely : Prop := planPricesRow.holds Try.pinned (OpenSpec.ofChange planPricesWrong)

/-- 'perigeelaw35.PlanOptimal': WHATEVER THE INPUT: true; the input reads as it did. -/
def planOptimalSpec : ChangeSpec := { name := "planOptimal", fn := fun _ => fun
  | [d1, d2, d3] => { results := [.lit (.bool true)], args := [d1, d2, d3] }
  | _ => none }
def planOptimalRow : OpenClaim := { program := "ytheklenmejhdoaa", sum := "3ad1faf4fa74e93f947ea933e34e704f1abc73d02c95853d0a445b9cdaacdeda", func := "perigee/perigeelaw35.PlanOptimal", spec := "planOptimal", unfollowed := true, recurses := true, apart := false }
def PlanOptimalSaid : Prop := planOptimalRow.holds Try.pinned (OpenSpec.ofChange planOptimalSpec)

/-- ITS FALSE NEIGHBOUR: 'it returns false'. Refute it at one input. -/
def planOptimalWrong : ChangeSpec := { name := "planOptimal", fn := fun _ => fun
  | [d1, d2, d3] => { results := [.lit (.bool false)], args := [d1, d2, d3] }
  | _ => none }
def PlanOptimalWrongFalsely : Prop := planOptimalRow.holds Try.pinned (OpenSpec.ofChange planOptimalWrong)

/-- 'perigeelaw35.PlanOrder': WHATEVER THE INPUT: true; the input reads as it did. -/
def planOrderSpec : ChangeSpec := { name := "planOrder", fn := fun _ => fun
  | [d1, d2] => { results := [.lit (.bool true)], args := [d1, d2] }
  | _ => none }
def planOrderRow : OpenClaim := { program := "ytheklenmejhdoaa", sum := "3ad1faf4fa74e93f947ea933e34e704f1abc73d02c95853d0a445b9cdaacdeda", func := "perigee/perigeelaw35.PlanOrder", spec := "planOrder", unfollowed := true, recurses := true, apart := false }
def PlanOrderSaid : Prop := planOrderRow.holds Try.pinned (OpenSpec.ofChange planOrderSpec)

/-- ITS FALSE NEIGHBOUR: 'it returns false'. Refute it at one input. -/
def planOrderWrong : ChangeSpec := { name := "planOrder", fn := fun _ => fun
  | [d1, d2] => { results := [.lit (.bool false)], args := [d1, d2] }
  | _ => none }
def PlanOrderWrongFalsely : Prop := planOrderRow.holds Try.pinned (OpenSpec.ofChange planOrderWrong)

/-- 'perigeelaw35.PlanTruthful': WHATEVER THE INPUT: true; the input reads as it did. -/
def planTruthfulSpec : ChangeSpec := { name := "planTruthful", fn := fun _ => fun
  | [d1, d2, d3] => { results := [.lit (.bool true)], args := [d1, d2, d3] }
  | _ => none }
def planTruthfulRow : OpenClaim := { program := "ytheklenmejhdoaa", sum := "3ad1faf4fa74e93f947ea933e34e704f1abc73d02c95853d0a445b9cdaacdeda", func := "perigee/perigeelaw35.PlanTruthful", spec := "planTruthful", unfollowed := true, recurses := true, apart := false }
def PlanTruthfulSaid : Prop := planTruthfulRow.holds Try.pinned (OpenSpec.ofChange planTruthfulSpec)

/-- ITS FALSE NEIGHBOUR: 'it returns false'. Refute it at one input. -/
def planTruthfulWrong : ChangeSpec := { name := "planTruthful", fn := fun _ => fun
  | [d1, d2, d3] => { results := [.lit (.bool false)], args := [d1, d2, d3] }
  | _ => none }
def PlanTruthfulWrongFalsely : Prop := planTruthfulRow.holds Try.pinned (OpenSpec.ofChange planTruthfulWrong)

/-- 'perigeelaw35.PlanAssigns': WHATEVER THE INPUT: true; the input reads as it did. -/
def planAssignsSpec : ChangeSpec := { name := "planAssigns", fn := fun _ => fun
  | [d1, d2] => { results := [.lit (.bool true)], args := [d1, d2] }
  | _ => none }
def planAssignsRow : OpenClaim := { program := "ytheklenmejhdoaa", sum := "3ad1faf4fa74e93f947ea933e34e704f1abc73d02c95853d0a445b9cdaacdeda", func := "perigee/perigeelaw35.PlanAssigns", spec := "planAssigns", unfollowed := true, recurses := true, apart := false }
def PlanAssignsSaid : Prop := planAssignsRow.holds Try.pinned (OpenSpec.ofChange planAssignsSpec)

/-- ITS FALSE NEIGHBOUR: 'it returns false'. Refute it at one input. -/
def planAssignsWrong : ChangeSpec := { name := "planAssigns", fn := fun _ => fun
  | [d1, d2] => { results := [.lit (.bool false)], args := [d1, d2] }
  | _ => none }
def PlanAssignsWrongFalsely : Prop := planAssignsRow.holds Try.pinned (OpenSpec.ofChange planAssignsWrong)

/-- 'perigeelaw35.PlanNeeds': WHATEVER THE INPUT: true; the input reads as it did. -/
def planNeedsSpec : ChangeSpec := { name := "planNeeds", fn := fun _ => fun
  | [d1, d2, d3] => { results := [.lit (.bool true)], args := [d1, d2, d3] }
  | _ => none }
def planNeedsRow : OpenClaim := { program := "ytheklenmejhdoaa", sum := "3ad1faf4fa74e93f947ea933e34e704f1abc73d02c95853d0a445b9cdaacdeda", func := "perigee/perigeelaw35.PlanNeeds", spec := "planNeeds", unfollowed := true, recurses := true, apart := false }
def PlanNeedsSaid : Prop := planNeedsRow.holds Try.pinned (OpenSpec.ofChange planNeedsSpec)

/-- ITS FALSE NEIGHBOUR: 'it returns false'. Refute it at one input. -/
def planNeedsWrong : ChangeSpec := { name := "planNeeds", fn := fun _ => fun
  | [d1, d2, d3] => { results := [.lit (.bool false)], args := [d1, d2, d3] }
  | _ => none }
def PlanNeedsWrongFalsely : Prop := planNeedsRow.holds Try.pinned (OpenSpec.ofChange planNeedsWrong)

/-- 'perigeelaw35.PlanPasses': WHATEVER THE INPUT: true; the input reads as it did. -/
def planPassesSpec : ChangeSpec := { name := "planPasses", fn := fun _ => fun
  | [d1, d2, d3, d4, d5] => { results := [.lit (.bool true)], args := [d1, d2, d3, d4, d5] }
  | _ => none }
def planPassesRow : OpenClaim := { program := "ytheklenmejhdoaa", sum := "3ad1faf4fa74e93f947ea933e34e704f1abc73d02c95853d0a445b9cdaacdeda", func := "perigee/perigeelaw35.PlanPasses", spec := "planPasses", unfollowed := true, recurses := true, apart := false }
def PlanPassesSaid : Prop := planPassesRow.holds Try.pinned (OpenSpec.ofChange planPassesSpec)

/-- ITS FALSE NEIGHBOUR: 'it returns false'. Refute it at one input. -/
def planPassesWrong : ChangeSpec := { name := "planPasses", fn := fun _ => fun
  | [d1, d2, d3, d4, d5] => { results := [.lit (.bool false)], args := [d1, d2, d3, d4, d5] }
  | _ => none }
def PlanPassesWrongFalsely : Prop := planPassesRow.holds Try.pinned (OpenSpec.ofChange planPassesWrong)

/- THE SECOND FORM. 'bulk': how many values and letters a reading holds, each counted each time it is reached (what is shared counts as often as it is met; a slice's spare places count too). A statement '..UptoSaid' is the law's where the arguments, and the package variables that the reading takes, are together of bulk at most 1048576: NARROWER than '..Said'. Prove '..Said' where nothing that the law and all that it calls make is longer than what came in: it says more and counts as full. Else prove '..UptoSaid'. A law counts once. -/
mutual
def uptoBulk {H : Type} : DataW H → Nat
  | .lit (.string bytes) => bytes.length + 1
  | .lit _ => 1
  | .nil => 1
  | .ptr d => uptoBulk d + 1
  | .slice elems spare => uptoBulkAll elems + uptoBulkAll spare + 1
  | .agg parts => uptoBulkAll parts + 1
  | .iface _ d => uptoBulk d + 1
  | .map entries => uptoBulkEntries entries + 1
  | .held _ => 1
def uptoBulkAll {H : Type} : List (DataW H) → Nat
  | [] => 0
  | d :: r => uptoBulk d + uptoBulkAll r
def uptoBulkEntries {H : Type} : List (Lit × DataW H) → Nat
  | [] => 0
  | x :: r => uptoBulkEntry x + uptoBulkEntries r
def uptoBulkEntry {H : Type} : Lit × DataW H → Nat
  | (.string bytes, d) => bytes.length + uptoBulk d + 1
  | (_, d) => uptoBulk d + 1
 end
def uptoSmall : (H : Type) → List (DataW H) → Bool := fun _ ds => decide (uptoBulkAll ds ≤ 1048576)
def OpenSpec.upto (s : _root_.Go.ChangeSpec) : _root_.Go.OpenSpec := { _root_.Go.OpenSpec.ofChange s with cond := some uptoSmall }

/-- 'perigeelaw35.PlanChecks', WHERE WHAT IT READS IS OF BULK AT MOST 1048576: true; the input reads as it did. -/
def planChecksUptoRow : OpenClaim := { program := "ytheklenmejhdoaa", sum := "3ad1faf4fa74e93f947ea933e34e704f1abc73d02c95853d0a445b9cdaacdeda", func := "perigee/perigeelaw35.PlanChecks", spec := "planChecks", unfollowed := true, recurses := true, apart := false, narrowed := true }
def PlanChecksUptoSaid : Prop := planChecksUptoRow.holds Try.pinned (OpenSpec.upto planChecksSpec)

/-- 'perigeelaw35.PlanBest', WHERE WHAT IT READS IS OF BULK AT MOST 1048576: true; the input reads as it did. -/
def planBestUptoRow : OpenClaim := { program := "ytheklenmejhdoaa", sum := "3ad1faf4fa74e93f947ea933e34e704f1abc73d02c95853d0a445b9cdaacdeda", func := "perigee/perigeelaw35.PlanBest", spec := "planBest", unfollowed := true, recurses := true, apart := false, narrowed := true }
def PlanBestUptoSaid : Prop := planBestUptoRow.holds Try.pinned (OpenSpec.upto planBestSpec)

/-- 'perigeelaw35.PlanPrices', WHERE WHAT IT READS IS OF BULK AT MOST 1048576: true; the input reads as it did. -/
def planPricesUptoRow : OpenClaim := { program := "ytheklenmejhdoaa", sum := "3ad1faf4fa74e93f947ea933e34e704f1abc73d02c95853d0a445b9cdaacdeda", func := "perigee/perigeelaw35.PlanPrices", spec := "planPrices", unfollowed := true, recurses := true, apart := false, narrowed := true }
def PlanPricesUptoSaid : Prop := planPricesUptoRow.holds Try.pinned (OpenSpec.upto planPricesSpec)

/-- 'perigeelaw35.PlanOptimal', WHERE WHAT IT READS IS OF BULK AT MOST 1048576: true; the input reads as it did. -/
def planOptimalUptoRow : OpenClaim := { program := "ytheklenmejhdoaa", sum := "3ad1faf4fa74e93f947ea933e34e704f1abc73d02c95853d0a445b9cdaacdeda", func := "perigee/perigeelaw35.PlanOptimal", spec := "planOptimal", unfollowed := true, recurses := true, apart := false, narrowed := true }
def PlanOptimalUptoSaid : Prop := planOptimalUptoRow.holds Try.pinned (OpenSpec.upto planOptimalSpec)

/-- 'perigeelaw35.PlanOrder', WHERE WHAT IT READS IS OF BULK AT MOST 1048576: true; the input reads as it did. -/
def planOrderUptoRow : OpenClaim := { program := "ytheklenmejhdoaa", sum := "3ad1faf4fa74e93f947ea933e34e704f1abc73d02c95853d0a445b9cdaacdeda", func := "perigee/perigeelaw35.PlanOrder", spec := "planOrder", unfollowed := true, recurses := true, apart := false, narrowed := true }
def PlanOrderUptoSaid : Prop := planOrderUptoRow.holds Try.pinned (OpenSpec.upto planOrderSpec)

/-- 'perigeelaw35.PlanTruthful', WHERE WHAT IT READS IS OF BULK AT MOST 1048576: true; the input reads as it did. -/
def planTruthfulUptoRow : OpenClaim := { program := "ytheklenmejhdoaa", sum := "3ad1faf4fa74e93f947ea933e34e704f1abc73d02c95853d0a445b9cdaacdeda", func := "perigee/perigeelaw35.PlanTruthful", spec := "planTruthful", unfollowed := true, recurses := true, apart := false, narrowed := true }
def PlanTruthfulUptoSaid : Prop := planTruthfulUptoRow.holds Try.pinned (OpenSpec.upto planTruthfulSpec)

/-- 'perigeelaw35.PlanAssigns', WHERE WHAT IT READS IS OF BULK AT MOST 1048576: true; the input reads as it did. -/
def planAssignsUptoRow : OpenClaim := { program := "ytheklenmejhdoaa", sum := "3ad1faf4fa74e93f947ea933e34e704f1abc73d02c95853d0a445b9cdaacdeda", func := "perigee/perigeelaw35.PlanAssigns", spec := "planAssigns", unfollowed := true, recurses := true, apart := false, narrowed := true }
def PlanAssignsUptoSaid : Prop := planAssignsUptoRow.holds Try.pinned (OpenSpec.upto planAssignsSpec)

/-- 'perigeelaw35.PlanNeeds', WHERE WHAT IT READS IS OF BULK AT MOST 1048576: true; the input reads as it did. -/
def planNeedsUptoRow : OpenClaim := { program := "ytheklenmejhdoaa", sum := "3ad1faf4fa74e93f947ea933e34e704f1abc73d02c95853d0a445b9cdaacdeda", func := "perigee/perigeelaw35.PlanNeeds", spec := "planNeeds", unfollowed := true, recurses := true, apart := false, narrowed := true }
def PlanNeedsUptoSaid : Prop := planNeedsUptoRow.holds Try.pinned (OpenSpec.upto planNeedsSpec)

/-- 'perigeelaw35.PlanPasses', WHERE WHAT IT READS IS OF BULK AT MOST 1048576: true; the input reads as it did. -/
def planPassesUptoRow : OpenClaim := { program := "ytheklenmejhdoaa", sum := "3ad1faf4fa74e93f947ea933e34e704f1abc73d02c95853d0a445b9cdaacdeda", func := "perigee/perigeelaw35.PlanPasses", spec := "planPasses", unfollowed := true, recurses := true, apart := false, narrowed := true }
def PlanPassesUptoSaid : Prop := planPassesUptoRow.holds Try.pinned (OpenSpec.upto planPassesSpec)

end Rows
end Go.Proofs.Ytheklenmejhdoaa
