/-
  No cell of these rows narrows 'for every input' (looked for: loops, veiled, ifaces, maps, wideKeys, modest, calm, conditions, laid).
  DERIVED. THE GIVEN ROWS OF THIS SEAT. 6 by the template 'for every input the law returns true; each argument reads behind the call as it read before'; 0 by the template 'total and deterministic' (their statements: YtgicknpbpdfadaaTotals.lean).
  GIVEN WITH THE SEED: the statements are not yours to turn. If you find one false, say at which input.
  Laid BY PROGRAM, IN A SANDBOX (cutbox-rows.mjs): the forced cells as the released guide's own fill.sh prints them over the translation a9d8c35eb9ffdd8a… (all of the seat's roots in one cut). By AI agents, Wed Nov 11 2026. No macro, syntax, notation, axiom, sorry.
-/
import Derived.Test.YtgicknpbpdfadaaChecked
import GoSem.Claim
import GoSem.ClaimJoined
import GoSem.ClaimMapViews
import Derived.JoinedTies
import Derived.KernelRfl
namespace Go.Proofs.Ytgicknpbpdfadaa
/- THE CELL 'sum', in the pinned program and in every row, IS THE sha256 OF THE DUMP (.gsa) THAT YtgicknpbpdfadaaProg.lean LOADS. Nothing in Lean hashes anything: it is a label: what it is worth is what the hold of that sum in a sandbox is worth. -/
noncomputable def Try.pinned : Pinned := { name := "ytgicknpbpdfadaa", sum := "a9d8c35eb9ffdd8ada1a945345dbbb9c22997df033405e2a7806928d45c3d7bb", checked := Try.checked }
namespace Rows
def none {H : Type} : Left H := { results := [], args := [] }

/-- 'perigeelaw27.CustodyMatchesSpecification': WHATEVER THE INPUT: true; the input reads as it did. -/
def custodyMatchesSpecificationSpec : ChangeSpec := { name := "custodyMatchesSpecification", fn := fun _ => fun
  | [d1, d2] => { results := [.lit (.bool true)], args := [d1, d2] }
  | _ => none }
def custodyMatchesSpecificationRow : OpenClaim := { program := "ytgicknpbpdfadaa", sum := "a9d8c35eb9ffdd8ada1a945345dbbb9c22997df033405e2a7806928d45c3d7bb", func := "perigee/perigeelaw27.CustodyMatchesSpecification", spec := "custodyMatchesSpecification", inPlace := ["slices.overlaps[int]"], unfollowed := true, recurses := true, apart := false }
def CustodyMatchesSpecificationSaid : Prop := custodyMatchesSpecificationRow.holds Try.pinned (OpenSpec.ofChange custodyMatchesSpecificationSpec)

/-- ITS FALSE NEIGHBOUR: 'it returns false'. Refute it at one input. -/
def custodyMatchesSpecificationWrong : ChangeSpec := { name := "custodyMatchesSpecification", fn := fun _ => fun
  | [d1, d2] => { results := [.lit (.bool false)], args := [d1, d2] }
  | _ => none }
def CustodyMatchesSpecificationWrongFalsely : Prop := custodyMatchesSpecificationRow.holds Try.pinned (OpenSpec.ofChange custodyMatchesSpecificationWrong)

/-- 'perigeelaw27.CustodyValid': WHATEVER THE INPUT: true; the input reads as it did. -/
def custodyValidSpec : ChangeSpec := { name := "custodyValid", fn := fun _ => fun
  | [d1, d2] => { results := [.lit (.bool true)], args := [d1, d2] }
  | _ => none }
def custodyValidRow : OpenClaim := { program := "ytgicknpbpdfadaa", sum := "a9d8c35eb9ffdd8ada1a945345dbbb9c22997df033405e2a7806928d45c3d7bb", func := "perigee/perigeelaw27.CustodyValid", spec := "custodyValid", inPlace := ["slices.overlaps[int]"], unfollowed := true, recurses := true, apart := false }
def CustodyValidSaid : Prop := custodyValidRow.holds Try.pinned (OpenSpec.ofChange custodyValidSpec)

/-- ITS FALSE NEIGHBOUR: 'it returns false'. Refute it at one input. -/
def custodyValidWrong : ChangeSpec := { name := "custodyValid", fn := fun _ => fun
  | [d1, d2] => { results := [.lit (.bool false)], args := [d1, d2] }
  | _ => none }
def CustodyValidWrongFalsely : Prop := custodyValidRow.holds Try.pinned (OpenSpec.ofChange custodyValidWrong)

/-- 'perigeelaw27.CustodyDoubles': WHATEVER THE INPUT: true; the input reads as it did. -/
def custodyDoublesSpec : ChangeSpec := { name := "custodyDoubles", fn := fun _ => fun
  | [d1, d2, d3] => { results := [.lit (.bool true)], args := [d1, d2, d3] }
  | _ => none }
def custodyDoublesRow : OpenClaim := { program := "ytgicknpbpdfadaa", sum := "a9d8c35eb9ffdd8ada1a945345dbbb9c22997df033405e2a7806928d45c3d7bb", func := "perigee/perigeelaw27.CustodyDoubles", spec := "custodyDoubles", inPlace := ["slices.overlaps[int]"], unfollowed := true, recurses := true, apart := false }
def CustodyDoublesSaid : Prop := custodyDoublesRow.holds Try.pinned (OpenSpec.ofChange custodyDoublesSpec)

/-- ITS FALSE NEIGHBOUR: 'it returns false'. Refute it at one input. -/
def custodyDoublesWrong : ChangeSpec := { name := "custodyDoubles", fn := fun _ => fun
  | [d1, d2, d3] => { results := [.lit (.bool false)], args := [d1, d2, d3] }
  | _ => none }
def CustodyDoublesWrongFalsely : Prop := custodyDoublesRow.holds Try.pinned (OpenSpec.ofChange custodyDoublesWrong)

/-- 'perigeelaw27.CustodyOffers': WHATEVER THE INPUT: true; the input reads as it did. -/
def custodyOffersSpec : ChangeSpec := { name := "custodyOffers", fn := fun _ => fun
  | [d1, d2, d3] => { results := [.lit (.bool true)], args := [d1, d2, d3] }
  | _ => none }
def custodyOffersRow : OpenClaim := { program := "ytgicknpbpdfadaa", sum := "a9d8c35eb9ffdd8ada1a945345dbbb9c22997df033405e2a7806928d45c3d7bb", func := "perigee/perigeelaw27.CustodyOffers", spec := "custodyOffers", inPlace := ["slices.overlaps[int]"], unfollowed := true, recurses := true, apart := false }
def CustodyOffersSaid : Prop := custodyOffersRow.holds Try.pinned (OpenSpec.ofChange custodyOffersSpec)

/-- ITS FALSE NEIGHBOUR: 'it returns false'. Refute it at one input. -/
def custodyOffersWrong : ChangeSpec := { name := "custodyOffers", fn := fun _ => fun
  | [d1, d2, d3] => { results := [.lit (.bool false)], args := [d1, d2, d3] }
  | _ => none }
def CustodyOffersWrongFalsely : Prop := custodyOffersRow.holds Try.pinned (OpenSpec.ofChange custodyOffersWrong)

/-- 'perigeelaw27.CustodyLine': WHATEVER THE INPUT: true; the input reads as it did. -/
def custodyLineSpec : ChangeSpec := { name := "custodyLine", fn := fun _ => fun
  | [d1, d2] => { results := [.lit (.bool true)], args := [d1, d2] }
  | _ => none }
def custodyLineRow : OpenClaim := { program := "ytgicknpbpdfadaa", sum := "a9d8c35eb9ffdd8ada1a945345dbbb9c22997df033405e2a7806928d45c3d7bb", func := "perigee/perigeelaw27.CustodyLine", spec := "custodyLine", inPlace := ["slices.overlaps[int]"], unfollowed := true, recurses := true, apart := false }
def CustodyLineSaid : Prop := custodyLineRow.holds Try.pinned (OpenSpec.ofChange custodyLineSpec)

/-- ITS FALSE NEIGHBOUR: 'it returns false'. Refute it at one input. -/
def custodyLineWrong : ChangeSpec := { name := "custodyLine", fn := fun _ => fun
  | [d1, d2] => { results := [.lit (.bool false)], args := [d1, d2] }
  | _ => none }
def CustodyLineWrongFalsely : Prop := custodyLineRow.holds Try.pinned (OpenSpec.ofChange custodyLineWrong)

/-- 'perigeelaw27.CustodyDischarges': WHATEVER THE INPUT: true; the input reads as it did. -/
def custodyDischargesSpec : ChangeSpec := { name := "custodyDischarges", fn := fun _ => fun
  | [d1, d2] => { results := [.lit (.bool true)], args := [d1, d2] }
  | _ => none }
def custodyDischargesRow : OpenClaim := { program := "ytgicknpbpdfadaa", sum := "a9d8c35eb9ffdd8ada1a945345dbbb9c22997df033405e2a7806928d45c3d7bb", func := "perigee/perigeelaw27.CustodyDischarges", spec := "custodyDischarges", inPlace := ["slices.overlaps[int]"], unfollowed := true, recurses := true, apart := false }
def CustodyDischargesSaid : Prop := custodyDischargesRow.holds Try.pinned (OpenSpec.ofChange custodyDischargesSpec)

/-- ITS FALSE NEIGHBOUR: 'it returns false'. Refute it at one input. -/
def custodyDischargesWrong : ChangeSpec := { name := "custodyDischarges", fn := fun _ => fun
  | [d1, d2] => { results := [.lit (.bool false)], args := [d1, d2] }
  | _ => none }
def CustodyDischargesWrongFalsely : Prop := custodyDischargesRow.holds Try.pinned (OpenSpec.ofChange custodyDischargesWrong)

/- THE SECOND FORM. 'bulk': how many values and letters a reading holds, each counted each time it is reached (what is shared counts as often as it is met; a slice's spare places count too). A statement '..UptoSaid' is the law's where the arguments, and the package variables that the reading takes, are together of bulk at most 1048576: NARROWER than '..Said'. Prove '..Said' where nothing that the law and all that it calls make is longer than what came in: it says more and counts as full. Else prove '..UptoSaid'. A law counts once. -/
mutual
def uptoBulk {H : Type} : DataW H → Nat
  | .lit (.string bytes) => bytes.length + 1
  | .lit _ => 1
  | .nil => 1
  | .ptr d => uptoBulk d + 1
  | .slice elems spare => uptoBulkAll elems + uptoBulkAll spare + 1
  | .agg parts => uptoBulkAll parts + 1
  | .iface _ d => uptoBulk d + 1
  | .map entries => uptoBulkEntries entries + 1
  | .held _ => 1
def uptoBulkAll {H : Type} : List (DataW H) → Nat
  | [] => 0
  | d :: r => uptoBulk d + uptoBulkAll r
def uptoBulkEntries {H : Type} : List (Lit × DataW H) → Nat
  | [] => 0
  | x :: r => uptoBulkEntry x + uptoBulkEntries r
def uptoBulkEntry {H : Type} : Lit × DataW H → Nat
  | (.string bytes, d) => bytes.length + uptoBulk d + 1
  | (_, d) => uptoBulk d + 1
 end
def uptoSmall : (H : Type) → List (DataW H) → Bool := fun _ ds => decide (uptoBulkAll ds ≤ 1048576)
def OpenSpec.upto (s : _root_.Go.ChangeSpec) : _root_.Go.OpenSpec := { _root_.Go.OpenSpec.ofChange s with cond := some uptoSmall }

/-- 'perigeelaw27.CustodyMatchesSpecification', WHERE WHAT IT READS IS OF BULK AT MOST 1048576: true; the input reads as it did. -/
def custodyMatchesSpecificationUptoRow : OpenClaim := { program := "ytgicknpbpdfadaa", sum := "a9d8c35eb9ffdd8ada1a945345dbbb9c22997df033405e2a7806928d45c3d7bb", func := "perigee/perigeelaw27.CustodyMatchesSpecification", spec := "custodyMatchesSpecification", inPlace := ["slices.overlaps[int]"], unfollowed := true, recurses := true, apart := false, narrowed := true }
def CustodyMatchesSpecificationUptoSaid : Prop := custodyMatchesSpecificationUptoRow.holds Try.pinned (OpenSpec.upto custodyMatchesSpecificationSpec)

/-- 'perigeelaw27.CustodyValid', WHERE WHAT IT READS IS OF BULK AT MOST 1048576: true; the input reads as it did. -/
def custodyValidUptoRow : OpenClaim := { program := "ytgicknpbpdfadaa", sum := "a9d8c35eb9ffdd8ada1a945345dbbb9c22997df033405e2a7806928d45c3d7bb", func := "perigee/perigeelaw27.CustodyValid", spec := "custodyValid", inPlace := ["slices.overlaps[int]"], unfollowed := true, recurses := true, apart := false, narrowed := true }
def CustodyValidUptoSaid : Prop := custodyValidUptoRow.holds Try.pinned (OpenSpec.upto custodyValidSpec)

/-- 'perigeelaw27.CustodyDoubles', WHERE WHAT IT READS IS OF BULK AT MOST 1048576: true; the input reads as it did. -/
def custodyDoublesUptoRow : OpenClaim := { program := "ytgicknpbpdfadaa", sum := "a9d8c35eb9ffdd8ada1a945345dbbb9c22997df033405e2a7806928d45c3d7bb", func := "perigee/perigeelaw27.CustodyDoubles", spec := "custodyDoubles", inPlace := ["slices.overlaps[int]"], unfollowed := true, recurses := true, apart := false, narrowed := true }
def CustodyDoublesUptoSaid : Prop := custodyDoublesUptoRow.holds Try.pinned (OpenSpec.upto custodyDoublesSpec)

/-- 'perigeelaw27.CustodyOffers', WHERE WHAT IT READS IS OF BULK AT MOST 1048576: true; the input reads as it did. -/
def custodyOffersUptoRow : OpenClaim := { program := "ytgicknpbpdfadaa", sum := "a9d8c35eb9ffdd8ada1a945345dbbb9c22997df033405e2a7806928d45c3d7bb", func := "perigee/perigeelaw27.CustodyOffers", spec := "custodyOffers", inPlace := ["slices.overlaps[int]"], unfollowed := true, recurses := true, apart := false, narrowed := true }
def CustodyOffersUptoSaid : Prop := custodyOffersUptoRow.holds Try.pinned (OpenSpec.upto custodyOffersSpec)

/-- 'perigeelaw27.CustodyLine', WHERE WHAT IT READS IS OF BULK AT MOST 1048576: true; the input reads as it did. -/
def custodyLineUptoRow : OpenClaim := { program := "ytgicknpbpdfadaa", sum := "a9d8c35eb9ffdd8ada1a945345dbbb9c22997df033405e2a7806928d45c3d7bb", func := "perigee/perigeelaw27.CustodyLine", spec := "custodyLine", inPlace := ["slices.overlaps[int]"], unfollowed := true, recurses := true, apart := false, narrowed := true }
def CustodyLineUptoSaid : Prop := custodyLineUptoRow.holds Try.pinned (OpenSpec.upto custodyLineSpec)

/-- 'perigeelaw27.CustodyDischarges', WHERE WHAT IT READS IS OF BULK AT MOST 1048576: true; the input reads as it did. -/
def custodyDischargesUptoRow : OpenClaim := { program := "ytgicknpbpdfadaa", sum := "a9d8c35eb9ffdd8ada1a945345dbbb9c22997df033405e2a7806928d45c3d7bb", func := "perigee/perigeelaw27.CustodyDischarges", spec := "custodyDischarges", inPlace := ["slices.overlaps[int]"], unfollowed := true, recurses := true, apart := false, narrowed := true }
def CustodyDischargesUptoSaid : Prop := custodyDischargesUptoRow.holds Try.pinned (OpenSpec.upto custodyDischargesSpec)

end Rows
end Go.Proofs.Ytgicknpbpdfadaa
