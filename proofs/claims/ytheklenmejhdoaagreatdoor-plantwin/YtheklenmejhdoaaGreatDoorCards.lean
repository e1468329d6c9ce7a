/-
  DERIVED. GIVEN WITH THE SEED: THE CARDS: each row of YtheklenmejhdoaaGreatDoorRows.lean that lists a variable, with what it lists TIED to the program's text (the seventh form; the later family's looks); each row that meets fmt, with fmt's text TOLD by the authors' own Lean function (tested against real Go, not proved from fmt's source: count such statements apart). THE CARD IS WHAT COUNTS. Prove the row's statement (the work); the ties are given (YtheklenmejhdoaaGreatDoorTie.lean); close each card by the builder's one call (the guide's Derived/Test/ToyasCard.lean, 'card_holds'). Laid BY PROGRAM, IN A SANDBOX (cutbox-door.mjs). By AI agents, Wed Nov 11 2026. No macro, syntax, notation, axiom, sorry.
-/
import Derived.Test.YtheklenmejhdoaaGreatDoorRows
import GoSem.ClaimSeven
namespace Go.Proofs.YtheklenmejhdoaaGreatDoor
namespace Rows

/-- THE TIED CARD OF 'perigeelaw35.PlanTwin'. -/
def planTwinCard : Claim7 := { stood := { row := planTwinRow, standIns := [], harness := (true, "0651a04161311b3129fd2e701c02edb8465dce6e3f3110c774ecd104dfbd1aa8"), looks := false }, kinds := [], alts := [], laidByText := true, laidKinds := [.data, .data], laidTests := true, laidLooks := .later }
def PlanTwinCardSaid : Prop := Claim7.holds Tryz.pinned (.plain (OpenSpec.ofChange planTwinSpec)) planTwinCard

/-- THE SECOND FORM's CARD OF 'perigeelaw35.PlanTwin'. -/
def planTwinUptoCard : Claim7 := { stood := { row := planTwinUptoRow, standIns := [], harness := (true, "0651a04161311b3129fd2e701c02edb8465dce6e3f3110c774ecd104dfbd1aa8"), looks := false }, kinds := [], alts := [], laidByText := true, laidKinds := [.data, .data], laidTests := true, laidLooks := .later }
def PlanTwinUptoCardSaid : Prop := Claim7.holds Tryz.pinned (.plain (OpenSpec.upto planTwinSpec)) planTwinUptoCard
end Rows
end Go.Proofs.YtheklenmejhdoaaGreatDoor
