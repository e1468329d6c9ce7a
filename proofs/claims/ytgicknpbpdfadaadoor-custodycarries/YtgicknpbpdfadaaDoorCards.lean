/-
  DERIVED. GIVEN WITH THE SEED: THE CARDS: each row of YtgicknpbpdfadaaDoorRows.lean that lists a variable, with what it lists TIED to the program's text (the seventh form; the later family's looks); each row that meets fmt, with fmt's text TOLD by the authors' own Lean function (tested against real Go, not proved from fmt's source: count such statements apart). THE CARD IS WHAT COUNTS. Prove the row's statement (the work); the ties are given (YtgicknpbpdfadaaDoorTie.lean); close each card by the builder's one call (the guide's Derived/Test/ToyasCard.lean, 'card_holds'). Laid BY PROGRAM, IN A SANDBOX (cutbox-door.mjs). By AI agents, Wed Nov 11 2026. No macro, syntax, notation, axiom, sorry.
-/
import Derived.Test.YtgicknpbpdfadaaDoorRows
import GoSem.ClaimSeven
namespace Go.Proofs.YtgicknpbpdfadaaDoor
namespace Rows

/-- THE TIED CARD OF 'perigeelaw27.CustodyCarries'. -/
def custodyCarriesCard : Claim7 := { stood := { row := custodyCarriesRow, standIns := [], harness := (true, "a0609664aa1553bcd80131003adcf1658f7c29184f2256be49cfeb468b981347"), looks := false }, kinds := [], alts := [], laidByText := true, laidKinds := [.data], laidTests := true, laidLooks := .later }
def CustodyCarriesCardSaid : Prop := Claim7.holds Tryd.pinned (.plain (OpenSpec.ofChange custodyCarriesSpec)) custodyCarriesCard

/-- THE SECOND FORM's CARD OF 'perigeelaw27.CustodyCarries'. -/
def custodyCarriesUptoCard : Claim7 := { stood := { row := custodyCarriesUptoRow, standIns := [], harness := (true, "a0609664aa1553bcd80131003adcf1658f7c29184f2256be49cfeb468b981347"), looks := false }, kinds := [], alts := [], laidByText := true, laidKinds := [.data], laidTests := true, laidLooks := .later }
def CustodyCarriesUptoCardSaid : Prop := Claim7.holds Tryd.pinned (.plain (OpenSpec.upto custodyCarriesSpec)) custodyCarriesUptoCard
end Rows
end Go.Proofs.YtgicknpbpdfadaaDoor
