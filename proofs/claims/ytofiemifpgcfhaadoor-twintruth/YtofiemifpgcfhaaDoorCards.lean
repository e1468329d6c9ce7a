/-
  DERIVED. GIVEN WITH THE SEED: THE CARDS: each row of YtofiemifpgcfhaaDoorRows.lean that lists a variable, with what it lists TIED to the program's text (the seventh form; the later family's looks); each row that meets fmt, with fmt's text TOLD by the authors' own Lean function (tested against real Go, not proved from fmt's source: count such statements apart). THE CARD IS WHAT COUNTS. Prove the row's statement (the work); the ties are given (YtofiemifpgcfhaaDoorTie.lean); close each card by the builder's one call (the guide's Derived/Test/ToyasCard.lean, 'card_holds'). Laid BY PROGRAM, IN A SANDBOX (cutbox-door.mjs). By AI agents, Wed Nov 11 2026. No macro, syntax, notation, axiom, sorry.
-/
import Derived.Test.YtofiemifpgcfhaaDoorRows
import GoSem.ClaimSeven
namespace Go.Proofs.YtofiemifpgcfhaaDoor
namespace Rows

/-- THE TIED CARD OF 'perigeelaw34.TwinApplies'. -/
def twinAppliesCard : Claim7 := { stood := { row := twinAppliesRow, standIns := [], harness := (true, "7663b567326e0f7ad91fa60f6e2c6cb7acf20fa232a3dd9f3e525f736734782d"), looks := false }, kinds := [], alts := [], laidByText := true, laidKinds := [.data, .data], laidTests := true, laidLooks := .later }
def TwinAppliesCardSaid : Prop := Claim7.holds Tryd.pinned (.plain (OpenSpec.ofChange twinAppliesSpec)) twinAppliesCard

/-- THE TIED CARD OF 'perigeelaw34.TwinPlays'. -/
def twinPlaysCard : Claim7 := { stood := { row := twinPlaysRow, standIns := [], harness := (true, "7663b567326e0f7ad91fa60f6e2c6cb7acf20fa232a3dd9f3e525f736734782d"), looks := false }, kinds := [], alts := [], laidByText := true, laidKinds := [.data, .data], laidTests := true, laidLooks := .later }
def TwinPlaysCardSaid : Prop := Claim7.holds Tryd.pinned (.plain (OpenSpec.ofChange twinPlaysSpec)) twinPlaysCard

/-- THE TIED CARD OF 'perigeelaw34.TwinLimits'. -/
def twinLimitsCard : Claim7 := { stood := { row := twinLimitsRow, standIns := [], harness := (true, "7663b567326e0f7ad91fa60f6e2c6cb7acf20fa232a3dd9f3e525f736734782d"), looks := false }, kinds := [], alts := [], laidByText := true, laidKinds := [.data, .data], laidTests := true, laidLooks := .later }
def TwinLimitsCardSaid : Prop := Claim7.holds Tryd.pinned (.plain (OpenSpec.ofChange twinLimitsSpec)) twinLimitsCard

/-- THE TIED CARD OF 'perigeelaw34.TwinReaches'. -/
def twinReachesCard : Claim7 := { stood := { row := twinReachesRow, standIns := [], harness := (true, "7663b567326e0f7ad91fa60f6e2c6cb7acf20fa232a3dd9f3e525f736734782d"), looks := false }, kinds := [], alts := [], laidByText := true, laidKinds := [.data, .data], laidTests := true, laidLooks := .later }
def TwinReachesCardSaid : Prop := Claim7.holds Tryd.pinned (.plain (OpenSpec.ofChange twinReachesSpec)) twinReachesCard

/-- THE TIED CARD OF 'perigeelaw34.TwinSound'. -/
def twinSoundCard : Claim7 := { stood := { row := twinSoundRow, standIns := [], harness := (true, "7663b567326e0f7ad91fa60f6e2c6cb7acf20fa232a3dd9f3e525f736734782d"), looks := false }, kinds := [], alts := [], laidByText := true, laidKinds := [.data, .data], laidTests := true, laidLooks := .later }
def TwinSoundCardSaid : Prop := Claim7.holds Tryd.pinned (.plain (OpenSpec.ofChange twinSoundSpec)) twinSoundCard

/-- THE TIED CARD OF 'perigeelaw34.TwinReads'. -/
def twinReadsCard : Claim7 := { stood := { row := twinReadsRow, standIns := [], harness := (true, "7663b567326e0f7ad91fa60f6e2c6cb7acf20fa232a3dd9f3e525f736734782d"), looks := false }, kinds := [], alts := [], laidByText := true, laidKinds := [.data, .data], laidTests := true, laidLooks := .later }
def TwinReadsCardSaid : Prop := Claim7.holds Tryd.pinned (.plain (OpenSpec.ofChange twinReadsSpec)) twinReadsCard

/-- THE TIED CARD OF 'perigeelaw34.TwinReceives'. -/
def twinReceivesCard : Claim7 := { stood := { row := twinReceivesRow, standIns := [], harness := (true, "7663b567326e0f7ad91fa60f6e2c6cb7acf20fa232a3dd9f3e525f736734782d"), looks := false }, kinds := [], alts := [], laidByText := true, laidKinds := [.data, .data], laidTests := true, laidLooks := .later }
def TwinReceivesCardSaid : Prop := Claim7.holds Tryd.pinned (.plain (OpenSpec.ofChange twinReceivesSpec)) twinReceivesCard

/-- THE TIED CARD OF 'perigeelaw34.TwinSettles'. -/
def twinSettlesCard : Claim7 := { stood := { row := twinSettlesRow, standIns := [], harness := (true, "7663b567326e0f7ad91fa60f6e2c6cb7acf20fa232a3dd9f3e525f736734782d"), looks := false }, kinds := [], alts := [], laidByText := true, laidKinds := [.data, .data], laidTests := true, laidLooks := .later }
def TwinSettlesCardSaid : Prop := Claim7.holds Tryd.pinned (.plain (OpenSpec.ofChange twinSettlesSpec)) twinSettlesCard

/-- THE TIED CARD OF 'perigeelaw34.TwinTruth'. -/
def twinTruthCard : Claim7 := { stood := { row := twinTruthRow, standIns := [], harness := (true, "7663b567326e0f7ad91fa60f6e2c6cb7acf20fa232a3dd9f3e525f736734782d"), looks := false }, kinds := [], alts := [], laidByText := true, laidKinds := [.data, .data], laidTests := true, laidLooks := .later }
def TwinTruthCardSaid : Prop := Claim7.holds Tryd.pinned (.plain (OpenSpec.ofChange twinTruthSpec)) twinTruthCard

/-- THE SECOND FORM's CARD OF 'perigeelaw34.TwinApplies'. -/
def twinAppliesUptoCard : Claim7 := { stood := { row := twinAppliesUptoRow, standIns := [], harness := (true, "7663b567326e0f7ad91fa60f6e2c6cb7acf20fa232a3dd9f3e525f736734782d"), looks := false }, kinds := [], alts := [], laidByText := true, laidKinds := [.data, .data], laidTests := true, laidLooks := .later }
def TwinAppliesUptoCardSaid : Prop := Claim7.holds Tryd.pinned (.plain (OpenSpec.upto twinAppliesSpec)) twinAppliesUptoCard

/-- THE SECOND FORM's CARD OF 'perigeelaw34.TwinPlays'. -/
def twinPlaysUptoCard : Claim7 := { stood := { row := twinPlaysUptoRow, standIns := [], harness := (true, "7663b567326e0f7ad91fa60f6e2c6cb7acf20fa232a3dd9f3e525f736734782d"), looks := false }, kinds := [], alts := [], laidByText := true, laidKinds := [.data, .data], laidTests := true, laidLooks := .later }
def TwinPlaysUptoCardSaid : Prop := Claim7.holds Tryd.pinned (.plain (OpenSpec.upto twinPlaysSpec)) twinPlaysUptoCard

/-- THE SECOND FORM's CARD OF 'perigeelaw34.TwinLimits'. -/
def twinLimitsUptoCard : Claim7 := { stood := { row := twinLimitsUptoRow, standIns := [], harness := (true, "7663b567326e0f7ad91fa60f6e2c6cb7acf20fa232a3dd9f3e525f736734782d"), looks := false }, kinds := [], alts := [], laidByText := true, laidKinds := [.data, .data], laidTests := true, laidLooks := .later }
def TwinLimitsUptoCardSaid : Prop := Claim7.holds Tryd.pinned (.plain (OpenSpec.upto twinLimitsSpec)) twinLimitsUptoCard

/-- THE SECOND FORM's CARD OF 'perigeelaw34.TwinReaches'. -/
def twinReachesUptoCard : Claim7 := { stood := { row := twinReachesUptoRow, standIns := [], harness := (true, "7663b567326e0f7ad91fa60f6e2c6cb7acf20fa232a3dd9f3e525f736734782d"), looks := false }, kinds := [], alts := [], laidByText := true, laidKinds := [.data, .data], laidTests := true, laidLooks := .later }
def TwinReachesUptoCardSaid : Prop := Claim7.holds Tryd.pinned (.plain (OpenSpec.upto twinReachesSpec)) twinReachesUptoCard

/-- THE SECOND FORM's CARD OF 'perigeelaw34.TwinSound'. -/
def twinSoundUptoCard : Claim7 := { stood := { row := twinSoundUptoRow, standIns := [], harness := (true, "7663b567326e0f7ad91fa60f6e2c6cb7acf20fa232a3dd9f3e525f736734782d"), looks := false }, kinds := [], alts := [], laidByText := true, laidKinds := [.data, .data], laidTests := true, laidLooks := .later }
def TwinSoundUptoCardSaid : Prop := Claim7.holds Tryd.pinned (.plain (OpenSpec.upto twinSoundSpec)) twinSoundUptoCard

/-- THE SECOND FORM's CARD OF 'perigeelaw34.TwinReads'. -/
def twinReadsUptoCard : Claim7 := { stood := { row := twinReadsUptoRow, standIns := [], harness := (true, "7663b567326e0f7ad91fa60f6e2c6cb7acf20fa232a3dd9f3e525f736734782d"), looks := false }, kinds := [], alts := [], laidByText := true, laidKinds := [.data, .data], laidTests := true, laidLooks := .later }
def TwinReadsUptoCardSaid : Prop := Claim7.holds Tryd.pinned (.plain (OpenSpec.upto twinReadsSpec)) twinReadsUptoCard

/-- THE SECOND FORM's CARD OF 'perigeelaw34.TwinReceives'. -/
def twinReceivesUptoCard : Claim7 := { stood := { row := twinReceivesUptoRow, standIns := [], harness := (true, "7663b567326e0f7ad91fa60f6e2c6cb7acf20fa232a3dd9f3e525f736734782d"), looks := false }, kinds := [], alts := [], laidByText := true, laidKinds := [.data, .data], laidTests := true, laidLooks := .later }
def TwinReceivesUptoCardSaid : Prop := Claim7.holds Tryd.pinned (.plain (OpenSpec.upto twinReceivesSpec)) twinReceivesUptoCard

/-- THE SECOND FORM's CARD OF 'perigeelaw34.TwinSettles'. -/
def twinSettlesUptoCard : Claim7 := { stood := { row := twinSettlesUptoRow, standIns := [], harness := (true, "7663b567326e0f7ad91fa60f6e2c6cb7acf20fa232a3dd9f3e525f736734782d"), looks := false }, kinds := [], alts := [], laidByText := true, laidKinds := [.data, .data], laidTests := true, laidLooks := .later }
def TwinSettlesUptoCardSaid : Prop := Claim7.holds Tryd.pinned (.plain (OpenSpec.upto twinSettlesSpec)) twinSettlesUptoCard

/-- THE SECOND FORM's CARD OF 'perigeelaw34.TwinTruth'. -/
def twinTruthUptoCard : Claim7 := { stood := { row := twinTruthUptoRow, standIns := [], harness := (true, "7663b567326e0f7ad91fa60f6e2c6cb7acf20fa232a3dd9f3e525f736734782d"), looks := false }, kinds := [], alts := [], laidByText := true, laidKinds := [.data, .data], laidTests := true, laidLooks := .later }
def TwinTruthUptoCardSaid : Prop := Claim7.holds Tryd.pinned (.plain (OpenSpec.upto twinTruthSpec)) twinTruthUptoCard
end Rows
end Go.Proofs.YtofiemifpgcfhaaDoor
