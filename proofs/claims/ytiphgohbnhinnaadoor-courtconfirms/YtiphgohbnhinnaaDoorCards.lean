/-
  DERIVED. GIVEN WITH THE SEED: THE CARDS: each row of YtiphgohbnhinnaaDoorRows.lean that lists a variable, with what it lists TIED to the program's text (the seventh form; the later family's looks); each row that meets fmt, with fmt's text TOLD by the authors' own Lean function (tested against real Go, not proved from fmt's source: count such statements apart). THE CARD IS WHAT COUNTS. Prove the row's statement (the work); the ties are given (YtiphgohbnhinnaaDoorTie.lean); close each card by the builder's one call (the guide's Derived/Test/ToyasCard.lean, 'card_holds'). Laid BY PROGRAM, IN A SANDBOX (cutbox-door.mjs). By AI agents, Wed Nov 11 2026. No macro, syntax, notation, axiom, sorry.
-/
import Derived.Test.YtiphgohbnhinnaaDoorRows
import GoSem.ClaimSeven
namespace Go.Proofs.YtiphgohbnhinnaaDoor
namespace Rows

/-- THE TIED CARD OF 'perigeelaw36.CourtRights'. -/
def courtRightsCard : Claim7 := { stood := { row := courtRightsRow, standIns := [], harness := (true, "0ba6e11e668166ce1bf3aec6af507c9947a7b27a1271d83243335c4b2181bc3b"), looks := false }, kinds := [], alts := [], laidByText := true, laidKinds := [.data, .data], laidTests := true, laidLooks := .later }
def CourtRightsCardSaid : Prop := Claim7.holds Tryd.pinned (.plain (OpenSpec.ofChange courtRightsSpec)) courtRightsCard

/-- THE TIED CARD OF 'perigeelaw36.CourtJudges'. -/
def courtJudgesCard : Claim7 := { stood := { row := courtJudgesRow, standIns := [], harness := (true, "0ba6e11e668166ce1bf3aec6af507c9947a7b27a1271d83243335c4b2181bc3b"), looks := false }, kinds := [], alts := [], laidByText := true, laidKinds := [.data, .data], laidTests := true, laidLooks := .later }
def CourtJudgesCardSaid : Prop := Claim7.holds Tryd.pinned (.plain (OpenSpec.ofChange courtJudgesSpec)) courtJudgesCard

/-- THE TIED CARD OF 'perigeelaw36.CourtFair'. -/
def courtFairCard : Claim7 := { stood := { row := courtFairRow, standIns := [], harness := (true, "0ba6e11e668166ce1bf3aec6af507c9947a7b27a1271d83243335c4b2181bc3b"), looks := false }, kinds := [], alts := [], laidByText := true, laidKinds := [.data, .data], laidTests := true, laidLooks := .later }
def CourtFairCardSaid : Prop := Claim7.holds Tryd.pinned (.plain (OpenSpec.ofChange courtFairSpec)) courtFairCard

/-- THE TIED CARD OF 'perigeelaw36.CourtLearns'. -/
def courtLearnsCard : Claim7 := { stood := { row := courtLearnsRow, standIns := [], harness := (true, "0ba6e11e668166ce1bf3aec6af507c9947a7b27a1271d83243335c4b2181bc3b"), looks := false }, kinds := [], alts := [], laidByText := true, laidKinds := [.data, .data], laidTests := true, laidLooks := .later }
def CourtLearnsCardSaid : Prop := Claim7.holds Tryd.pinned (.plain (OpenSpec.ofChange courtLearnsSpec)) courtLearnsCard

/-- THE TIED CARD OF 'perigeelaw36.CourtChecks'. -/
def courtChecksCard : Claim7 := { stood := { row := courtChecksRow, standIns := [], harness := (true, "0ba6e11e668166ce1bf3aec6af507c9947a7b27a1271d83243335c4b2181bc3b"), looks := false }, kinds := [], alts := [], laidByText := true, laidKinds := [.data, .data], laidTests := true, laidLooks := .later }
def CourtChecksCardSaid : Prop := Claim7.holds Tryd.pinned (.plain (OpenSpec.ofChange courtChecksSpec)) courtChecksCard

/-- THE TIED CARD OF 'perigeelaw36.CourtPrefix'. -/
def courtPrefixCard : Claim7 := { stood := { row := courtPrefixRow, standIns := [], harness := (true, "0ba6e11e668166ce1bf3aec6af507c9947a7b27a1271d83243335c4b2181bc3b"), looks := false }, kinds := [], alts := [], laidByText := true, laidKinds := [.data, .data], laidTests := true, laidLooks := .later }
def CourtPrefixCardSaid : Prop := Claim7.holds Tryd.pinned (.plain (OpenSpec.ofChange courtPrefixSpec)) courtPrefixCard

/-- THE TIED CARD OF 'perigeelaw36.CourtKnows'. -/
def courtKnowsCard : Claim7 := { stood := { row := courtKnowsRow, standIns := [], harness := (true, "0ba6e11e668166ce1bf3aec6af507c9947a7b27a1271d83243335c4b2181bc3b"), looks := false }, kinds := [], alts := [], laidByText := true, laidKinds := [.data, .data], laidTests := true, laidLooks := .later }
def CourtKnowsCardSaid : Prop := Claim7.holds Tryd.pinned (.plain (OpenSpec.ofChange courtKnowsSpec)) courtKnowsCard

/-- THE TIED CARD OF 'perigeelaw36.CourtExact'. -/
def courtExactCard : Claim7 := { stood := { row := courtExactRow, standIns := [], harness := (true, "0ba6e11e668166ce1bf3aec6af507c9947a7b27a1271d83243335c4b2181bc3b"), looks := false }, kinds := [], alts := [], laidByText := true, laidKinds := [.data, .data], laidTests := true, laidLooks := .later }
def CourtExactCardSaid : Prop := Claim7.holds Tryd.pinned (.plain (OpenSpec.ofChange courtExactSpec)) courtExactCard

/-- THE TIED CARD OF 'perigeelaw36.CourtConfirms'. -/
def courtConfirmsCard : Claim7 := { stood := { row := courtConfirmsRow, standIns := [], harness := (true, "0ba6e11e668166ce1bf3aec6af507c9947a7b27a1271d83243335c4b2181bc3b"), looks := false }, kinds := [], alts := [], laidByText := true, laidKinds := [.data, .data], laidTests := true, laidLooks := .later }
def CourtConfirmsCardSaid : Prop := Claim7.holds Tryd.pinned (.plain (OpenSpec.ofChange courtConfirmsSpec)) courtConfirmsCard

/-- THE SECOND FORM's CARD OF 'perigeelaw36.CourtRights'. -/
def courtRightsUptoCard : Claim7 := { stood := { row := courtRightsUptoRow, standIns := [], harness := (true, "0ba6e11e668166ce1bf3aec6af507c9947a7b27a1271d83243335c4b2181bc3b"), looks := false }, kinds := [], alts := [], laidByText := true, laidKinds := [.data, .data], laidTests := true, laidLooks := .later }
def CourtRightsUptoCardSaid : Prop := Claim7.holds Tryd.pinned (.plain (OpenSpec.upto courtRightsSpec)) courtRightsUptoCard

/-- THE SECOND FORM's CARD OF 'perigeelaw36.CourtJudges'. -/
def courtJudgesUptoCard : Claim7 := { stood := { row := courtJudgesUptoRow, standIns := [], harness := (true, "0ba6e11e668166ce1bf3aec6af507c9947a7b27a1271d83243335c4b2181bc3b"), looks := false }, kinds := [], alts := [], laidByText := true, laidKinds := [.data, .data], laidTests := true, laidLooks := .later }
def CourtJudgesUptoCardSaid : Prop := Claim7.holds Tryd.pinned (.plain (OpenSpec.upto courtJudgesSpec)) courtJudgesUptoCard

/-- THE SECOND FORM's CARD OF 'perigeelaw36.CourtFair'. -/
def courtFairUptoCard : Claim7 := { stood := { row := courtFairUptoRow, standIns := [], harness := (true, "0ba6e11e668166ce1bf3aec6af507c9947a7b27a1271d83243335c4b2181bc3b"), looks := false }, kinds := [], alts := [], laidByText := true, laidKinds := [.data, .data], laidTests := true, laidLooks := .later }
def CourtFairUptoCardSaid : Prop := Claim7.holds Tryd.pinned (.plain (OpenSpec.upto courtFairSpec)) courtFairUptoCard

/-- THE SECOND FORM's CARD OF 'perigeelaw36.CourtLearns'. -/
def courtLearnsUptoCard : Claim7 := { stood := { row := courtLearnsUptoRow, standIns := [], harness := (true, "0ba6e11e668166ce1bf3aec6af507c9947a7b27a1271d83243335c4b2181bc3b"), looks := false }, kinds := [], alts := [], laidByText := true, laidKinds := [.data, .data], laidTests := true, laidLooks := .later }
def CourtLearnsUptoCardSaid : Prop := Claim7.holds Tryd.pinned (.plain (OpenSpec.upto courtLearnsSpec)) courtLearnsUptoCard

/-- THE SECOND FORM's CARD OF 'perigeelaw36.CourtChecks'. -/
def courtChecksUptoCard : Claim7 := { stood := { row := courtChecksUptoRow, standIns := [], harness := (true, "0ba6e11e668166ce1bf3aec6af507c9947a7b27a1271d83243335c4b2181bc3b"), looks := false }, kinds := [], alts := [], laidByText := true, laidKinds := [.data, .data], laidTests := true, laidLooks := .later }
def CourtChecksUptoCardSaid : Prop := Claim7.holds Tryd.pinned (.plain (OpenSpec.upto courtChecksSpec)) courtChecksUptoCard

/-- THE SECOND FORM's CARD OF 'perigeelaw36.CourtPrefix'. -/
def courtPrefixUptoCard : Claim7 := { stood := { row := courtPrefixUptoRow, standIns := [], harness := (true, "0ba6e11e668166ce1bf3aec6af507c9947a7b27a1271d83243335c4b2181bc3b"), looks := false }, kinds := [], alts := [], laidByText := true, laidKinds := [.data, .data], laidTests := true, laidLooks := .later }
def CourtPrefixUptoCardSaid : Prop := Claim7.holds Tryd.pinned (.plain (OpenSpec.upto courtPrefixSpec)) courtPrefixUptoCard

/-- THE SECOND FORM's CARD OF 'perigeelaw36.CourtKnows'. -/
def courtKnowsUptoCard : Claim7 := { stood := { row := courtKnowsUptoRow, standIns := [], harness := (true, "0ba6e11e668166ce1bf3aec6af507c9947a7b27a1271d83243335c4b2181bc3b"), looks := false }, kinds := [], alts := [], laidByText := true, laidKinds := [.data, .data], laidTests := true, laidLooks := .later }
def CourtKnowsUptoCardSaid : Prop := Claim7.holds Tryd.pinned (.plain (OpenSpec.upto courtKnowsSpec)) courtKnowsUptoCard

/-- THE SECOND FORM's CARD OF 'perigeelaw36.CourtExact'. -/
def courtExactUptoCard : Claim7 := { stood := { row := courtExactUptoRow, standIns := [], harness := (true, "0ba6e11e668166ce1bf3aec6af507c9947a7b27a1271d83243335c4b2181bc3b"), looks := false }, kinds := [], alts := [], laidByText := true, laidKinds := [.data, .data], laidTests := true, laidLooks := .later }
def CourtExactUptoCardSaid : Prop := Claim7.holds Tryd.pinned (.plain (OpenSpec.upto courtExactSpec)) courtExactUptoCard

/-- THE SECOND FORM's CARD OF 'perigeelaw36.CourtConfirms'. -/
def courtConfirmsUptoCard : Claim7 := { stood := { row := courtConfirmsUptoRow, standIns := [], harness := (true, "0ba6e11e668166ce1bf3aec6af507c9947a7b27a1271d83243335c4b2181bc3b"), looks := false }, kinds := [], alts := [], laidByText := true, laidKinds := [.data, .data], laidTests := true, laidLooks := .later }
def CourtConfirmsUptoCardSaid : Prop := Claim7.holds Tryd.pinned (.plain (OpenSpec.upto courtConfirmsSpec)) courtConfirmsUptoCard
end Rows
end Go.Proofs.YtiphgohbnhinnaaDoor
