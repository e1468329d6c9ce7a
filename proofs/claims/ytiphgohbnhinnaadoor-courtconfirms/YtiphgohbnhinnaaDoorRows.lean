/-
  NARROWER THAN 'FOR EVERY INPUT', by the rows' own cells (each row's printed sentence says how): CourtRights: laid · CourtJudges: laid · CourtFair: laid · CourtLearns: laid · CourtChecks: laid · CourtPrefix: laid · CourtKnows: laid · CourtExact: laid · CourtConfirms: laid.
  DERIVED. THE GIVEN ROWS OF THIS SEAT. 9 by the template 'for every input the law returns true; each argument reads behind the call as it read before'; 0 by the template 'total and deterministic' (their statements: YtiphgohbnhinnaaDoorTotals.lean).
  GIVEN WITH THE SEED: the statements are not yours to turn. If you find one false, say at which input.
  Laid BY PROGRAM, IN A SANDBOX (cutbox-rows.mjs): the forced cells as the released guide's own fill.sh prints them over the translation e8ffae19ccbd5b69… (all of the seat's roots in one cut). By AI agents, Wed Nov 11 2026. No macro, syntax, notation, axiom, sorry.
-/
import Derived.Test.YtiphgohbnhinnaaDoorChecked
import GoSem.Claim
import GoSem.ClaimJoined
import GoSem.ClaimMapViews
import Derived.JoinedTies
import Derived.KernelRfl
namespace Go.Proofs.YtiphgohbnhinnaaDoor
/- THE CELL 'sum', in the pinned program and in every row, IS THE sha256 OF THE DUMP (.gsa) THAT YtiphgohbnhinnaaDoorProg.lean LOADS. Nothing in Lean hashes anything: it is a label: what it is worth is what the hold of that sum in a sandbox is worth. -/
noncomputable def Tryd.pinned : Pinned := { name := "ytiphgohbnhinnaadoor", sum := "e8ffae19ccbd5b699f81544385448d1a0c26d5cdff5d72ae3ee3eb6ac23f4105", checked := Tryd.checked }
namespace Rows
def none {H : Type} : Left H := { results := [], args := [] }

/- WHAT THE LISTED PACKAGE-LEVEL VARIABLES READ AS WHEN THE CALL BEGINS. Each datum BY PROGRAM (the guide's laid-datum.mjs) off the statement by which the dump's own 'gosem.cut.vars' lays the variable. In a bare row this is a premise. The card (YtiphgohbnhinnaaDoorCards.lean) ties it to the program's text. -/
def laid_math_bits_deBruijn32tab {H : Type} : DataW H := .agg [.lit (.int .u8 0), .lit (.int .u8 1), .lit (.int .u8 28), .lit (.int .u8 2), .lit (.int .u8 29), .lit (.int .u8 14), .lit (.int .u8 24), .lit (.int .u8 3), .lit (.int .u8 30), .lit (.int .u8 22), .lit (.int .u8 20), .lit (.int .u8 15), .lit (.int .u8 25), .lit (.int .u8 17), .lit (.int .u8 4), .lit (.int .u8 8), .lit (.int .u8 31), .lit (.int .u8 27), .lit (.int .u8 13), .lit (.int .u8 23), .lit (.int .u8 21), .lit (.int .u8 19), .lit (.int .u8 16), .lit (.int .u8 7), .lit (.int .u8 26), .lit (.int .u8 12), .lit (.int .u8 18), .lit (.int .u8 6), .lit (.int .u8 11), .lit (.int .u8 5), .lit (.int .u8 10), .lit (.int .u8 9)]
def laid_math_bits_deBruijn64tab {H : Type} : DataW H := .agg [.lit (.int .u8 0), .lit (.int .u8 1), .lit (.int .u8 56), .lit (.int .u8 2), .lit (.int .u8 57), .lit (.int .u8 49), .lit (.int .u8 28), .lit (.int .u8 3), .lit (.int .u8 61), .lit (.int .u8 58), .lit (.int .u8 42), .lit (.int .u8 50), .lit (.int .u8 38), .lit (.int .u8 29), .lit (.int .u8 17), .lit (.int .u8 4), .lit (.int .u8 62), .lit (.int .u8 47), .lit (.int .u8 59), .lit (.int .u8 36), .lit (.int .u8 45), .lit (.int .u8 43), .lit (.int .u8 51), .lit (.int .u8 22), .lit (.int .u8 53), .lit (.int .u8 39), .lit (.int .u8 33), .lit (.int .u8 30), .lit (.int .u8 24), .lit (.int .u8 18), .lit (.int .u8 12), .lit (.int .u8 5), .lit (.int .u8 63), .lit (.int .u8 55), .lit (.int .u8 48), .lit (.int .u8 27), .lit (.int .u8 60), .lit (.int .u8 41), .lit (.int .u8 37), .lit (.int .u8 16), .lit (.int .u8 46), .lit (.int .u8 35), .lit (.int .u8 44), .lit (.int .u8 21), .lit (.int .u8 52), .lit (.int .u8 32), .lit (.int .u8 23), .lit (.int .u8 11), .lit (.int .u8 54), .lit (.int .u8 26), .lit (.int .u8 40), .lit (.int .u8 15), .lit (.int .u8 34), .lit (.int .u8 20), .lit (.int .u8 31), .lit (.int .u8 10), .lit (.int .u8 25), .lit (.int .u8 14), .lit (.int .u8 19), .lit (.int .u8 9), .lit (.int .u8 13), .lit (.int .u8 8), .lit (.int .u8 7), .lit (.int .u8 6)]

/-- 'perigeelaw36.CourtRights': WHATEVER THE INPUT: true; the input reads as it did. -/
def courtRightsSpec : ChangeSpec := { name := "courtRights", fn := fun _ => fun
  | [d1, d2, d3, d4, d5, d6] => { results := [.lit (.bool true)], args := [d1, d2, d3, d4, d5, d6] }
  | _ => none }
def courtRightsRow : OpenClaim := { program := "ytiphgohbnhinnaadoor", sum := "e8ffae19ccbd5b699f81544385448d1a0c26d5cdff5d72ae3ee3eb6ac23f4105", func := "perigee/perigeelaw36.CourtRights", spec := "courtRights", unfollowed := true, recurses := true, named := ["math/bits.deBruijn32tab", "math/bits.deBruijn64tab"], plainKeys := false, apart := false, laid := [("math/bits.deBruijn32tab", laid_math_bits_deBruijn32tab), ("math/bits.deBruijn64tab", laid_math_bits_deBruijn64tab)] }
def CourtRightsSaid : Prop := courtRightsRow.holds Tryd.pinned (OpenSpec.ofChange courtRightsSpec)

/-- ITS FALSE NEIGHBOUR: 'it returns false'. Refute it at one input. -/
def courtRightsWrong : ChangeSpec := { name := "courtRights", fn := fun _ => fun
  | [d1, d2, d3, d4, d5, d6] => { results := [.lit (.bool false)], args := [d1, d2, d3, d4, d5, d6] }
  | _ => none }
def CourtRightsWrongFalsely : Prop := courtRightsRow.holds Tryd.pinned (OpenSpec.ofChange courtRightsWrong)

/-- 'perigeelaw36.CourtJudges': WHATEVER THE INPUT: true; the input reads as it did. -/
def courtJudgesSpec : ChangeSpec := { name := "courtJudges", fn := fun _ => fun
  | [d1, d2, d3, d4, d5] => { results := [.lit (.bool true)], args := [d1, d2, d3, d4, d5] }
  | _ => none }
def courtJudgesRow : OpenClaim := { program := "ytiphgohbnhinnaadoor", sum := "e8ffae19ccbd5b699f81544385448d1a0c26d5cdff5d72ae3ee3eb6ac23f4105", func := "perigee/perigeelaw36.CourtJudges", spec := "courtJudges", unfollowed := true, recurses := true, named := ["math/bits.deBruijn32tab", "math/bits.deBruijn64tab"], plainKeys := false, apart := false, laid := [("math/bits.deBruijn32tab", laid_math_bits_deBruijn32tab), ("math/bits.deBruijn64tab", laid_math_bits_deBruijn64tab)] }
def CourtJudgesSaid : Prop := courtJudgesRow.holds Tryd.pinned (OpenSpec.ofChange courtJudgesSpec)

/-- ITS FALSE NEIGHBOUR: 'it returns false'. Refute it at one input. -/
def courtJudgesWrong : ChangeSpec := { name := "courtJudges", fn := fun _ => fun
  | [d1, d2, d3, d4, d5] => { results := [.lit (.bool false)], args := [d1, d2, d3, d4, d5] }
  | _ => none }
def CourtJudgesWrongFalsely : Prop := courtJudgesRow.holds Tryd.pinned (OpenSpec.ofChange courtJudgesWrong)

/-- 'perigeelaw36.CourtFair': WHATEVER THE INPUT: true; the input reads as it did. -/
def courtFairSpec : ChangeSpec := { name := "courtFair", fn := fun _ => fun
  | [d1, d2] => { results := [.lit (.bool true)], args := [d1, d2] }
  | _ => none }
def courtFairRow : OpenClaim := { program := "ytiphgohbnhinnaadoor", sum := "e8ffae19ccbd5b699f81544385448d1a0c26d5cdff5d72ae3ee3eb6ac23f4105", func := "perigee/perigeelaw36.CourtFair", spec := "courtFair", unfollowed := true, recurses := true, named := ["math/bits.deBruijn32tab", "math/bits.deBruijn64tab"], plainKeys := false, apart := false, laid := [("math/bits.deBruijn32tab", laid_math_bits_deBruijn32tab), ("math/bits.deBruijn64tab", laid_math_bits_deBruijn64tab)] }
def CourtFairSaid : Prop := courtFairRow.holds Tryd.pinned (OpenSpec.ofChange courtFairSpec)

/-- ITS FALSE NEIGHBOUR: 'it returns false'. Refute it at one input. -/
def courtFairWrong : ChangeSpec := { name := "courtFair", fn := fun _ => fun
  | [d1, d2] => { results := [.lit (.bool false)], args := [d1, d2] }
  | _ => none }
def CourtFairWrongFalsely : Prop := courtFairRow.holds Tryd.pinned (OpenSpec.ofChange courtFairWrong)

/-- 'perigeelaw36.CourtLearns': WHATEVER THE INPUT: true; the input reads as it did. -/
def courtLearnsSpec : ChangeSpec := { name := "courtLearns", fn := fun _ => fun
  | [d1, d2, d3, d4] => { results := [.lit (.bool true)], args := [d1, d2, d3, d4] }
  | _ => none }
def courtLearnsRow : OpenClaim := { program := "ytiphgohbnhinnaadoor", sum := "e8ffae19ccbd5b699f81544385448d1a0c26d5cdff5d72ae3ee3eb6ac23f4105", func := "perigee/perigeelaw36.CourtLearns", spec := "courtLearns", unfollowed := true, recurses := true, named := ["math/bits.deBruijn32tab", "math/bits.deBruijn64tab"], plainKeys := false, apart := false, laid := [("math/bits.deBruijn32tab", laid_math_bits_deBruijn32tab), ("math/bits.deBruijn64tab", laid_math_bits_deBruijn64tab)] }
def CourtLearnsSaid : Prop := courtLearnsRow.holds Tryd.pinned (OpenSpec.ofChange courtLearnsSpec)

/-- ITS FALSE NEIGHBOUR: 'it returns false'. Refute it at one input. -/
def courtLearnsWrong : ChangeSpec := { name := "courtLearns", fn := fun _ => fun
  | [d1, d2, d3, d4] => { results := [.lit (.bool false)], args := [d1, d2, d3, d4] }
  | _ => none }
def CourtLearnsWrongFalsely : Prop := courtLearnsRow.holds Tryd.pinned (OpenSpec.ofChange courtLearnsWrong)

/-- 'perigeelaw36.CourtChecks': WHATEVER THE INPUT: true; the input reads as it did. -/
def courtChecksSpec : ChangeSpec := { name := "courtChecks", fn := fun _ => fun
  | [d1, d2, d3, d4, d5, d6] => { results := [.lit (.bool true)], args := [d1, d2, d3, d4, d5, d6] }
  | _ => none }
def courtChecksRow : OpenClaim := { program := "ytiphgohbnhinnaadoor", sum := "e8ffae19ccbd5b699f81544385448d1a0c26d5cdff5d72ae3ee3eb6ac23f4105", func := "perigee/perigeelaw36.CourtChecks", spec := "courtChecks", unfollowed := true, recurses := true, named := ["math/bits.deBruijn32tab", "math/bits.deBruijn64tab"], plainKeys := false, apart := false, laid := [("math/bits.deBruijn32tab", laid_math_bits_deBruijn32tab), ("math/bits.deBruijn64tab", laid_math_bits_deBruijn64tab)] }
def CourtChecksSaid : Prop := courtChecksRow.holds Tryd.pinned (OpenSpec.ofChange courtChecksSpec)

/-- ITS FALSE NEIGHBOUR: 'it returns false'. Refute it at one input. -/
def courtChecksWrong : ChangeSpec := { name := "courtChecks", fn := fun _ => fun
  | [d1, d2, d3, d4, d5, d6] => { results := [.lit (.bool false)], args := [d1, d2, d3, d4, d5, d6] }
  | _ => none }
def CourtChecksWrongFalsely : Prop := courtChecksRow.holds Tryd.pinned (OpenSpec.ofChange courtChecksWrong)

/-- 'perigeelaw36.CourtPrefix': WHATEVER THE INPUT: true; the input reads as it did. -/
def courtPrefixSpec : ChangeSpec := { name := "courtPrefix", fn := fun _ => fun
  | [d1, d2, d3] => { results := [.lit (.bool true)], args := [d1, d2, d3] }
  | _ => none }
def courtPrefixRow : OpenClaim := { program := "ytiphgohbnhinnaadoor", sum := "e8ffae19ccbd5b699f81544385448d1a0c26d5cdff5d72ae3ee3eb6ac23f4105", func := "perigee/perigeelaw36.CourtPrefix", spec := "courtPrefix", unfollowed := true, recurses := true, named := ["math/bits.deBruijn32tab", "math/bits.deBruijn64tab"], plainKeys := false, apart := false, laid := [("math/bits.deBruijn32tab", laid_math_bits_deBruijn32tab), ("math/bits.deBruijn64tab", laid_math_bits_deBruijn64tab)] }
def CourtPrefixSaid : Prop := courtPrefixRow.holds Tryd.pinned (OpenSpec.ofChange courtPrefixSpec)

/-- ITS FALSE NEIGHBOUR: 'it returns false'. Refute it at one input. -/
def courtPrefixWrong : ChangeSpec := { name := "courtPrefix", fn := fun _ => fun
  | [d1, d2, d3] => { results := [.lit (.bool false)], args := [d1, d2, d3] }
  | _ => none }
def CourtPrefixWrongFalsely : Prop := courtPrefixRow.holds Tryd.pinned (OpenSpec.ofChange courtPrefixWrong)

/-- 'perigeelaw36.CourtKnows': WHATEVER THE INPUT: true; the input reads as it did. -/
def courtKnowsSpec : ChangeSpec := { name := "courtKnows", fn := fun _ => fun
  | [d1, d2, d3, d4, d5, d6] => { results := [.lit (.bool true)], args := [d1, d2, d3, d4, d5, d6] }
  | _ => none }
def courtKnowsRow : OpenClaim := { program := "ytiphgohbnhinnaadoor", sum := "e8ffae19ccbd5b699f81544385448d1a0c26d5cdff5d72ae3ee3eb6ac23f4105", func := "perigee/perigeelaw36.CourtKnows", spec := "courtKnows", unfollowed := true, recurses := true, named := ["math/bits.deBruijn32tab", "math/bits.deBruijn64tab"], plainKeys := false, apart := false, laid := [("math/bits.deBruijn32tab", laid_math_bits_deBruijn32tab), ("math/bits.deBruijn64tab", laid_math_bits_deBruijn64tab)] }
def CourtKnowsSaid : Prop := courtKnowsRow.holds Tryd.pinned (OpenSpec.ofChange courtKnowsSpec)

/-- ITS FALSE NEIGHBOUR: 'it returns false'. Refute it at one input. -/
def courtKnowsWrong : ChangeSpec := { name := "courtKnows", fn := fun _ => fun
  | [d1, d2, d3, d4, d5, d6] => { results := [.lit (.bool false)], args := [d1, d2, d3, d4, d5, d6] }
  | _ => none }
def CourtKnowsWrongFalsely : Prop := courtKnowsRow.holds Tryd.pinned (OpenSpec.ofChange courtKnowsWrong)

/-- 'perigeelaw36.CourtExact': WHATEVER THE INPUT: true; the input reads as it did. -/
def courtExactSpec : ChangeSpec := { name := "courtExact", fn := fun _ => fun
  | [d1, d2, d3, d4] => { results := [.lit (.bool true)], args := [d1, d2, d3, d4] }
  | _ => none }
def courtExactRow : OpenClaim := { program := "ytiphgohbnhinnaadoor", sum := "e8ffae19ccbd5b699f81544385448d1a0c26d5cdff5d72ae3ee3eb6ac23f4105", func := "perigee/perigeelaw36.CourtExact", spec := "courtExact", unfollowed := true, recurses := true, named := ["math/bits.deBruijn32tab", "math/bits.deBruijn64tab"], plainKeys := false, apart := false, laid := [("math/bits.deBruijn32tab", laid_math_bits_deBruijn32tab), ("math/bits.deBruijn64tab", laid_math_bits_deBruijn64tab)] }
def CourtExactSaid : Prop := courtExactRow.holds Tryd.pinned (OpenSpec.ofChange courtExactSpec)

/-- ITS FALSE NEIGHBOUR: 'it returns false'. Refute it at one input. -/
def courtExactWrong : ChangeSpec := { name := "courtExact", fn := fun _ => fun
  | [d1, d2, d3, d4] => { results := [.lit (.bool false)], args := [d1, d2, d3, d4] }
  | _ => none }
def CourtExactWrongFalsely : Prop := courtExactRow.holds Tryd.pinned (OpenSpec.ofChange courtExactWrong)

/-- 'perigeelaw36.CourtConfirms': WHATEVER THE INPUT: true; the input reads as it did. -/
def courtConfirmsSpec : ChangeSpec := { name := "courtConfirms", fn := fun _ => fun
  | [d1, d2, d3, d4, d5, d6] => { results := [.lit (.bool true)], args := [d1, d2, d3, d4, d5, d6] }
  | _ => none }
def courtConfirmsRow : OpenClaim := { program := "ytiphgohbnhinnaadoor", sum := "e8ffae19ccbd5b699f81544385448d1a0c26d5cdff5d72ae3ee3eb6ac23f4105", func := "perigee/perigeelaw36.CourtConfirms", spec := "courtConfirms", unfollowed := true, recurses := true, named := ["math/bits.deBruijn32tab", "math/bits.deBruijn64tab"], plainKeys := false, apart := false, laid := [("math/bits.deBruijn32tab", laid_math_bits_deBruijn32tab), ("math/bits.deBruijn64tab", laid_math_bits_deBruijn64tab)] }
def CourtConfirmsSaid : Prop := courtConfirmsRow.holds Tryd.pinned (OpenSpec.ofChange courtConfirmsSpec)

/-- ITS FALSE NEIGHBOUR: 'it returns false'. Refute it at one input. -/
def courtConfirmsWrong : ChangeSpec := { name := "courtConfirms", fn := fun _ => fun
  | [d1, d2, d3, d4, d5, d6] => { results := [.lit (.bool false)], args := [d1, d2, d3, d4, d5, d6] }
  | _ => none }
def CourtConfirmsWrongFalsely : Prop := courtConfirmsRow.holds Tryd.pinned (OpenSpec.ofChange courtConfirmsWrong)

/- THE SECOND FORM. 'bulk': how many values and letters a reading holds, each counted each time it is reached (what is shared counts as often as it is met; a slice's spare places count too). A statement '..UptoSaid' is the law's where the arguments, and the package variables that the reading takes, are together of bulk at most 1048576: NARROWER than '..Said'. Prove '..Said' where nothing that the law and all that it calls make is longer than what came in: it says more and counts as full. Else prove '..UptoSaid'. A law counts once. -/
mutual
def uptoBulk {H : Type} : DataW H → Nat
  | .lit (.string bytes) => bytes.length + 1
  | .lit _ => 1
  | .nil => 1
  | .ptr d => uptoBulk d + 1
  | .slice elems spare => uptoBulkAll elems + uptoBulkAll spare + 1
  | .agg parts => uptoBulkAll parts + 1
  | .iface _ d => uptoBulk d + 1
  | .map entries => uptoBulkEntries entries + 1
  | .held _ => 1
def uptoBulkAll {H : Type} : List (DataW H) → Nat
  | [] => 0
  | d :: r => uptoBulk d + uptoBulkAll r
def uptoBulkEntries {H : Type} : List (Lit × DataW H) → Nat
  | [] => 0
  | x :: r => uptoBulkEntry x + uptoBulkEntries r
def uptoBulkEntry {H : Type} : Lit × DataW H → Nat
  | (.string bytes, d) => bytes.length + uptoBulk d + 1
  | (_, d) => uptoBulk d + 1
 end
def uptoSmall : (H : Type) → List (DataW H) → Bool := fun _ ds => decide (uptoBulkAll ds ≤ 1048576)
def OpenSpec.upto (s : _root_.Go.ChangeSpec) : _root_.Go.OpenSpec := { _root_.Go.OpenSpec.ofChange s with cond := some uptoSmall }

/-- 'perigeelaw36.CourtRights', WHERE WHAT IT READS IS OF BULK AT MOST 1048576: true; the input reads as it did. -/
def courtRightsUptoRow : OpenClaim := { program := "ytiphgohbnhinnaadoor", sum := "e8ffae19ccbd5b699f81544385448d1a0c26d5cdff5d72ae3ee3eb6ac23f4105", func := "perigee/perigeelaw36.CourtRights", spec := "courtRights", unfollowed := true, recurses := true, named := ["math/bits.deBruijn32tab", "math/bits.deBruijn64tab"], plainKeys := false, apart := false, laid := [("math/bits.deBruijn32tab", laid_math_bits_deBruijn32tab), ("math/bits.deBruijn64tab", laid_math_bits_deBruijn64tab)], narrowed := true }
def CourtRightsUptoSaid : Prop := courtRightsUptoRow.holds Tryd.pinned (OpenSpec.upto courtRightsSpec)

/-- 'perigeelaw36.CourtJudges', WHERE WHAT IT READS IS OF BULK AT MOST 1048576: true; the input reads as it did. -/
def courtJudgesUptoRow : OpenClaim := { program := "ytiphgohbnhinnaadoor", sum := "e8ffae19ccbd5b699f81544385448d1a0c26d5cdff5d72ae3ee3eb6ac23f4105", func := "perigee/perigeelaw36.CourtJudges", spec := "courtJudges", unfollowed := true, recurses := true, named := ["math/bits.deBruijn32tab", "math/bits.deBruijn64tab"], plainKeys := false, apart := false, laid := [("math/bits.deBruijn32tab", laid_math_bits_deBruijn32tab), ("math/bits.deBruijn64tab", laid_math_bits_deBruijn64tab)], narrowed := true }
def CourtJudgesUptoSaid : Prop := courtJudgesUptoRow.holds Tryd.pinned (OpenSpec.upto courtJudgesSpec)

/-- 'perigeelaw36.CourtFair', WHERE WHAT IT READS IS OF BULK AT MOST 1048576: true; the input reads as it did. -/
def courtFairUptoRow : OpenClaim := { program := "ytiphgohbnhinnaadoor", sum := "e8ffae19ccbd5b699f81544385448d1a0c26d5cdff5d72ae3ee3eb6ac23f4105", func := "perigee/perigeelaw36.CourtFair", spec := "courtFair", unfollowed := true, recurses := true, named := ["math/bits.deBruijn32tab", "math/bits.deBruijn64tab"], plainKeys := false, apart := false, laid := [("math/bits.deBruijn32tab", laid_math_bits_deBruijn32tab), ("math/bits.deBruijn64tab", laid_math_bits_deBruijn64tab)], narrowed := true }
def CourtFairUptoSaid : Prop := courtFairUptoRow.holds Tryd.pinned (OpenSpec.upto courtFairSpec)

/-- 'perigeelaw36.CourtLearns', WHERE WHAT IT READS IS OF BULK AT MOST 1048576: true; the input reads as it did. -/
def courtLearnsUptoRow : OpenClaim := { program := "ytiphgohbnhinnaadoor", sum := "e8ffae19ccbd5b699f81544385448d1a0c26d5cdff5d72ae3ee3eb6ac23f4105", func := "perigee/perigeelaw36.CourtLearns", spec := "courtLearns", unfollowed := true, recurses := true, named := ["math/bits.deBruijn32tab", "math/bits.deBruijn64tab"], plainKeys := false, apart := false, laid := [("math/bits.deBruijn32tab", laid_math_bits_deBruijn32tab), ("math/bits.deBruijn64tab", laid_math_bits_deBruijn64tab)], narrowed := true }
def CourtLearnsUptoSaid : Prop := courtLearnsUptoRow.holds Tryd.pinned (OpenSpec.upto courtLearnsSpec)

/-- 'perigeelaw36.CourtChecks', WHERE WHAT IT READS IS OF BULK AT MOST 1048576: true; the input reads as it did. -/
def courtChecksUptoRow : OpenClaim := { program := "ytiphgohbnhinnaadoor", sum := "e8ffae19ccbd5b699f81544385448d1a0c26d5cdff5d72ae3ee3eb6ac23f4105", func := "perigee/perigeelaw36.CourtChecks", spec := "courtChecks", unfollowed := true, recurses := true, named := ["math/bits.deBruijn32tab", "math/bits.deBruijn64tab"], plainKeys := false, apart := false, laid := [("math/bits.deBruijn32tab", laid_math_bits_deBruijn32tab), ("math/bits.deBruijn64tab", laid_math_bits_deBruijn64tab)], narrowed := true }
def CourtChecksUptoSaid : Prop := courtChecksUptoRow.holds Tryd.pinned (OpenSpec.upto courtChecksSpec)

/-- 'perigeelaw36.CourtPrefix', WHERE WHAT IT READS IS OF BULK AT MOST 1048576: true; the input reads as it did. -/
def courtPrefixUptoRow : OpenClaim := { program := "ytiphgohbnhinnaadoor", sum := "e8ffae19ccbd5b699f81544385448d1a0c26d5cdff5d72ae3ee3eb6ac23f4105", func := "perigee/perigeelaw36.CourtPrefix", spec := "courtPrefix", unfollowed := true, recurses := true, named := ["math/bits.deBruijn32tab", "math/bits.deBruijn64tab"], plainKeys := false, apart := false, laid := [("math/bits.deBruijn32tab", laid_math_bits_deBruijn32tab), ("math/bits.deBruijn64tab", laid_math_bits_deBruijn64tab)], narrowed := true }
def CourtPrefixUptoSaid : Prop := courtPrefixUptoRow.holds Tryd.pinned (OpenSpec.upto courtPrefixSpec)

/-- 'perigeelaw36.CourtKnows', WHERE WHAT IT READS IS OF BULK AT MOST 1048576: true; the input reads as it did. -/
def courtKnowsUptoRow : OpenClaim := { program := "ytiphgohbnhinnaadoor", sum := "e8ffae19ccbd5b699f81544385448d1a0c26d5cdff5d72ae3ee3eb6ac23f4105", func := "perigee/perigeelaw36.CourtKnows", spec := "courtKnows", unfollowed := true, recurses := true, named := ["math/bits.deBruijn32tab", "math/bits.deBruijn64tab"], plainKeys := false, apart := false, laid := [("math/bits.deBruijn32tab", laid_math_bits_deBruijn32tab), ("math/bits.deBruijn64tab", laid_math_bits_deBruijn64tab)], narrowed := true }
def CourtKnowsUptoSaid : Prop := courtKnowsUptoRow.holds Tryd.pinned (OpenSpec.upto courtKnowsSpec)

/-- 'perigeelaw36.CourtExact', WHERE WHAT IT READS IS OF BULK AT MOST 1048576: true; the input reads as it did. -/
def courtExactUptoRow : OpenClaim := { program := "ytiphgohbnhinnaadoor", sum := "e8ffae19ccbd5b699f81544385448d1a0c26d5cdff5d72ae3ee3eb6ac23f4105", func := "perigee/perigeelaw36.CourtExact", spec := "courtExact", unfollowed := true, recurses := true, named := ["math/bits.deBruijn32tab", "math/bits.deBruijn64tab"], plainKeys := false, apart := false, laid := [("math/bits.deBruijn32tab", laid_math_bits_deBruijn32tab), ("math/bits.deBruijn64tab", laid_math_bits_deBruijn64tab)], narrowed := true }
def CourtExactUptoSaid : Prop := courtExactUptoRow.holds Tryd.pinned (OpenSpec.upto courtExactSpec)

/-- 'perigeelaw36.CourtConfirms', WHERE WHAT IT READS IS OF BULK AT MOST 1048576: true; the input reads as it did. -/
def courtConfirmsUptoRow : OpenClaim := { program := "ytiphgohbnhinnaadoor", sum := "e8ffae19ccbd5b699f81544385448d1a0c26d5cdff5d72ae3ee3eb6ac23f4105", func := "perigee/perigeelaw36.CourtConfirms", spec := "courtConfirms", unfollowed := true, recurses := true, named := ["math/bits.deBruijn32tab", "math/bits.deBruijn64tab"], plainKeys := false, apart := false, laid := [("math/bits.deBruijn32tab", laid_math_bits_deBruijn32tab), ("math/bits.deBruijn64tab", laid_math_bits_deBruijn64tab)], narrowed := true }
def CourtConfirmsUptoSaid : Prop := courtConfirmsUptoRow.holds Tryd.pinned (OpenSpec.upto courtConfirmsSpec)

end Rows
end Go.Proofs.YtiphgohbnhinnaaDoor
