/-
  NARROWER THAN 'FOR EVERY INPUT', by the rows' own cells (each row's printed sentence says how): TwinApplies: laid · TwinPlays: laid · TwinLimits: laid · TwinReaches: laid · TwinSound: laid · TwinReads: laid · TwinReceives: laid · TwinSettles: laid · TwinTruth: laid.
  DERIVED. THE GIVEN ROWS OF THIS SEAT. 9 by the template 'for every input the law returns true; each argument reads behind the call as it read before'; 0 by the template 'total and deterministic' (their statements: YtofiemifpgcfhaaDoorTotals.lean).
  GIVEN WITH THE SEED: the statements are not yours to turn. If you find one false, say at which input.
  Laid BY PROGRAM, IN A SANDBOX (cutbox-rows.mjs): the forced cells as the released guide's own fill.sh prints them over the translation 1c008c18eda764d4… (all of the seat's roots in one cut). By AI agents, Wed Nov 11 2026. No macro, syntax, notation, axiom, sorry.
-/
import Derived.Test.YtofiemifpgcfhaaDoorChecked
import GoSem.Claim
import GoSem.ClaimJoined
import GoSem.ClaimMapViews
import Derived.JoinedTies
import Derived.KernelRfl
namespace Go.Proofs.YtofiemifpgcfhaaDoor
/- THE CELL 'sum', in the pinned program and in every row, IS THE sha256 OF THE DUMP (.gsa) THAT YtofiemifpgcfhaaDoorProg.lean LOADS. Nothing in Lean hashes anything: it is a label: what it is worth is what the hold of that sum in a sandbox is worth. -/
noncomputable def Tryd.pinned : Pinned := { name := "ytofiemifpgcfhaadoor", sum := "1c008c18eda764d40f9f888fe306da3a2787afddc5434b191817f935a35ab0ee", checked := Tryd.checked }
namespace Rows
def none {H : Type} : Left H := { results := [], args := [] }

/- WHAT THE LISTED PACKAGE-LEVEL VARIABLES READ AS WHEN THE CALL BEGINS. Each datum BY PROGRAM (the guide's laid-datum.mjs) off the statement by which the dump's own 'gosem.cut.vars' lays the variable. In a bare row this is a premise. The card (YtofiemifpgcfhaaDoorCards.lean) ties it to the program's text. -/
def laid_math_bits_deBruijn32tab {H : Type} : DataW H := .agg [.lit (.int .u8 0), .lit (.int .u8 1), .lit (.int .u8 28), .lit (.int .u8 2), .lit (.int .u8 29), .lit (.int .u8 14), .lit (.int .u8 24), .lit (.int .u8 3), .lit (.int .u8 30), .lit (.int .u8 22), .lit (.int .u8 20), .lit (.int .u8 15), .lit (.int .u8 25), .lit (.int .u8 17), .lit (.int .u8 4), .lit (.int .u8 8), .lit (.int .u8 31), .lit (.int .u8 27), .lit (.int .u8 13), .lit (.int .u8 23), .lit (.int .u8 21), .lit (.int .u8 19), .lit (.int .u8 16), .lit (.int .u8 7), .lit (.int .u8 26), .lit (.int .u8 12), .lit (.int .u8 18), .lit (.int .u8 6), .lit (.int .u8 11), .lit (.int .u8 5), .lit (.int .u8 10), .lit (.int .u8 9)]
def laid_math_bits_deBruijn64tab {H : Type} : DataW H := .agg [.lit (.int .u8 0), .lit (.int .u8 1), .lit (.int .u8 56), .lit (.int .u8 2), .lit (.int .u8 57), .lit (.int .u8 49), .lit (.int .u8 28), .lit (.int .u8 3), .lit (.int .u8 61), .lit (.int .u8 58), .lit (.int .u8 42), .lit (.int .u8 50), .lit (.int .u8 38), .lit (.int .u8 29), .lit (.int .u8 17), .lit (.int .u8 4), .lit (.int .u8 62), .lit (.int .u8 47), .lit (.int .u8 59), .lit (.int .u8 36), .lit (.int .u8 45), .lit (.int .u8 43), .lit (.int .u8 51), .lit (.int .u8 22), .lit (.int .u8 53), .lit (.int .u8 39), .lit (.int .u8 33), .lit (.int .u8 30), .lit (.int .u8 24), .lit (.int .u8 18), .lit (.int .u8 12), .lit (.int .u8 5), .lit (.int .u8 63), .lit (.int .u8 55), .lit (.int .u8 48), .lit (.int .u8 27), .lit (.int .u8 60), .lit (.int .u8 41), .lit (.int .u8 37), .lit (.int .u8 16), .lit (.int .u8 46), .lit (.int .u8 35), .lit (.int .u8 44), .lit (.int .u8 21), .lit (.int .u8 52), .lit (.int .u8 32), .lit (.int .u8 23), .lit (.int .u8 11), .lit (.int .u8 54), .lit (.int .u8 26), .lit (.int .u8 40), .lit (.int .u8 15), .lit (.int .u8 34), .lit (.int .u8 20), .lit (.int .u8 31), .lit (.int .u8 10), .lit (.int .u8 25), .lit (.int .u8 14), .lit (.int .u8 19), .lit (.int .u8 9), .lit (.int .u8 13), .lit (.int .u8 8), .lit (.int .u8 7), .lit (.int .u8 6)]

/-- 'perigeelaw34.TwinApplies': WHATEVER THE INPUT: true; the input reads as it did. -/
def twinAppliesSpec : ChangeSpec := { name := "twinApplies", fn := fun _ => fun
  | [d1, d2, d3, d4, d5, d6, d7] => { results := [.lit (.bool true)], args := [d1, d2, d3, d4, d5, d6, d7] }
  | _ => none }
def twinAppliesRow : OpenClaim := { program := "ytofiemifpgcfhaadoor", sum := "1c008c18eda764d40f9f888fe306da3a2787afddc5434b191817f935a35ab0ee", func := "perigee/perigeelaw34.TwinApplies", spec := "twinApplies", unfollowed := true, recurses := true, named := ["math/bits.deBruijn32tab", "math/bits.deBruijn64tab"], plainKeys := false, apart := false, laid := [("math/bits.deBruijn32tab", laid_math_bits_deBruijn32tab), ("math/bits.deBruijn64tab", laid_math_bits_deBruijn64tab)] }
def TwinAppliesSaid : Prop := twinAppliesRow.holds Tryd.pinned (OpenSpec.ofChange twinAppliesSpec)

/-- ITS FALSE NEIGHBOUR: 'it returns false'. Refute it at one input. -/
def twinAppliesWrong : ChangeSpec := { name := "twinApplies", fn := fun _ => fun
  | [d1, d2, d3, d4, d5, d6, d7] => { results := [.lit (.bool false)], args := [d1, d2, d3, d4, d5, d6, d7] }
  | _ => none }
def TwinAppliesWrongFalsely : Prop := twinAppliesRow.holds Tryd.pinned (OpenSpec.ofChange twinAppliesWrong)

/-- 'perigeelaw34.TwinPlays': WHATEVER THE INPUT: true; the input reads as it did. -/
def twinPlaysSpec : ChangeSpec := { name := "twinPlays", fn := fun _ => fun
  | [d1, d2, d3, d4, d5] => { results := [.lit (.bool true)], args := [d1, d2, d3, d4, d5] }
  | _ => none }
def twinPlaysRow : OpenClaim := { program := "ytofiemifpgcfhaadoor", sum := "1c008c18eda764d40f9f888fe306da3a2787afddc5434b191817f935a35ab0ee", func := "perigee/perigeelaw34.TwinPlays", spec := "twinPlays", unfollowed := true, recurses := true, named := ["math/bits.deBruijn32tab", "math/bits.deBruijn64tab"], plainKeys := false, apart := false, laid := [("math/bits.deBruijn32tab", laid_math_bits_deBruijn32tab), ("math/bits.deBruijn64tab", laid_math_bits_deBruijn64tab)] }
def TwinPlaysSaid : Prop := twinPlaysRow.holds Tryd.pinned (OpenSpec.ofChange twinPlaysSpec)

/-- ITS FALSE NEIGHBOUR: 'it returns false'. Refute it at one input. -/
def twinPlaysWrong : ChangeSpec := { name := "twinPlays", fn := fun _ => fun
  | [d1, d2, d3, d4, d5] => { results := [.lit (.bool false)], args := [d1, d2, d3, d4, d5] }
  | _ => none }
def TwinPlaysWrongFalsely : Prop := twinPlaysRow.holds Tryd.pinned (OpenSpec.ofChange twinPlaysWrong)

/-- 'perigeelaw34.TwinLimits': WHATEVER THE INPUT: true; the input reads as it did. -/
def twinLimitsSpec : ChangeSpec := { name := "twinLimits", fn := fun _ => fun
  | [d] => { results := [.lit (.bool true)], args := [d] }
  | _ => none }
def twinLimitsRow : OpenClaim := { program := "ytofiemifpgcfhaadoor", sum := "1c008c18eda764d40f9f888fe306da3a2787afddc5434b191817f935a35ab0ee", func := "perigee/perigeelaw34.TwinLimits", spec := "twinLimits", unfollowed := true, recurses := true, named := ["math/bits.deBruijn32tab", "math/bits.deBruijn64tab"], plainKeys := false, apart := false, laid := [("math/bits.deBruijn32tab", laid_math_bits_deBruijn32tab), ("math/bits.deBruijn64tab", laid_math_bits_deBruijn64tab)] }
def TwinLimitsSaid : Prop := twinLimitsRow.holds Tryd.pinned (OpenSpec.ofChange twinLimitsSpec)

/-- ITS FALSE NEIGHBOUR: 'it returns false'. Refute it at one input. -/
def twinLimitsWrong : ChangeSpec := { name := "twinLimits", fn := fun _ => fun
  | [d] => { results := [.lit (.bool false)], args := [d] }
  | _ => none }
def TwinLimitsWrongFalsely : Prop := twinLimitsRow.holds Tryd.pinned (OpenSpec.ofChange twinLimitsWrong)

/-- 'perigeelaw34.TwinReaches': WHATEVER THE INPUT: true; the input reads as it did. -/
def twinReachesSpec : ChangeSpec := { name := "twinReaches", fn := fun _ => fun
  | [d1, d2, d3, d4] => { results := [.lit (.bool true)], args := [d1, d2, d3, d4] }
  | _ => none }
def twinReachesRow : OpenClaim := { program := "ytofiemifpgcfhaadoor", sum := "1c008c18eda764d40f9f888fe306da3a2787afddc5434b191817f935a35ab0ee", func := "perigee/perigeelaw34.TwinReaches", spec := "twinReaches", unfollowed := true, recurses := true, named := ["math/bits.deBruijn32tab", "math/bits.deBruijn64tab"], plainKeys := false, apart := false, laid := [("math/bits.deBruijn32tab", laid_math_bits_deBruijn32tab), ("math/bits.deBruijn64tab", laid_math_bits_deBruijn64tab)] }
def TwinReachesSaid : Prop := twinReachesRow.holds Tryd.pinned (OpenSpec.ofChange twinReachesSpec)

/-- ITS FALSE NEIGHBOUR: 'it returns false'. Refute it at one input. -/
def twinReachesWrong : ChangeSpec := { name := "twinReaches", fn := fun _ => fun
  | [d1, d2, d3, d4] => { results := [.lit (.bool false)], args := [d1, d2, d3, d4] }
  | _ => none }
def TwinReachesWrongFalsely : Prop := twinReachesRow.holds Tryd.pinned (OpenSpec.ofChange twinReachesWrong)

/-- 'perigeelaw34.TwinSound': WHATEVER THE INPUT: true; the input reads as it did. -/
def twinSoundSpec : ChangeSpec := { name := "twinSound", fn := fun _ => fun
  | [d1, d2, d3, d4, d5] => { results := [.lit (.bool true)], args := [d1, d2, d3, d4, d5] }
  | _ => none }
def twinSoundRow : OpenClaim := { program := "ytofiemifpgcfhaadoor", sum := "1c008c18eda764d40f9f888fe306da3a2787afddc5434b191817f935a35ab0ee", func := "perigee/perigeelaw34.TwinSound", spec := "twinSound", unfollowed := true, recurses := true, named := ["math/bits.deBruijn32tab", "math/bits.deBruijn64tab"], plainKeys := false, apart := false, laid := [("math/bits.deBruijn32tab", laid_math_bits_deBruijn32tab), ("math/bits.deBruijn64tab", laid_math_bits_deBruijn64tab)] }
def TwinSoundSaid : Prop := twinSoundRow.holds Tryd.pinned (OpenSpec.ofChange twinSoundSpec)

/-- ITS FALSE NEIGHBOUR: 'it returns false'. Refute it at one input. -/
def twinSoundWrong : ChangeSpec := { name := "twinSound", fn := fun _ => fun
  | [d1, d2, d3, d4, d5] => { results := [.lit (.bool false)], args := [d1, d2, d3, d4, d5] }
  | _ => none }
def TwinSoundWrongFalsely : Prop := twinSoundRow.holds Tryd.pinned (OpenSpec.ofChange twinSoundWrong)

/-- 'perigeelaw34.TwinReads': WHATEVER THE INPUT: true; the input reads as it did. -/
def twinReadsSpec : ChangeSpec := { name := "twinReads", fn := fun _ => fun
  | [d1, d2, d3, d4, d5] => { results := [.lit (.bool true)], args := [d1, d2, d3, d4, d5] }
  | _ => none }
def twinReadsRow : OpenClaim := { program := "ytofiemifpgcfhaadoor", sum := "1c008c18eda764d40f9f888fe306da3a2787afddc5434b191817f935a35ab0ee", func := "perigee/perigeelaw34.TwinReads", spec := "twinReads", unfollowed := true, recurses := true, named := ["math/bits.deBruijn32tab", "math/bits.deBruijn64tab"], plainKeys := false, apart := false, laid := [("math/bits.deBruijn32tab", laid_math_bits_deBruijn32tab), ("math/bits.deBruijn64tab", laid_math_bits_deBruijn64tab)] }
def TwinReadsSaid : Prop := twinReadsRow.holds Tryd.pinned (OpenSpec.ofChange twinReadsSpec)

/-- ITS FALSE NEIGHBOUR: 'it returns false'. Refute it at one input. -/
def twinReadsWrong : ChangeSpec := { name := "twinReads", fn := fun _ => fun
  | [d1, d2, d3, d4, d5] => { results := [.lit (.bool false)], args := [d1, d2, d3, d4, d5] }
  | _ => none }
def TwinReadsWrongFalsely : Prop := twinReadsRow.holds Tryd.pinned (OpenSpec.ofChange twinReadsWrong)

/-- 'perigeelaw34.TwinReceives': WHATEVER THE INPUT: true; the input reads as it did. -/
def twinReceivesSpec : ChangeSpec := { name := "twinReceives", fn := fun _ => fun
  | [d1, d2, d3] => { results := [.lit (.bool true)], args := [d1, d2, d3] }
  | _ => none }
def twinReceivesRow : OpenClaim := { program := "ytofiemifpgcfhaadoor", sum := "1c008c18eda764d40f9f888fe306da3a2787afddc5434b191817f935a35ab0ee", func := "perigee/perigeelaw34.TwinReceives", spec := "twinReceives", unfollowed := true, recurses := true, named := ["math/bits.deBruijn32tab", "math/bits.deBruijn64tab"], plainKeys := false, apart := false, laid := [("math/bits.deBruijn32tab", laid_math_bits_deBruijn32tab), ("math/bits.deBruijn64tab", laid_math_bits_deBruijn64tab)] }
def TwinReceivesSaid : Prop := twinReceivesRow.holds Tryd.pinned (OpenSpec.ofChange twinReceivesSpec)

/-- ITS FALSE NEIGHBOUR: 'it returns false'. Refute it at one input. -/
def twinReceivesWrong : ChangeSpec := { name := "twinReceives", fn := fun _ => fun
  | [d1, d2, d3] => { results := [.lit (.bool false)], args := [d1, d2, d3] }
  | _ => none }
def TwinReceivesWrongFalsely : Prop := twinReceivesRow.holds Tryd.pinned (OpenSpec.ofChange twinReceivesWrong)

/-- 'perigeelaw34.TwinSettles': WHATEVER THE INPUT: true; the input reads as it did. -/
def twinSettlesSpec : ChangeSpec := { name := "twinSettles", fn := fun _ => fun
  | [d1, d2, d3] => { results := [.lit (.bool true)], args := [d1, d2, d3] }
  | _ => none }
def twinSettlesRow : OpenClaim := { program := "ytofiemifpgcfhaadoor", sum := "1c008c18eda764d40f9f888fe306da3a2787afddc5434b191817f935a35ab0ee", func := "perigee/perigeelaw34.TwinSettles", spec := "twinSettles", unfollowed := true, recurses := true, named := ["math/bits.deBruijn32tab", "math/bits.deBruijn64tab"], plainKeys := false, apart := false, laid := [("math/bits.deBruijn32tab", laid_math_bits_deBruijn32tab), ("math/bits.deBruijn64tab", laid_math_bits_deBruijn64tab)] }
def TwinSettlesSaid : Prop := twinSettlesRow.holds Tryd.pinned (OpenSpec.ofChange twinSettlesSpec)

/-- ITS FALSE NEIGHBOUR: 'it returns false'. Refute it at one input. -/
def twinSettlesWrong : ChangeSpec := { name := "twinSettles", fn := fun _ => fun
  | [d1, d2, d3] => { results := [.lit (.bool false)], args := [d1, d2, d3] }
  | _ => none }
def TwinSettlesWrongFalsely : Prop := twinSettlesRow.holds Tryd.pinned (OpenSpec.ofChange twinSettlesWrong)

/-- 'perigeelaw34.TwinTruth': WHATEVER THE INPUT: true; the input reads as it did. -/
def twinTruthSpec : ChangeSpec := { name := "twinTruth", fn := fun _ => fun
  | [d1, d2, d3] => { results := [.lit (.bool true)], args := [d1, d2, d3] }
  | _ => none }
def twinTruthRow : OpenClaim := { program := "ytofiemifpgcfhaadoor", sum := "1c008c18eda764d40f9f888fe306da3a2787afddc5434b191817f935a35ab0ee", func := "perigee/perigeelaw34.TwinTruth", spec := "twinTruth", unfollowed := true, recurses := true, named := ["math/bits.deBruijn32tab", "math/bits.deBruijn64tab"], plainKeys := false, apart := false, laid := [("math/bits.deBruijn32tab", laid_math_bits_deBruijn32tab), ("math/bits.deBruijn64tab", laid_math_bits_deBruijn64tab)] }
def TwinTruthSaid : Prop := twinTruthRow.holds Tryd.pinned (OpenSpec.ofChange twinTruthSpec)

/-- ITS FALSE NEIGHBOUR: 'it returns false'. Refute it at one input. -/
def twinTruthWrong : ChangeSpec := { name := "twinTruth", fn := fun _ => fun
  | [d1, d2, d3] => { results := [.lit (.bool false)], args := [d1, d2, d3] }
  | _ => none }
def TwinTruthWrongFalsely : Prop := twinTruthRow.holds Tryd.pinned (OpenSpec.ofChange twinTruthWrong)

/- THE SECOND FORM. 'bulk': how many values and letters a reading holds, each counted each time it is reached (what is shared counts as often as it is met; a slice's spare places count too). A statement '..UptoSaid' is the law's where the arguments, and the package variables that the reading takes, are together of bulk at most 1048576: NARROWER than '..Said'. Prove '..Said' where nothing that the law and all that it calls make is longer than what came in: it says more and counts as full. Else prove '..UptoSaid'. A law counts once. -/
mutual
def uptoBulk {H : Type} : DataW H → Nat
  | .lit (.string bytes) => bytes.length + 1
  | .lit _ => 1
  | .nil => 1
  | .ptr d => uptoBulk d + 1
  | .slice elems spare => uptoBulkAll elems + uptoBulkAll spare + 1
  | .agg parts => uptoBulkAll parts + 1
  | .iface _ d => uptoBulk d + 1
  | .map entries => uptoBulkEntries entries + 1
  | .held _ => 1
def uptoBulkAll {H : Type} : List (DataW H) → Nat
  | [] => 0
  | d :: r => uptoBulk d + uptoBulkAll r
def uptoBulkEntries {H : Type} : List (Lit × DataW H) → Nat
  | [] => 0
  | x :: r => uptoBulkEntry x + uptoBulkEntries r
def uptoBulkEntry {H : Type} : Lit × DataW H → Nat
  | (.string bytes, d) => bytes.length + uptoBulk d + 1
  | (_, d) => uptoBulk d + 1
 end
def uptoSmall : (H : Type) → List (DataW H) → Bool := fun _ ds => decide (uptoBulkAll ds ≤ 1048576)
def OpenSpec.upto (s : _root_.Go.ChangeSpec) : _root_.Go.OpenSpec := { _root_.Go.OpenSpec.ofChange s with cond := some uptoSmall }

/-- 'perigeelaw34.TwinApplies', WHERE WHAT IT READS IS OF BULK AT MOST 1048576: true; the input reads as it did. -/
def twinAppliesUptoRow : OpenClaim := { program := "ytofiemifpgcfhaadoor", sum := "1c008c18eda764d40f9f888fe306da3a2787afddc5434b191817f935a35ab0ee", func := "perigee/perigeelaw34.TwinApplies", spec := "twinApplies", unfollowed := true, recurses := true, named := ["math/bits.deBruijn32tab", "math/bits.deBruijn64tab"], plainKeys := false, apart := false, laid := [("math/bits.deBruijn32tab", laid_math_bits_deBruijn32tab), ("math/bits.deBruijn64tab", laid_math_bits_deBruijn64tab)], narrowed := true }
def TwinAppliesUptoSaid : Prop := twinAppliesUptoRow.holds Tryd.pinned (OpenSpec.upto twinAppliesSpec)

/-- 'perigeelaw34.TwinPlays', WHERE WHAT IT READS IS OF BULK AT MOST 1048576: true; the input reads as it did. -/
def twinPlaysUptoRow : OpenClaim := { program := "ytofiemifpgcfhaadoor", sum := "1c008c18eda764d40f9f888fe306da3a2787afddc5434b191817f935a35ab0ee", func := "perigee/perigeelaw34.TwinPlays", spec := "twinPlays", unfollowed := true, recurses := true, named := ["math/bits.deBruijn32tab", "math/bits.deBruijn64tab"], plainKeys := false, apart := false, laid := [("math/bits.deBruijn32tab", laid_math_bits_deBruijn32tab), ("math/bits.deBruijn64tab", laid_math_bits_deBruijn64tab)], narrowed := true }
def TwinPlaysUptoSaid : Prop := twinPlaysUptoRow.holds Tryd.pinned (OpenSpec.upto twinPlaysSpec)

/-- 'perigeelaw34.TwinLimits', WHERE WHAT IT READS IS OF BULK AT MOST 1048576: true; the input reads as it did. -/
def twinLimitsUptoRow : OpenClaim := { program := "ytofiemifpgcfhaadoor", sum := "1c008c18eda764d40f9f888fe306da3a2787afddc5434b191817f935a35ab0ee", func := "perigee/perigeelaw34.TwinLimits", spec := "twinLimits", unfollowed := true, recurses := true, named := ["math/bits.deBruijn32tab", "math/bits.deBruijn64tab"], plainKeys := false, apart := false, laid := [("math/bits.deBruijn32tab", laid_math_bits_deBruijn32tab), ("math/bits.deBruijn64tab", laid_math_bits_deBruijn64tab)], narrowed := true }
def TwinLimitsUptoSaid : Prop := twinLimitsUptoRow.holds Tryd.pinned (OpenSpec.upto twinLimitsSpec)

/-- 'perigeelaw34.TwinReaches', WHERE WHAT IT READS IS OF BULK AT MOST 1048576: true; the input reads as it did. -/
def twinReachesUptoRow : OpenClaim := { program := "ytofiemifpgcfhaadoor", sum := "1c008c18eda764d40f9f888fe306da3a2787afddc5434b191817f935a35ab0ee", func := "perigee/perigeelaw34.TwinReaches", spec := "twinReaches", unfollowed := true, recurses := true, named := ["math/bits.deBruijn32tab", "math/bits.deBruijn64tab"], plainKeys := false, apart := false, laid := [("math/bits.deBruijn32tab", laid_math_bits_deBruijn32tab), ("math/bits.deBruijn64tab", laid_math_bits_deBruijn64tab)], narrowed := true }
def TwinReachesUptoSaid : Prop := twinReachesUptoRow.holds Tryd.pinned (OpenSpec.upto twinReachesSpec)

/-- 'perigeelaw34.TwinSound', WHERE WHAT IT READS IS OF BULK AT MOST 1048576: true; the input reads as it did. -/
def twinSoundUptoRow : OpenClaim := { program := "ytofiemifpgcfhaadoor", sum := "1c008c18eda764d40f9f888fe306da3a2787afddc5434b191817f935a35ab0ee", func := "perigee/perigeelaw34.TwinSound", spec := "twinSound", unfollowed := true, recurses := true, named := ["math/bits.deBruijn32tab", "math/bits.deBruijn64tab"], plainKeys := false, apart := false, laid := [("math/bits.deBruijn32tab", laid_math_bits_deBruijn32tab), ("math/bits.deBruijn64tab", laid_math_bits_deBruijn64tab)], narrowed := true }
def TwinSoundUptoSaid : Prop := twinSoundUptoRow.holds Tryd.pinned (OpenSpec.upto twinSoundSpec)

/-- 'perigeelaw34.TwinReads', WHERE WHAT IT READS IS OF BULK AT MOST 1048576: true; the input reads as it did. -/
def twinReadsUptoRow : OpenClaim := { program := "ytofiemifpgcfhaadoor", sum := "1c008c18eda764d40f9f888fe306da3a2787afddc5434b191817f935a35ab0ee", func := "perigee/perigeelaw34.TwinReads", spec := "twinReads", unfollowed := true, recurses := true, named := ["math/bits.deBruijn32tab", "math/bits.deBruijn64tab"], plainKeys := false, apart := false, laid := [("math/bits.deBruijn32tab", laid_math_bits_deBruijn32tab), ("math/bits.deBruijn64tab", laid_math_bits_deBruijn64tab)], narrowed := true }
def TwinReadsUptoSaid : Prop := twinReadsUptoRow.holds Tryd.pinned (OpenSpec.upto twinReadsSpec)

/-- 'perigeelaw34.TwinReceives', WHERE WHAT IT READS IS OF BULK AT MOST 1048576: true; the input reads as it did. -/
def twinReceivesUptoRow : OpenClaim := { program := "ytofiemifpgcfhaadoor", sum := "1c008c18eda764d40f9f888fe306da3a2787afddc5434b191817f935a35ab0ee", func := "perigee/perigeelaw34.TwinReceives", spec := "twinReceives", unfollowed := true, recurses := true, named := ["math/bits.deBruijn32tab", "math/bits.deBruijn64tab"], plainKeys := false, apart := false, laid := [("math/bits.deBruijn32tab", laid_math_bits_deBruijn32tab), ("math/bits.deBruijn64tab", laid_math_bits_deBruijn64tab)], narrowed := true }
def TwinReceivesUptoSaid : Prop := twinReceivesUptoRow.holds Tryd.pinned (OpenSpec.upto twinReceivesSpec)

/-- 'perigeelaw34.TwinSettles', WHERE WHAT IT READS IS OF BULK AT MOST 1048576: true; the input reads as it did. -/
def twinSettlesUptoRow : OpenClaim := { program := "ytofiemifpgcfhaadoor", sum := "1c008c18eda764d40f9f888fe306da3a2787afddc5434b191817f935a35ab0ee", func := "perigee/perigeelaw34.TwinSettles", spec := "twinSettles", unfollowed := true, recurses := true, named := ["math/bits.deBruijn32tab", "math/bits.deBruijn64tab"], plainKeys := false, apart := false, laid := [("math/bits.deBruijn32tab", laid_math_bits_deBruijn32tab), ("math/bits.deBruijn64tab", laid_math_bits_deBruijn64tab)], narrowed := true }
def TwinSettlesUptoSaid : Prop := twinSettlesUptoRow.holds Tryd.pinned (OpenSpec.upto twinSettlesSpec)

/-- 'perigeelaw34.TwinTruth', WHERE WHAT IT READS IS OF BULK AT MOST 1048576: true; the input reads as it did. -/
def twinTruthUptoRow : OpenClaim := { program := "ytofiemifpgcfhaadoor", sum := "1c008c18eda764d40f9f888fe306da3a2787afddc5434b191817f935a35ab0ee", func := "perigee/perigeelaw34.TwinTruth", spec := "twinTruth", unfollowed := true, recurses := true, named := ["math/bits.deBruijn32tab", "math/bits.deBruijn64tab"], plainKeys := false, apart := false, laid := [("math/bits.deBruijn32tab", laid_math_bits_deBruijn32tab), ("math/bits.deBruijn64tab", laid_math_bits_deBruijn64tab)], narrowed := true }
def TwinTruthUptoSaid : Prop := twinTruthUptoRow.holds Tryd.pinned (OpenSpec.upto twinTruthSpec)

end Rows
end Go.Proofs.YtofiemifpgcfhaaDoor
