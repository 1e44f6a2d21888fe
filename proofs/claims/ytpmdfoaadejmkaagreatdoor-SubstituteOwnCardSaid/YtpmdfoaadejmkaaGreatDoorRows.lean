/-
  NARROWER THAN 'FOR EVERY INPUT', by the rows' own cells (each row's printed sentence says how): SubstituteApplies: laid · SubstituteRuns: laid · SubstituteNew: laid · SubstituteOwn: laid · SubstituteStays: laid · SubstituteLonger: laid · SubstituteMarks: laid · SubstituteCalls: laid · SubstituteReverse: laid · SubstituteRules: laid.
  DERIVED. THE GIVEN ROWS OF THIS SEAT. 10 by the template 'for every input the law returns true; each argument reads behind the call as it read before'; 0 by the template 'total and deterministic' (their statements: YtpmdfoaadejmkaaGreatDoorTotals.lean).
  GIVEN WITH THE SEED: the statements are not yours to turn. If you find one false, say at which input.
  Laid BY PROGRAM, IN A SANDBOX (cutbox-rows.mjs): the forced cells as the released guide's own fill.sh prints them over the translation 87df757e02233b46… (all of the seat's roots in one cut). By AI agents, Wed Nov 11 2026. No macro, syntax, notation, axiom, sorry.
-/
import Derived.Test.YtpmdfoaadejmkaaGreatDoorChecked
import GoSem.Claim
import GoSem.ClaimJoined
import GoSem.ClaimMapViews
import Derived.JoinedTies
import Derived.KernelRfl
namespace Go.Proofs.YtpmdfoaadejmkaaGreatDoor
/- THE CELL 'sum', in the pinned program and in every row, IS THE sha256 OF THE DUMP (.gsa) THAT YtpmdfoaadejmkaaGreatDoorProg.lean LOADS. Nothing in Lean hashes anything: it is a label: what it is worth is what the hold of that sum in a sandbox is worth. -/
noncomputable def Tryz.pinned : Pinned := { name := "ytpmdfoaadejmkaagreatdoor", sum := "87df757e02233b46ef6fbb620b4dff0203eadd1704e1c9884210ae2c2ffe5086", checked := Tryz.checked }
namespace Rows
def none {H : Type} : Left H := { results := [], args := [] }

/- WHAT THE LISTED PACKAGE-LEVEL VARIABLES READ AS WHEN THE CALL BEGINS. Each datum BY PROGRAM (the guide's laid-datum.mjs) off the statement by which the dump's own 'gosem.cut.vars' lays the variable. In a bare row this is a premise. The card (YtpmdfoaadejmkaaGreatDoorCards.lean) ties it to the program's text. -/
def laid_math_bits_deBruijn64tab {H : Type} : DataW H := .agg [.lit (.int .u8 0), .lit (.int .u8 1), .lit (.int .u8 56), .lit (.int .u8 2), .lit (.int .u8 57), .lit (.int .u8 49), .lit (.int .u8 28), .lit (.int .u8 3), .lit (.int .u8 61), .lit (.int .u8 58), .lit (.int .u8 42), .lit (.int .u8 50), .lit (.int .u8 38), .lit (.int .u8 29), .lit (.int .u8 17), .lit (.int .u8 4), .lit (.int .u8 62), .lit (.int .u8 47), .lit (.int .u8 59), .lit (.int .u8 36), .lit (.int .u8 45), .lit (.int .u8 43), .lit (.int .u8 51), .lit (.int .u8 22), .lit (.int .u8 53), .lit (.int .u8 39), .lit (.int .u8 33), .lit (.int .u8 30), .lit (.int .u8 24), .lit (.int .u8 18), .lit (.int .u8 12), .lit (.int .u8 5), .lit (.int .u8 63), .lit (.int .u8 55), .lit (.int .u8 48), .lit (.int .u8 27), .lit (.int .u8 60), .lit (.int .u8 41), .lit (.int .u8 37), .lit (.int .u8 16), .lit (.int .u8 46), .lit (.int .u8 35), .lit (.int .u8 44), .lit (.int .u8 21), .lit (.int .u8 52), .lit (.int .u8 32), .lit (.int .u8 23), .lit (.int .u8 11), .lit (.int .u8 54), .lit (.int .u8 26), .lit (.int .u8 40), .lit (.int .u8 15), .lit (.int .u8 34), .lit (.int .u8 20), .lit (.int .u8 31), .lit (.int .u8 10), .lit (.int .u8 25), .lit (.int .u8 14), .lit (.int .u8 19), .lit (.int .u8 9), .lit (.int .u8 13), .lit (.int .u8 8), .lit (.int .u8 7), .lit (.int .u8 6)]

/-- 'fleuronlaw13.SubstituteApplies': WHATEVER THE INPUT: true; the input reads as it did. -/
def substituteAppliesSpec : ChangeSpec := { name := "substituteApplies", fn := fun _ => fun
  | [d1, d2, d3] => { results := [.lit (.bool true)], args := [d1, d2, d3] }
  | _ => none }
def substituteAppliesRow : OpenClaim := { program := "ytpmdfoaadejmkaagreatdoor", sum := "87df757e02233b46ef6fbb620b4dff0203eadd1704e1c9884210ae2c2ffe5086", func := "fleuron/fleuronlaw13.SubstituteApplies", spec := "substituteApplies", unfollowed := true, recurses := true, named := ["math/bits.deBruijn64tab"], plainKeys := false, apart := false, laid := [("math/bits.deBruijn64tab", laid_math_bits_deBruijn64tab)] }
def SubstituteAppliesSaid : Prop := substituteAppliesRow.holds Tryz.pinned (OpenSpec.ofChange substituteAppliesSpec)

/-- ITS FALSE NEIGHBOUR: 'it returns false'. Refute it at one input. -/
def substituteAppliesWrong : ChangeSpec := { name := "substituteApplies", fn := fun _ => fun
  | [d1, d2, d3] => { results := [.lit (.bool false)], args := [d1, d2, d3] }
  | _ => none }
def SubstituteAppliesWrongFalsely : Prop := substituteAppliesRow.holds Tryz.pinned (OpenSpec.ofChange substituteAppliesWrong)

/-- 'fleuronlaw13.SubstituteRuns': WHATEVER THE INPUT: true; the input reads as it did. -/
def substituteRunsSpec : ChangeSpec := { name := "substituteRuns", fn := fun _ => fun
  | [d1, d2, d3] => { results := [.lit (.bool true)], args := [d1, d2, d3] }
  | _ => none }
def substituteRunsRow : OpenClaim := { program := "ytpmdfoaadejmkaagreatdoor", sum := "87df757e02233b46ef6fbb620b4dff0203eadd1704e1c9884210ae2c2ffe5086", func := "fleuron/fleuronlaw13.SubstituteRuns", spec := "substituteRuns", unfollowed := true, recurses := true, named := ["math/bits.deBruijn64tab"], plainKeys := false, apart := false, laid := [("math/bits.deBruijn64tab", laid_math_bits_deBruijn64tab)] }
def SubstituteRunsSaid : Prop := substituteRunsRow.holds Tryz.pinned (OpenSpec.ofChange substituteRunsSpec)

/-- ITS FALSE NEIGHBOUR: 'it returns false'. Refute it at one input. -/
def substituteRunsWrong : ChangeSpec := { name := "substituteRuns", fn := fun _ => fun
  | [d1, d2, d3] => { results := [.lit (.bool false)], args := [d1, d2, d3] }
  | _ => none }
def SubstituteRunsWrongFalsely : Prop := substituteRunsRow.holds Tryz.pinned (OpenSpec.ofChange substituteRunsWrong)

/-- 'fleuronlaw13.SubstituteNew': WHATEVER THE INPUT: true; the input reads as it did. -/
def substituteNewSpec : ChangeSpec := { name := "substituteNew", fn := fun _ => fun
  | [d1, d2] => { results := [.lit (.bool true)], args := [d1, d2] }
  | _ => none }
def substituteNewRow : OpenClaim := { program := "ytpmdfoaadejmkaagreatdoor", sum := "87df757e02233b46ef6fbb620b4dff0203eadd1704e1c9884210ae2c2ffe5086", func := "fleuron/fleuronlaw13.SubstituteNew", spec := "substituteNew", unfollowed := true, recurses := true, named := ["math/bits.deBruijn64tab"], plainKeys := false, apart := false, laid := [("math/bits.deBruijn64tab", laid_math_bits_deBruijn64tab)] }
def SubstituteNewSaid : Prop := substituteNewRow.holds Tryz.pinned (OpenSpec.ofChange substituteNewSpec)

/-- ITS FALSE NEIGHBOUR: 'it returns false'. Refute it at one input. -/
def substituteNewWrong : ChangeSpec := { name := "substituteNew", fn := fun _ => fun
  | [d1, d2] => { results := [.lit (.bool false)], args := [d1, d2] }
  | _ => none }
def SubstituteNewWrongFalsely : Prop := substituteNewRow.holds Tryz.pinned (OpenSpec.ofChange substituteNewWrong)

/-- 'fleuronlaw13.SubstituteOwn': WHATEVER THE INPUT: true; the input reads as it did. -/
def substituteOwnSpec : ChangeSpec := { name := "substituteOwn", fn := fun _ => fun
  | [d1, d2, d3] => { results := [.lit (.bool true)], args := [d1, d2, d3] }
  | _ => none }
def substituteOwnRow : OpenClaim := { program := "ytpmdfoaadejmkaagreatdoor", sum := "87df757e02233b46ef6fbb620b4dff0203eadd1704e1c9884210ae2c2ffe5086", func := "fleuron/fleuronlaw13.SubstituteOwn", spec := "substituteOwn", unfollowed := true, recurses := true, named := ["math/bits.deBruijn64tab"], plainKeys := false, apart := false, laid := [("math/bits.deBruijn64tab", laid_math_bits_deBruijn64tab)] }
def SubstituteOwnSaid : Prop := substituteOwnRow.holds Tryz.pinned (OpenSpec.ofChange substituteOwnSpec)

/-- ITS FALSE NEIGHBOUR: 'it returns false'. Refute it at one input. -/
def substituteOwnWrong : ChangeSpec := { name := "substituteOwn", fn := fun _ => fun
  | [d1, d2, d3] => { results := [.lit (.bool false)], args := [d1, d2, d3] }
  | _ => none }
def SubstituteOwnWrongFalsely : Prop := substituteOwnRow.holds Tryz.pinned (OpenSpec.ofChange substituteOwnWrong)

/-- 'fleuronlaw13.SubstituteStays': WHATEVER THE INPUT: true; the input reads as it did. -/
def substituteStaysSpec : ChangeSpec := { name := "substituteStays", fn := fun _ => fun
  | [d1, d2, d3] => { results := [.lit (.bool true)], args := [d1, d2, d3] }
  | _ => none }
def substituteStaysRow : OpenClaim := { program := "ytpmdfoaadejmkaagreatdoor", sum := "87df757e02233b46ef6fbb620b4dff0203eadd1704e1c9884210ae2c2ffe5086", func := "fleuron/fleuronlaw13.SubstituteStays", spec := "substituteStays", unfollowed := true, recurses := true, named := ["math/bits.deBruijn64tab"], plainKeys := false, apart := false, laid := [("math/bits.deBruijn64tab", laid_math_bits_deBruijn64tab)] }
def SubstituteStaysSaid : Prop := substituteStaysRow.holds Tryz.pinned (OpenSpec.ofChange substituteStaysSpec)

/-- ITS FALSE NEIGHBOUR: 'it returns false'. Refute it at one input. -/
def substituteStaysWrong : ChangeSpec := { name := "substituteStays", fn := fun _ => fun
  | [d1, d2, d3] => { results := [.lit (.bool false)], args := [d1, d2, d3] }
  | _ => none }
def SubstituteStaysWrongFalsely : Prop := substituteStaysRow.holds Tryz.pinned (OpenSpec.ofChange substituteStaysWrong)

/-- 'fleuronlaw13.SubstituteLonger': WHATEVER THE INPUT: true; the input reads as it did. -/
def substituteLongerSpec : ChangeSpec := { name := "substituteLonger", fn := fun _ => fun
  | [d1, d2, d3] => { results := [.lit (.bool true)], args := [d1, d2, d3] }
  | _ => none }
def substituteLongerRow : OpenClaim := { program := "ytpmdfoaadejmkaagreatdoor", sum := "87df757e02233b46ef6fbb620b4dff0203eadd1704e1c9884210ae2c2ffe5086", func := "fleuron/fleuronlaw13.SubstituteLonger", spec := "substituteLonger", unfollowed := true, recurses := true, named := ["math/bits.deBruijn64tab"], plainKeys := false, apart := false, laid := [("math/bits.deBruijn64tab", laid_math_bits_deBruijn64tab)] }
def SubstituteLongerSaid : Prop := substituteLongerRow.holds Tryz.pinned (OpenSpec.ofChange substituteLongerSpec)

/-- ITS FALSE NEIGHBOUR: 'it returns false'. Refute it at one input. -/
def substituteLongerWrong : ChangeSpec := { name := "substituteLonger", fn := fun _ => fun
  | [d1, d2, d3] => { results := [.lit (.bool false)], args := [d1, d2, d3] }
  | _ => none }
def SubstituteLongerWrongFalsely : Prop := substituteLongerRow.holds Tryz.pinned (OpenSpec.ofChange substituteLongerWrong)

/-- 'fleuronlaw13.SubstituteMarks': WHATEVER THE INPUT: true; the input reads as it did. -/
def substituteMarksSpec : ChangeSpec := { name := "substituteMarks", fn := fun _ => fun
  | [d1, d2] => { results := [.lit (.bool true)], args := [d1, d2] }
  | _ => none }
def substituteMarksRow : OpenClaim := { program := "ytpmdfoaadejmkaagreatdoor", sum := "87df757e02233b46ef6fbb620b4dff0203eadd1704e1c9884210ae2c2ffe5086", func := "fleuron/fleuronlaw13.SubstituteMarks", spec := "substituteMarks", unfollowed := true, recurses := true, named := ["math/bits.deBruijn64tab"], plainKeys := false, apart := false, laid := [("math/bits.deBruijn64tab", laid_math_bits_deBruijn64tab)] }
def SubstituteMarksSaid : Prop := substituteMarksRow.holds Tryz.pinned (OpenSpec.ofChange substituteMarksSpec)

/-- ITS FALSE NEIGHBOUR: 'it returns false'. Refute it at one input. -/
def substituteMarksWrong : ChangeSpec := { name := "substituteMarks", fn := fun _ => fun
  | [d1, d2] => { results := [.lit (.bool false)], args := [d1, d2] }
  | _ => none }
def SubstituteMarksWrongFalsely : Prop := substituteMarksRow.holds Tryz.pinned (OpenSpec.ofChange substituteMarksWrong)

/-- 'fleuronlaw13.SubstituteCalls': WHATEVER THE INPUT: true; the input reads as it did. -/
def substituteCallsSpec : ChangeSpec := { name := "substituteCalls", fn := fun _ => fun
  | [d1, d2] => { results := [.lit (.bool true)], args := [d1, d2] }
  | _ => none }
def substituteCallsRow : OpenClaim := { program := "ytpmdfoaadejmkaagreatdoor", sum := "87df757e02233b46ef6fbb620b4dff0203eadd1704e1c9884210ae2c2ffe5086", func := "fleuron/fleuronlaw13.SubstituteCalls", spec := "substituteCalls", unfollowed := true, recurses := true, named := ["math/bits.deBruijn64tab"], plainKeys := false, apart := false, laid := [("math/bits.deBruijn64tab", laid_math_bits_deBruijn64tab)] }
def SubstituteCallsSaid : Prop := substituteCallsRow.holds Tryz.pinned (OpenSpec.ofChange substituteCallsSpec)

/-- ITS FALSE NEIGHBOUR: 'it returns false'. Refute it at one input. -/
def substituteCallsWrong : ChangeSpec := { name := "substituteCalls", fn := fun _ => fun
  | [d1, d2] => { results := [.lit (.bool false)], args := [d1, d2] }
  | _ => none }
def SubstituteCallsWrongFalsely : Prop := substituteCallsRow.holds Tryz.pinned (OpenSpec.ofChange substituteCallsWrong)

/-- 'fleuronlaw13.SubstituteReverse': WHATEVER THE INPUT: true; the input reads as it did. -/
def substituteReverseSpec : ChangeSpec := { name := "substituteReverse", fn := fun _ => fun
  | [d] => { results := [.lit (.bool true)], args := [d] }
  | _ => none }
def substituteReverseRow : OpenClaim := { program := "ytpmdfoaadejmkaagreatdoor", sum := "87df757e02233b46ef6fbb620b4dff0203eadd1704e1c9884210ae2c2ffe5086", func := "fleuron/fleuronlaw13.SubstituteReverse", spec := "substituteReverse", unfollowed := true, recurses := true, named := ["math/bits.deBruijn64tab"], plainKeys := false, apart := false, laid := [("math/bits.deBruijn64tab", laid_math_bits_deBruijn64tab)] }
def SubstituteReverseSaid : Prop := substituteReverseRow.holds Tryz.pinned (OpenSpec.ofChange substituteReverseSpec)

/-- ITS FALSE NEIGHBOUR: 'it returns false'. Refute it at one input. -/
def substituteReverseWrong : ChangeSpec := { name := "substituteReverse", fn := fun _ => fun
  | [d] => { results := [.lit (.bool false)], args := [d] }
  | _ => none }
def SubstituteReverseWrongFalsely : Prop := substituteReverseRow.holds Tryz.pinned (OpenSpec.ofChange substituteReverseWrong)

/-- 'fleuronlaw13.SubstituteRules': WHATEVER THE INPUT: true; the input reads as it did. -/
def substituteRulesSpec : ChangeSpec := { name := "substituteRules", fn := fun _ => fun
  | [d1, d2, d3] => { results := [.lit (.bool true)], args := [d1, d2, d3] }
  | _ => none }
def substituteRulesRow : OpenClaim := { program := "ytpmdfoaadejmkaagreatdoor", sum := "87df757e02233b46ef6fbb620b4dff0203eadd1704e1c9884210ae2c2ffe5086", func := "fleuron/fleuronlaw13.SubstituteRules", spec := "substituteRules", inPlace := ["slices.overlaps[fleuron/api.Item]"], unfollowed := true, recurses := true, named := ["math/bits.deBruijn64tab"], plainKeys := false, apart := false, laid := [("math/bits.deBruijn64tab", laid_math_bits_deBruijn64tab)] }
def SubstituteRulesSaid : Prop := substituteRulesRow.holds Tryz.pinned (OpenSpec.ofChange substituteRulesSpec)

/-- ITS FALSE NEIGHBOUR: 'it returns false'. Refute it at one input. -/
def substituteRulesWrong : ChangeSpec := { name := "substituteRules", fn := fun _ => fun
  | [d1, d2, d3] => { results := [.lit (.bool false)], args := [d1, d2, d3] }
  | _ => none }
def SubstituteRulesWrongFalsely : Prop := substituteRulesRow.holds Tryz.pinned (OpenSpec.ofChange substituteRulesWrong)

/- THE SECOND FORM. 'bulk': how many values and letters a reading holds, each counted each time it is reached (what is shared counts as often as it is met; a slice's spare places count too). A statement '..UptoSaid' is the law's where the arguments, and the package variables that the reading takes, are together of bulk at most 1048576: NARROWER than '..Said'. Prove '..Said' where nothing that the law and all that it calls make is longer than what came in: it says more and counts as full. Else prove '..UptoSaid'. A law counts once. -/
mutual
def uptoBulk {H : Type} : DataW H → Nat
  | .lit (.string bytes) => bytes.length + 1
  | .lit _ => 1
  | .nil => 1
  | .ptr d => uptoBulk d + 1
  | .slice elems spare => uptoBulkAll elems + uptoBulkAll spare + 1
  | .agg parts => uptoBulkAll parts + 1
  | .iface _ d => uptoBulk d + 1
  | .map entries => uptoBulkEntries entries + 1
  | .held _ => 1
def uptoBulkAll {H : Type} : List (DataW H) → Nat
  | [] => 0
  | d :: r => uptoBulk d + uptoBulkAll r
def uptoBulkEntries {H : Type} : List (Lit × DataW H) → Nat
  | [] => 0
  | x :: r => uptoBulkEntry x + uptoBulkEntries r
def uptoBulkEntry {H : Type} : Lit × DataW H → Nat
  | (.string bytes, d) => bytes.length + uptoBulk d + 1
  | (_, d) => uptoBulk d + 1
 end
def uptoSmall : (H : Type) → List (DataW H) → Bool := fun _ ds => decide (uptoBulkAll ds ≤ 1048576)
def OpenSpec.upto (s : _root_.Go.ChangeSpec) : _root_.Go.OpenSpec := { _root_.Go.OpenSpec.ofChange s with cond := some uptoSmall }

/-- 'fleuronlaw13.SubstituteApplies', WHERE WHAT IT READS IS OF BULK AT MOST 1048576: true; the input reads as it did. -/
def substituteAppliesUptoRow : OpenClaim := { program := "ytpmdfoaadejmkaagreatdoor", sum := "87df757e02233b46ef6fbb620b4dff0203eadd1704e1c9884210ae2c2ffe5086", func := "fleuron/fleuronlaw13.SubstituteApplies", spec := "substituteApplies", unfollowed := true, recurses := true, named := ["math/bits.deBruijn64tab"], plainKeys := false, apart := false, laid := [("math/bits.deBruijn64tab", laid_math_bits_deBruijn64tab)], narrowed := true }
def SubstituteAppliesUptoSaid : Prop := substituteAppliesUptoRow.holds Tryz.pinned (OpenSpec.upto substituteAppliesSpec)

/-- 'fleuronlaw13.SubstituteRuns', WHERE WHAT IT READS IS OF BULK AT MOST 1048576: true; the input reads as it did. -/
def substituteRunsUptoRow : OpenClaim := { program := "ytpmdfoaadejmkaagreatdoor", sum := "87df757e02233b46ef6fbb620b4dff0203eadd1704e1c9884210ae2c2ffe5086", func := "fleuron/fleuronlaw13.SubstituteRuns", spec := "substituteRuns", unfollowed := true, recurses := true, named := ["math/bits.deBruijn64tab"], plainKeys := false, apart := false, laid := [("math/bits.deBruijn64tab", laid_math_bits_deBruijn64tab)], narrowed := true }
def SubstituteRunsUptoSaid : Prop := substituteRunsUptoRow.holds Tryz.pinned (OpenSpec.upto substituteRunsSpec)

/-- 'fleuronlaw13.SubstituteNew', WHERE WHAT IT READS IS OF BULK AT MOST 1048576: true; the input reads as it did. -/
def substituteNewUptoRow : OpenClaim := { program := "ytpmdfoaadejmkaagreatdoor", sum := "87df757e02233b46ef6fbb620b4dff0203eadd1704e1c9884210ae2c2ffe5086", func := "fleuron/fleuronlaw13.SubstituteNew", spec := "substituteNew", unfollowed := true, recurses := true, named := ["math/bits.deBruijn64tab"], plainKeys := false, apart := false, laid := [("math/bits.deBruijn64tab", laid_math_bits_deBruijn64tab)], narrowed := true }
def SubstituteNewUptoSaid : Prop := substituteNewUptoRow.holds Tryz.pinned (OpenSpec.upto substituteNewSpec)

/-- 'fleuronlaw13.SubstituteOwn', WHERE WHAT IT READS IS OF BULK AT MOST 1048576: true; the input reads as it did. -/
def substituteOwnUptoRow : OpenClaim := { program := "ytpmdfoaadejmkaagreatdoor", sum := "87df757e02233b46ef6fbb620b4dff0203eadd1704e1c9884210ae2c2ffe5086", func := "fleuron/fleuronlaw13.SubstituteOwn", spec := "substituteOwn", unfollowed := true, recurses := true, named := ["math/bits.deBruijn64tab"], plainKeys := false, apart := false, laid := [("math/bits.deBruijn64tab", laid_math_bits_deBruijn64tab)], narrowed := true }
def SubstituteOwnUptoSaid : Prop := substituteOwnUptoRow.holds Tryz.pinned (OpenSpec.upto substituteOwnSpec)

/-- 'fleuronlaw13.SubstituteStays', WHERE WHAT IT READS IS OF BULK AT MOST 1048576: true; the input reads as it did. -/
def substituteStaysUptoRow : OpenClaim := { program := "ytpmdfoaadejmkaagreatdoor", sum := "87df757e02233b46ef6fbb620b4dff0203eadd1704e1c9884210ae2c2ffe5086", func := "fleuron/fleuronlaw13.SubstituteStays", spec := "substituteStays", unfollowed := true, recurses := true, named := ["math/bits.deBruijn64tab"], plainKeys := false, apart := false, laid := [("math/bits.deBruijn64tab", laid_math_bits_deBruijn64tab)], narrowed := true }
def SubstituteStaysUptoSaid : Prop := substituteStaysUptoRow.holds Tryz.pinned (OpenSpec.upto substituteStaysSpec)

/-- 'fleuronlaw13.SubstituteLonger', WHERE WHAT IT READS IS OF BULK AT MOST 1048576: true; the input reads as it did. -/
def substituteLongerUptoRow : OpenClaim := { program := "ytpmdfoaadejmkaagreatdoor", sum := "87df757e02233b46ef6fbb620b4dff0203eadd1704e1c9884210ae2c2ffe5086", func := "fleuron/fleuronlaw13.SubstituteLonger", spec := "substituteLonger", unfollowed := true, recurses := true, named := ["math/bits.deBruijn64tab"], plainKeys := false, apart := false, laid := [("math/bits.deBruijn64tab", laid_math_bits_deBruijn64tab)], narrowed := true }
def SubstituteLongerUptoSaid : Prop := substituteLongerUptoRow.holds Tryz.pinned (OpenSpec.upto substituteLongerSpec)

/-- 'fleuronlaw13.SubstituteMarks', WHERE WHAT IT READS IS OF BULK AT MOST 1048576: true; the input reads as it did. -/
def substituteMarksUptoRow : OpenClaim := { program := "ytpmdfoaadejmkaagreatdoor", sum := "87df757e02233b46ef6fbb620b4dff0203eadd1704e1c9884210ae2c2ffe5086", func := "fleuron/fleuronlaw13.SubstituteMarks", spec := "substituteMarks", unfollowed := true, recurses := true, named := ["math/bits.deBruijn64tab"], plainKeys := false, apart := false, laid := [("math/bits.deBruijn64tab", laid_math_bits_deBruijn64tab)], narrowed := true }
def SubstituteMarksUptoSaid : Prop := substituteMarksUptoRow.holds Tryz.pinned (OpenSpec.upto substituteMarksSpec)

/-- 'fleuronlaw13.SubstituteCalls', WHERE WHAT IT READS IS OF BULK AT MOST 1048576: true; the input reads as it did. -/
def substituteCallsUptoRow : OpenClaim := { program := "ytpmdfoaadejmkaagreatdoor", sum := "87df757e02233b46ef6fbb620b4dff0203eadd1704e1c9884210ae2c2ffe5086", func := "fleuron/fleuronlaw13.SubstituteCalls", spec := "substituteCalls", unfollowed := true, recurses := true, named := ["math/bits.deBruijn64tab"], plainKeys := false, apart := false, laid := [("math/bits.deBruijn64tab", laid_math_bits_deBruijn64tab)], narrowed := true }
def SubstituteCallsUptoSaid : Prop := substituteCallsUptoRow.holds Tryz.pinned (OpenSpec.upto substituteCallsSpec)

/-- 'fleuronlaw13.SubstituteReverse', WHERE WHAT IT READS IS OF BULK AT MOST 1048576: true; the input reads as it did. -/
def substituteReverseUptoRow : OpenClaim := { program := "ytpmdfoaadejmkaagreatdoor", sum := "87df757e02233b46ef6fbb620b4dff0203eadd1704e1c9884210ae2c2ffe5086", func := "fleuron/fleuronlaw13.SubstituteReverse", spec := "substituteReverse", unfollowed := true, recurses := true, named := ["math/bits.deBruijn64tab"], plainKeys := false, apart := false, laid := [("math/bits.deBruijn64tab", laid_math_bits_deBruijn64tab)], narrowed := true }
def SubstituteReverseUptoSaid : Prop := substituteReverseUptoRow.holds Tryz.pinned (OpenSpec.upto substituteReverseSpec)

/-- 'fleuronlaw13.SubstituteRules', WHERE WHAT IT READS IS OF BULK AT MOST 1048576: true; the input reads as it did. -/
def substituteRulesUptoRow : OpenClaim := { program := "ytpmdfoaadejmkaagreatdoor", sum := "87df757e02233b46ef6fbb620b4dff0203eadd1704e1c9884210ae2c2ffe5086", func := "fleuron/fleuronlaw13.SubstituteRules", spec := "substituteRules", inPlace := ["slices.overlaps[fleuron/api.Item]"], unfollowed := true, recurses := true, named := ["math/bits.deBruijn64tab"], plainKeys := false, apart := false, laid := [("math/bits.deBruijn64tab", laid_math_bits_deBruijn64tab)], narrowed := true }
def SubstituteRulesUptoSaid : Prop := substituteRulesUptoRow.holds Tryz.pinned (OpenSpec.upto substituteRulesSpec)

end Rows
end Go.Proofs.YtpmdfoaadejmkaaGreatDoor
