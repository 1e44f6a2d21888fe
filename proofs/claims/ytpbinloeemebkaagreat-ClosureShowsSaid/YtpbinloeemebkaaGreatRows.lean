/-
  No cell of these rows narrows 'for every input' (looked for: loops, veiled, ifaces, maps, wideKeys, modest, calm, conditions, laid).
  DERIVED. THE GIVEN ROWS OF THIS SEAT. 7 by the template 'for every input the law returns true; each argument reads behind the call as it read before'; 0 by the template 'total and deterministic' (their statements: YtpbinloeemebkaaGreatTotals.lean).
  GIVEN WITH THE SEED: the statements are not yours to turn. If you find one false, say at which input.
  Laid BY PROGRAM, IN A SANDBOX (cutbox-rows.mjs): the forced cells as the released guide's own fill.sh prints them over the translation efb9d23ae88cd515… (all of the seat's roots in one cut). By AI agents, Wed Nov 11 2026. No macro, syntax, notation, axiom, sorry.
-/
import Derived.Test.YtpbinloeemebkaaGreatChecked
import GoSem.Claim
import GoSem.ClaimJoined
import GoSem.ClaimMapViews
import Derived.JoinedTies
import Derived.KernelRfl
namespace Go.Proofs.YtpbinloeemebkaaGreat
/- THE CELL 'sum', in the pinned program and in every row, IS THE sha256 OF THE DUMP (.gsa) THAT YtpbinloeemebkaaGreatProg.lean LOADS. Nothing in Lean hashes anything: it is a label: what it is worth is what the hold of that sum in a sandbox is worth. -/
noncomputable def Tryz.pinned : Pinned := { name := "ytpbinloeemebkaagreat", sum := "efb9d23ae88cd515f0a30bc1284d1aea0ada26304d5e4548423b80dba00c62f5", checked := Tryz.checked }
namespace Rows
def none {H : Type} : Left H := { results := [], args := [] }

/-- 'fleuronlaw23.ClosureLookups': WHATEVER THE INPUT: true; the input reads as it did. -/
def closureLookupsSpec : ChangeSpec := { name := "closureLookups", fn := fun _ => fun
  | [d1, d2] => { results := [.lit (.bool true)], args := [d1, d2] }
  | _ => none }
def closureLookupsRow : OpenClaim := { program := "ytpbinloeemebkaagreat", sum := "efb9d23ae88cd515f0a30bc1284d1aea0ada26304d5e4548423b80dba00c62f5", func := "fleuron/fleuronlaw23.ClosureLookups", spec := "closureLookups", unfollowed := true, recurses := true, plainKeys := false, apart := false }
def ClosureLookupsSaid : Prop := closureLookupsRow.holds Tryz.pinned (OpenSpec.ofChange closureLookupsSpec)

/-- ITS FALSE NEIGHBOUR: 'it returns false'. Refute it at one input. -/
def closureLookupsWrong : ChangeSpec := { name := "closureLookups", fn := fun _ => fun
  | [d1, d2] => { results := [.lit (.bool false)], args := [d1, d2] }
  | _ => none }
def ClosureLookupsWrongFalsely : Prop := closureLookupsRow.holds Tryz.pinned (OpenSpec.ofChange closureLookupsWrong)

/-- 'fleuronlaw23.ClosureGlyphs': WHATEVER THE INPUT: true; the input reads as it did. -/
def closureGlyphsSpec : ChangeSpec := { name := "closureGlyphs", fn := fun _ => fun
  | [d1, d2] => { results := [.lit (.bool true)], args := [d1, d2] }
  | _ => none }
def closureGlyphsRow : OpenClaim := { program := "ytpbinloeemebkaagreat", sum := "efb9d23ae88cd515f0a30bc1284d1aea0ada26304d5e4548423b80dba00c62f5", func := "fleuron/fleuronlaw23.ClosureGlyphs", spec := "closureGlyphs", unfollowed := true, recurses := true, plainKeys := false, apart := false }
def ClosureGlyphsSaid : Prop := closureGlyphsRow.holds Tryz.pinned (OpenSpec.ofChange closureGlyphsSpec)

/-- ITS FALSE NEIGHBOUR: 'it returns false'. Refute it at one input. -/
def closureGlyphsWrong : ChangeSpec := { name := "closureGlyphs", fn := fun _ => fun
  | [d1, d2] => { results := [.lit (.bool false)], args := [d1, d2] }
  | _ => none }
def ClosureGlyphsWrongFalsely : Prop := closureGlyphsRow.holds Tryz.pinned (OpenSpec.ofChange closureGlyphsWrong)

/-- 'fleuronlaw23.ClosureMore': WHATEVER THE INPUT: true; the input reads as it did. -/
def closureMoreSpec : ChangeSpec := { name := "closureMore", fn := fun _ => fun
  | [d1, d2, d3] => { results := [.lit (.bool true)], args := [d1, d2, d3] }
  | _ => none }
def closureMoreRow : OpenClaim := { program := "ytpbinloeemebkaagreat", sum := "efb9d23ae88cd515f0a30bc1284d1aea0ada26304d5e4548423b80dba00c62f5", func := "fleuron/fleuronlaw23.ClosureMore", spec := "closureMore", unfollowed := true, recurses := true, plainKeys := false, apart := false }
def ClosureMoreSaid : Prop := closureMoreRow.holds Tryz.pinned (OpenSpec.ofChange closureMoreSpec)

/-- ITS FALSE NEIGHBOUR: 'it returns false'. Refute it at one input. -/
def closureMoreWrong : ChangeSpec := { name := "closureMore", fn := fun _ => fun
  | [d1, d2, d3] => { results := [.lit (.bool false)], args := [d1, d2, d3] }
  | _ => none }
def ClosureMoreWrongFalsely : Prop := closureMoreRow.holds Tryz.pinned (OpenSpec.ofChange closureMoreWrong)

/-- 'fleuronlaw23.ClosureLeast': WHATEVER THE INPUT: true; the input reads as it did. -/
def closureLeastSpec : ChangeSpec := { name := "closureLeast", fn := fun _ => fun
  | [d1, d2, d3] => { results := [.lit (.bool true)], args := [d1, d2, d3] }
  | _ => none }
def closureLeastRow : OpenClaim := { program := "ytpbinloeemebkaagreat", sum := "efb9d23ae88cd515f0a30bc1284d1aea0ada26304d5e4548423b80dba00c62f5", func := "fleuron/fleuronlaw23.ClosureLeast", spec := "closureLeast", unfollowed := true, recurses := true, plainKeys := false, apart := false }
def ClosureLeastSaid : Prop := closureLeastRow.holds Tryz.pinned (OpenSpec.ofChange closureLeastSpec)

/-- ITS FALSE NEIGHBOUR: 'it returns false'. Refute it at one input. -/
def closureLeastWrong : ChangeSpec := { name := "closureLeast", fn := fun _ => fun
  | [d1, d2, d3] => { results := [.lit (.bool false)], args := [d1, d2, d3] }
  | _ => none }
def ClosureLeastWrongFalsely : Prop := closureLeastRow.holds Tryz.pinned (OpenSpec.ofChange closureLeastWrong)

/-- 'fleuronlaw23.ClosureNeeds': WHATEVER THE INPUT: true; the input reads as it did. -/
def closureNeedsSpec : ChangeSpec := { name := "closureNeeds", fn := fun _ => fun
  | [d1, d2] => { results := [.lit (.bool true)], args := [d1, d2] }
  | _ => none }
def closureNeedsRow : OpenClaim := { program := "ytpbinloeemebkaagreat", sum := "efb9d23ae88cd515f0a30bc1284d1aea0ada26304d5e4548423b80dba00c62f5", func := "fleuron/fleuronlaw23.ClosureNeeds", spec := "closureNeeds", unfollowed := true, recurses := true, plainKeys := false, apart := false }
def ClosureNeedsSaid : Prop := closureNeedsRow.holds Tryz.pinned (OpenSpec.ofChange closureNeedsSpec)

/-- ITS FALSE NEIGHBOUR: 'it returns false'. Refute it at one input. -/
def closureNeedsWrong : ChangeSpec := { name := "closureNeeds", fn := fun _ => fun
  | [d1, d2] => { results := [.lit (.bool false)], args := [d1, d2] }
  | _ => none }
def ClosureNeedsWrongFalsely : Prop := closureNeedsRow.holds Tryz.pinned (OpenSpec.ofChange closureNeedsWrong)

/-- 'fleuronlaw23.ClosureGrows': WHATEVER THE INPUT: true; the input reads as it did. -/
def closureGrowsSpec : ChangeSpec := { name := "closureGrows", fn := fun _ => fun
  | [d1, d2, d3] => { results := [.lit (.bool true)], args := [d1, d2, d3] }
  | _ => none }
def closureGrowsRow : OpenClaim := { program := "ytpbinloeemebkaagreat", sum := "efb9d23ae88cd515f0a30bc1284d1aea0ada26304d5e4548423b80dba00c62f5", func := "fleuron/fleuronlaw23.ClosureGrows", spec := "closureGrows", unfollowed := true, recurses := true, plainKeys := false, apart := false }
def ClosureGrowsSaid : Prop := closureGrowsRow.holds Tryz.pinned (OpenSpec.ofChange closureGrowsSpec)

/-- ITS FALSE NEIGHBOUR: 'it returns false'. Refute it at one input. -/
def closureGrowsWrong : ChangeSpec := { name := "closureGrows", fn := fun _ => fun
  | [d1, d2, d3] => { results := [.lit (.bool false)], args := [d1, d2, d3] }
  | _ => none }
def ClosureGrowsWrongFalsely : Prop := closureGrowsRow.holds Tryz.pinned (OpenSpec.ofChange closureGrowsWrong)

/-- 'fleuronlaw23.ClosureShows': WHATEVER THE INPUT: true; the input reads as it did. -/
def closureShowsSpec : ChangeSpec := { name := "closureShows", fn := fun _ => fun
  | [d1, d2, d3] => { results := [.lit (.bool true)], args := [d1, d2, d3] }
  | _ => none }
def closureShowsRow : OpenClaim := { program := "ytpbinloeemebkaagreat", sum := "efb9d23ae88cd515f0a30bc1284d1aea0ada26304d5e4548423b80dba00c62f5", func := "fleuron/fleuronlaw23.ClosureShows", spec := "closureShows", inPlace := ["slices.overlaps[fleuron/api.Item]"], unfollowed := true, recurses := true, plainKeys := false, apart := false }
def ClosureShowsSaid : Prop := closureShowsRow.holds Tryz.pinned (OpenSpec.ofChange closureShowsSpec)

/-- ITS FALSE NEIGHBOUR: 'it returns false'. Refute it at one input. -/
def closureShowsWrong : ChangeSpec := { name := "closureShows", fn := fun _ => fun
  | [d1, d2, d3] => { results := [.lit (.bool false)], args := [d1, d2, d3] }
  | _ => none }
def ClosureShowsWrongFalsely : Prop := closureShowsRow.holds Tryz.pinned (OpenSpec.ofChange closureShowsWrong)

/- THE SECOND FORM. 'bulk': how many values and letters a reading holds, each counted each time it is reached (what is shared counts as often as it is met; a slice's spare places count too). A statement '..UptoSaid' is the law's where the arguments, and the package variables that the reading takes, are together of bulk at most 1048576: NARROWER than '..Said'. Prove '..Said' where nothing that the law and all that it calls make is longer than what came in: it says more and counts as full. Else prove '..UptoSaid'. A law counts once. -/
mutual
def uptoBulk {H : Type} : DataW H → Nat
  | .lit (.string bytes) => bytes.length + 1
  | .lit _ => 1
  | .nil => 1
  | .ptr d => uptoBulk d + 1
  | .slice elems spare => uptoBulkAll elems + uptoBulkAll spare + 1
  | .agg parts => uptoBulkAll parts + 1
  | .iface _ d => uptoBulk d + 1
  | .map entries => uptoBulkEntries entries + 1
  | .held _ => 1
def uptoBulkAll {H : Type} : List (DataW H) → Nat
  | [] => 0
  | d :: r => uptoBulk d + uptoBulkAll r
def uptoBulkEntries {H : Type} : List (Lit × DataW H) → Nat
  | [] => 0
  | x :: r => uptoBulkEntry x + uptoBulkEntries r
def uptoBulkEntry {H : Type} : Lit × DataW H → Nat
  | (.string bytes, d) => bytes.length + uptoBulk d + 1
  | (_, d) => uptoBulk d + 1
 end
def uptoSmall : (H : Type) → List (DataW H) → Bool := fun _ ds => decide (uptoBulkAll ds ≤ 1048576)
def OpenSpec.upto (s : _root_.Go.ChangeSpec) : _root_.Go.OpenSpec := { _root_.Go.OpenSpec.ofChange s with cond := some uptoSmall }

/-- 'fleuronlaw23.ClosureLookups', WHERE WHAT IT READS IS OF BULK AT MOST 1048576: true; the input reads as it did. -/
def closureLookupsUptoRow : OpenClaim := { program := "ytpbinloeemebkaagreat", sum := "efb9d23ae88cd515f0a30bc1284d1aea0ada26304d5e4548423b80dba00c62f5", func := "fleuron/fleuronlaw23.ClosureLookups", spec := "closureLookups", unfollowed := true, recurses := true, plainKeys := false, apart := false, narrowed := true }
def ClosureLookupsUptoSaid : Prop := closureLookupsUptoRow.holds Tryz.pinned (OpenSpec.upto closureLookupsSpec)

/-- 'fleuronlaw23.ClosureGlyphs', WHERE WHAT IT READS IS OF BULK AT MOST 1048576: true; the input reads as it did. -/
def closureGlyphsUptoRow : OpenClaim := { program := "ytpbinloeemebkaagreat", sum := "efb9d23ae88cd515f0a30bc1284d1aea0ada26304d5e4548423b80dba00c62f5", func := "fleuron/fleuronlaw23.ClosureGlyphs", spec := "closureGlyphs", unfollowed := true, recurses := true, plainKeys := false, apart := false, narrowed := true }
def ClosureGlyphsUptoSaid : Prop := closureGlyphsUptoRow.holds Tryz.pinned (OpenSpec.upto closureGlyphsSpec)

/-- 'fleuronlaw23.ClosureMore', WHERE WHAT IT READS IS OF BULK AT MOST 1048576: true; the input reads as it did. -/
def closureMoreUptoRow : OpenClaim := { program := "ytpbinloeemebkaagreat", sum := "efb9d23ae88cd515f0a30bc1284d1aea0ada26304d5e4548423b80dba00c62f5", func := "fleuron/fleuronlaw23.ClosureMore", spec := "closureMore", unfollowed := true, recurses := true, plainKeys := false, apart := false, narrowed := true }
def ClosureMoreUptoSaid : Prop := closureMoreUptoRow.holds Tryz.pinned (OpenSpec.upto closureMoreSpec)

/-- 'fleuronlaw23.ClosureLeast', WHERE WHAT IT READS IS OF BULK AT MOST 1048576: true; the input reads as it did. -/
def closureLeastUptoRow : OpenClaim := { program := "ytpbinloeemebkaagreat", sum := "efb9d23ae88cd515f0a30bc1284d1aea0ada26304d5e4548423b80dba00c62f5", func := "fleuron/fleuronlaw23.ClosureLeast", spec := "closureLeast", unfollowed := true, recurses := true, plainKeys := false, apart := false, narrowed := true }
def ClosureLeastUptoSaid : Prop := closureLeastUptoRow.holds Tryz.pinned (OpenSpec.upto closureLeastSpec)

/-- 'fleuronlaw23.ClosureNeeds', WHERE WHAT IT READS IS OF BULK AT MOST 1048576: true; the input reads as it did. -/
def closureNeedsUptoRow : OpenClaim := { program := "ytpbinloeemebkaagreat", sum := "efb9d23ae88cd515f0a30bc1284d1aea0ada26304d5e4548423b80dba00c62f5", func := "fleuron/fleuronlaw23.ClosureNeeds", spec := "closureNeeds", unfollowed := true, recurses := true, plainKeys := false, apart := false, narrowed := true }
def ClosureNeedsUptoSaid : Prop := closureNeedsUptoRow.holds Tryz.pinned (OpenSpec.upto closureNeedsSpec)

/-- 'fleuronlaw23.ClosureGrows', WHERE WHAT IT READS IS OF BULK AT MOST 1048576: true; the input reads as it did. -/
def closureGrowsUptoRow : OpenClaim := { program := "ytpbinloeemebkaagreat", sum := "efb9d23ae88cd515f0a30bc1284d1aea0ada26304d5e4548423b80dba00c62f5", func := "fleuron/fleuronlaw23.ClosureGrows", spec := "closureGrows", unfollowed := true, recurses := true, plainKeys := false, apart := false, narrowed := true }
def ClosureGrowsUptoSaid : Prop := closureGrowsUptoRow.holds Tryz.pinned (OpenSpec.upto closureGrowsSpec)

/-- 'fleuronlaw23.ClosureShows', WHERE WHAT IT READS IS OF BULK AT MOST 1048576: true; the input reads as it did. -/
def closureShowsUptoRow : OpenClaim := { program := "ytpbinloeemebkaagreat", sum := "efb9d23ae88cd515f0a30bc1284d1aea0ada26304d5e4548423b80dba00c62f5", func := "fleuron/fleuronlaw23.ClosureShows", spec := "closureShows", inPlace := ["slices.overlaps[fleuron/api.Item]"], unfollowed := true, recurses := true, plainKeys := false, apart := false, narrowed := true }
def ClosureShowsUptoSaid : Prop := closureShowsUptoRow.holds Tryz.pinned (OpenSpec.upto closureShowsSpec)

end Rows
end Go.Proofs.YtpbinloeemebkaaGreat
