/-
  No cell of these rows narrows 'for every input' (looked for: loops, veiled, ifaces, maps, wideKeys, modest, calm, conditions, laid).
  DERIVED. THE GIVEN ROWS OF THIS SEAT. 11 by the template 'for every input the law returns true; each argument reads behind the call as it read before'; 0 by the template 'total and deterministic' (their statements: YtbgolbkolcmldaaTotals.lean).
  GIVEN WITH THE SEED: the statements are not yours to turn. If you find one false, say at which input.
  Laid BY PROGRAM, IN A SANDBOX (cutbox-rows.mjs): the forced cells as the released guide's own fill.sh prints them over the translation 294b3daa204ee651… (all of the seat's roots in one cut). By AI agents, Wed Nov 11 2026. No macro, syntax, notation, axiom, sorry.
-/
import Derived.Test.YtbgolbkolcmldaaChecked
import GoSem.Claim
import GoSem.ClaimJoined
import GoSem.ClaimMapViews
import Derived.JoinedTies
import Derived.KernelRfl
namespace Go.Proofs.Ytbgolbkolcmldaa
/- THE CELL 'sum', in the pinned program and in every row, IS THE sha256 OF THE DUMP (.gsa) THAT YtbgolbkolcmldaaProg.lean LOADS. Nothing in Lean hashes anything: it is a label: what it is worth is what the hold of that sum in a sandbox is worth. -/
noncomputable def Try.pinned : Pinned := { name := "ytbgolbkolcmldaa", sum := "294b3daa204ee65127358c967a69cd16e8b9e650321abacf85c923c46f339dc5", checked := Try.checked }
namespace Rows
def none {H : Type} : Left H := { results := [], args := [] }

/-- 'fleuronlaw22.RasterExact': WHATEVER THE INPUT: true; the input reads as it did. -/
def rasterExactSpec : ChangeSpec := { name := "rasterExact", fn := fun _ => fun
  | [d1, d2] => { results := [.lit (.bool true)], args := [d1, d2] }
  | _ => none }
def rasterExactRow : OpenClaim := { program := "ytbgolbkolcmldaa", sum := "294b3daa204ee65127358c967a69cd16e8b9e650321abacf85c923c46f339dc5", func := "fleuron/fleuronlaw22.RasterExact", spec := "rasterExact", inPlace := ["internal/bytealg.MakeNoZero", "internal/bytealg.IndexByteString"], unfollowed := true, recurses := true, apart := false }
def RasterExactSaid : Prop := rasterExactRow.holds Try.pinned (OpenSpec.ofChange rasterExactSpec)

/-- ITS FALSE NEIGHBOUR: 'it returns false'. Refute it at one input. -/
def rasterExactWrong : ChangeSpec := { name := "rasterExact", fn := fun _ => fun
  | [d1, d2] => { results := [.lit (.bool false)], args := [d1, d2] }
  | _ => none }
def RasterExactWrongFalsely : Prop := rasterExactRow.holds Try.pinned (OpenSpec.ofChange rasterExactWrong)

/-- 'fleuronlaw22.RasterTurns': WHATEVER THE INPUT: true; the input reads as it did. -/
def rasterTurnsSpec : ChangeSpec := { name := "rasterTurns", fn := fun _ => fun
  | [d1, d2, d3] => { results := [.lit (.bool true)], args := [d1, d2, d3] }
  | _ => none }
def rasterTurnsRow : OpenClaim := { program := "ytbgolbkolcmldaa", sum := "294b3daa204ee65127358c967a69cd16e8b9e650321abacf85c923c46f339dc5", func := "fleuron/fleuronlaw22.RasterTurns", spec := "rasterTurns", inPlace := ["internal/bytealg.MakeNoZero", "internal/bytealg.IndexByteString"], unfollowed := true, recurses := true, apart := false }
def RasterTurnsSaid : Prop := rasterTurnsRow.holds Try.pinned (OpenSpec.ofChange rasterTurnsSpec)

/-- ITS FALSE NEIGHBOUR: 'it returns false'. Refute it at one input. -/
def rasterTurnsWrong : ChangeSpec := { name := "rasterTurns", fn := fun _ => fun
  | [d1, d2, d3] => { results := [.lit (.bool false)], args := [d1, d2, d3] }
  | _ => none }
def RasterTurnsWrongFalsely : Prop := rasterTurnsRow.holds Try.pinned (OpenSpec.ofChange rasterTurnsWrong)

/-- 'fleuronlaw22.RasterAgainst': WHATEVER THE INPUT: true; the input reads as it did. -/
def rasterAgainstSpec : ChangeSpec := { name := "rasterAgainst", fn := fun _ => fun
  | [d1, d2] => { results := [.lit (.bool true)], args := [d1, d2] }
  | _ => none }
def rasterAgainstRow : OpenClaim := { program := "ytbgolbkolcmldaa", sum := "294b3daa204ee65127358c967a69cd16e8b9e650321abacf85c923c46f339dc5", func := "fleuron/fleuronlaw22.RasterAgainst", spec := "rasterAgainst", inPlace := ["internal/bytealg.MakeNoZero", "internal/bytealg.IndexByteString"], unfollowed := true, recurses := true, apart := false }
def RasterAgainstSaid : Prop := rasterAgainstRow.holds Try.pinned (OpenSpec.ofChange rasterAgainstSpec)

/-- ITS FALSE NEIGHBOUR: 'it returns false'. Refute it at one input. -/
def rasterAgainstWrong : ChangeSpec := { name := "rasterAgainst", fn := fun _ => fun
  | [d1, d2] => { results := [.lit (.bool false)], args := [d1, d2] }
  | _ => none }
def RasterAgainstWrongFalsely : Prop := rasterAgainstRow.holds Try.pinned (OpenSpec.ofChange rasterAgainstWrong)

/-- 'fleuronlaw22.RasterMoves': WHATEVER THE INPUT: true; the input reads as it did. -/
def rasterMovesSpec : ChangeSpec := { name := "rasterMoves", fn := fun _ => fun
  | [d1, d2] => { results := [.lit (.bool true)], args := [d1, d2] }
  | _ => none }
def rasterMovesRow : OpenClaim := { program := "ytbgolbkolcmldaa", sum := "294b3daa204ee65127358c967a69cd16e8b9e650321abacf85c923c46f339dc5", func := "fleuron/fleuronlaw22.RasterMoves", spec := "rasterMoves", inPlace := ["internal/bytealg.MakeNoZero", "internal/bytealg.IndexByteString"], unfollowed := true, recurses := true, apart := false }
def RasterMovesSaid : Prop := rasterMovesRow.holds Try.pinned (OpenSpec.ofChange rasterMovesSpec)

/-- ITS FALSE NEIGHBOUR: 'it returns false'. Refute it at one input. -/
def rasterMovesWrong : ChangeSpec := { name := "rasterMoves", fn := fun _ => fun
  | [d1, d2] => { results := [.lit (.bool false)], args := [d1, d2] }
  | _ => none }
def RasterMovesWrongFalsely : Prop := rasterMovesRow.holds Try.pinned (OpenSpec.ofChange rasterMovesWrong)

/-- 'fleuronlaw22.RasterApart': WHATEVER THE INPUT: true; the input reads as it did. -/
def rasterApartSpec : ChangeSpec := { name := "rasterApart", fn := fun _ => fun
  | [d1, d2, d3] => { results := [.lit (.bool true)], args := [d1, d2, d3] }
  | _ => none }
def rasterApartRow : OpenClaim := { program := "ytbgolbkolcmldaa", sum := "294b3daa204ee65127358c967a69cd16e8b9e650321abacf85c923c46f339dc5", func := "fleuron/fleuronlaw22.RasterApart", spec := "rasterApart", inPlace := ["internal/bytealg.MakeNoZero", "internal/bytealg.IndexByteString"], unfollowed := true, recurses := true, apart := false }
def RasterApartSaid : Prop := rasterApartRow.holds Try.pinned (OpenSpec.ofChange rasterApartSpec)

/-- ITS FALSE NEIGHBOUR: 'it returns false'. Refute it at one input. -/
def rasterApartWrong : ChangeSpec := { name := "rasterApart", fn := fun _ => fun
  | [d1, d2, d3] => { results := [.lit (.bool false)], args := [d1, d2, d3] }
  | _ => none }
def RasterApartWrongFalsely : Prop := rasterApartRow.holds Try.pinned (OpenSpec.ofChange rasterApartWrong)

/-- 'fleuronlaw22.RasterThin': WHATEVER THE INPUT: true; the input reads as it did. -/
def rasterThinSpec : ChangeSpec := { name := "rasterThin", fn := fun _ => fun
  | [d1, d2] => { results := [.lit (.bool true)], args := [d1, d2] }
  | _ => none }
def rasterThinRow : OpenClaim := { program := "ytbgolbkolcmldaa", sum := "294b3daa204ee65127358c967a69cd16e8b9e650321abacf85c923c46f339dc5", func := "fleuron/fleuronlaw22.RasterThin", spec := "rasterThin", inPlace := ["internal/bytealg.MakeNoZero", "internal/bytealg.IndexByteString"], unfollowed := true, recurses := true, apart := false }
def RasterThinSaid : Prop := rasterThinRow.holds Try.pinned (OpenSpec.ofChange rasterThinSpec)

/-- ITS FALSE NEIGHBOUR: 'it returns false'. Refute it at one input. -/
def rasterThinWrong : ChangeSpec := { name := "rasterThin", fn := fun _ => fun
  | [d1, d2] => { results := [.lit (.bool false)], args := [d1, d2] }
  | _ => none }
def RasterThinWrongFalsely : Prop := rasterThinRow.holds Try.pinned (OpenSpec.ofChange rasterThinWrong)

/-- 'fleuronlaw22.RasterParts': WHATEVER THE INPUT: true; the input reads as it did. -/
def rasterPartsSpec : ChangeSpec := { name := "rasterParts", fn := fun _ => fun
  | [d1, d2, d3] => { results := [.lit (.bool true)], args := [d1, d2, d3] }
  | _ => none }
def rasterPartsRow : OpenClaim := { program := "ytbgolbkolcmldaa", sum := "294b3daa204ee65127358c967a69cd16e8b9e650321abacf85c923c46f339dc5", func := "fleuron/fleuronlaw22.RasterParts", spec := "rasterParts", inPlace := ["internal/bytealg.MakeNoZero", "internal/bytealg.IndexByteString"], unfollowed := true, recurses := true, apart := false }
def RasterPartsSaid : Prop := rasterPartsRow.holds Try.pinned (OpenSpec.ofChange rasterPartsSpec)

/-- ITS FALSE NEIGHBOUR: 'it returns false'. Refute it at one input. -/
def rasterPartsWrong : ChangeSpec := { name := "rasterParts", fn := fun _ => fun
  | [d1, d2, d3] => { results := [.lit (.bool false)], args := [d1, d2, d3] }
  | _ => none }
def RasterPartsWrongFalsely : Prop := rasterPartsRow.holds Try.pinned (OpenSpec.ofChange rasterPartsWrong)

/-- 'fleuronlaw22.RasterWinds': WHATEVER THE INPUT: true; the input reads as it did. -/
def rasterWindsSpec : ChangeSpec := { name := "rasterWinds", fn := fun _ => fun
  | [d1, d2] => { results := [.lit (.bool true)], args := [d1, d2] }
  | _ => none }
def rasterWindsRow : OpenClaim := { program := "ytbgolbkolcmldaa", sum := "294b3daa204ee65127358c967a69cd16e8b9e650321abacf85c923c46f339dc5", func := "fleuron/fleuronlaw22.RasterWinds", spec := "rasterWinds", inPlace := ["internal/bytealg.MakeNoZero", "internal/bytealg.IndexByteString"], unfollowed := true, recurses := true, apart := false }
def RasterWindsSaid : Prop := rasterWindsRow.holds Try.pinned (OpenSpec.ofChange rasterWindsSpec)

/-- ITS FALSE NEIGHBOUR: 'it returns false'. Refute it at one input. -/
def rasterWindsWrong : ChangeSpec := { name := "rasterWinds", fn := fun _ => fun
  | [d1, d2] => { results := [.lit (.bool false)], args := [d1, d2] }
  | _ => none }
def RasterWindsWrongFalsely : Prop := rasterWindsRow.holds Try.pinned (OpenSpec.ofChange rasterWindsWrong)

/-- 'fleuronlaw22.RasterFills': WHATEVER THE INPUT: true; the input reads as it did. -/
def rasterFillsSpec : ChangeSpec := { name := "rasterFills", fn := fun _ => fun
  | [d] => { results := [.lit (.bool true)], args := [d] }
  | _ => none }
def rasterFillsRow : OpenClaim := { program := "ytbgolbkolcmldaa", sum := "294b3daa204ee65127358c967a69cd16e8b9e650321abacf85c923c46f339dc5", func := "fleuron/fleuronlaw22.RasterFills", spec := "rasterFills", inPlace := ["internal/bytealg.MakeNoZero", "internal/bytealg.IndexByteString"], unfollowed := true, recurses := true, apart := false }
def RasterFillsSaid : Prop := rasterFillsRow.holds Try.pinned (OpenSpec.ofChange rasterFillsSpec)

/-- ITS FALSE NEIGHBOUR: 'it returns false'. Refute it at one input. -/
def rasterFillsWrong : ChangeSpec := { name := "rasterFills", fn := fun _ => fun
  | [d] => { results := [.lit (.bool false)], args := [d] }
  | _ => none }
def RasterFillsWrongFalsely : Prop := rasterFillsRow.holds Try.pinned (OpenSpec.ofChange rasterFillsWrong)

/-- 'fleuronlaw22.RasterOvers': WHATEVER THE INPUT: true; the input reads as it did. -/
def rasterOversSpec : ChangeSpec := { name := "rasterOvers", fn := fun _ => fun
  | [d1, d2, d3] => { results := [.lit (.bool true)], args := [d1, d2, d3] }
  | _ => none }
def rasterOversRow : OpenClaim := { program := "ytbgolbkolcmldaa", sum := "294b3daa204ee65127358c967a69cd16e8b9e650321abacf85c923c46f339dc5", func := "fleuron/fleuronlaw22.RasterOvers", spec := "rasterOvers", inPlace := ["internal/bytealg.MakeNoZero", "internal/bytealg.IndexByteString"], unfollowed := true, recurses := true, apart := false }
def RasterOversSaid : Prop := rasterOversRow.holds Try.pinned (OpenSpec.ofChange rasterOversSpec)

/-- ITS FALSE NEIGHBOUR: 'it returns false'. Refute it at one input. -/
def rasterOversWrong : ChangeSpec := { name := "rasterOvers", fn := fun _ => fun
  | [d1, d2, d3] => { results := [.lit (.bool false)], args := [d1, d2, d3] }
  | _ => none }
def RasterOversWrongFalsely : Prop := rasterOversRow.holds Try.pinned (OpenSpec.ofChange rasterOversWrong)

/-- 'fleuronlaw22.RasterGlyphs': WHATEVER THE INPUT: true; the input reads as it did. -/
def rasterGlyphsSpec : ChangeSpec := { name := "rasterGlyphs", fn := fun _ => fun
  | [d1, d2, d3] => { results := [.lit (.bool true)], args := [d1, d2, d3] }
  | _ => none }
def rasterGlyphsRow : OpenClaim := { program := "ytbgolbkolcmldaa", sum := "294b3daa204ee65127358c967a69cd16e8b9e650321abacf85c923c46f339dc5", func := "fleuron/fleuronlaw22.RasterGlyphs", spec := "rasterGlyphs", inPlace := ["internal/bytealg.MakeNoZero", "internal/bytealg.IndexByteString"], unfollowed := true, recurses := true, apart := false }
def RasterGlyphsSaid : Prop := rasterGlyphsRow.holds Try.pinned (OpenSpec.ofChange rasterGlyphsSpec)

/-- ITS FALSE NEIGHBOUR: 'it returns false'. Refute it at one input. -/
def rasterGlyphsWrong : ChangeSpec := { name := "rasterGlyphs", fn := fun _ => fun
  | [d1, d2, d3] => { results := [.lit (.bool false)], args := [d1, d2, d3] }
  | _ => none }
def RasterGlyphsWrongFalsely : Prop := rasterGlyphsRow.holds Try.pinned (OpenSpec.ofChange rasterGlyphsWrong)

/- THE SECOND FORM. 'bulk': how many values and letters a reading holds, each counted each time it is reached (what is shared counts as often as it is met; a slice's spare places count too). A statement '..UptoSaid' is the law's where the arguments, and the package variables that the reading takes, are together of bulk at most 1048576: NARROWER than '..Said'. Prove '..Said' where nothing that the law and all that it calls make is longer than what came in: it says more and counts as full. Else prove '..UptoSaid'. A law counts once. -/
mutual
def uptoBulk {H : Type} : DataW H → Nat
  | .lit (.string bytes) => bytes.length + 1
  | .lit _ => 1
  | .nil => 1
  | .ptr d => uptoBulk d + 1
  | .slice elems spare => uptoBulkAll elems + uptoBulkAll spare + 1
  | .agg parts => uptoBulkAll parts + 1
  | .iface _ d => uptoBulk d + 1
  | .map entries => uptoBulkEntries entries + 1
  | .held _ => 1
def uptoBulkAll {H : Type} : List (DataW H) → Nat
  | [] => 0
  | d :: r => uptoBulk d + uptoBulkAll r
def uptoBulkEntries {H : Type} : List (Lit × DataW H) → Nat
  | [] => 0
  | x :: r => uptoBulkEntry x + uptoBulkEntries r
def uptoBulkEntry {H : Type} : Lit × DataW H → Nat
  | (.string bytes, d) => bytes.length + uptoBulk d + 1
  | (_, d) => uptoBulk d + 1
 end
def uptoSmall : (H : Type) → List (DataW H) → Bool := fun _ ds => decide (uptoBulkAll ds ≤ 1048576)
def OpenSpec.upto (s : _root_.Go.ChangeSpec) : _root_.Go.OpenSpec := { _root_.Go.OpenSpec.ofChange s with cond := some uptoSmall }

/-- 'fleuronlaw22.RasterExact', WHERE WHAT IT READS IS OF BULK AT MOST 1048576: true; the input reads as it did. -/
def rasterExactUptoRow : OpenClaim := { program := "ytbgolbkolcmldaa", sum := "294b3daa204ee65127358c967a69cd16e8b9e650321abacf85c923c46f339dc5", func := "fleuron/fleuronlaw22.RasterExact", spec := "rasterExact", inPlace := ["internal/bytealg.MakeNoZero", "internal/bytealg.IndexByteString"], unfollowed := true, recurses := true, apart := false, narrowed := true }
def RasterExactUptoSaid : Prop := rasterExactUptoRow.holds Try.pinned (OpenSpec.upto rasterExactSpec)

/-- 'fleuronlaw22.RasterTurns', WHERE WHAT IT READS IS OF BULK AT MOST 1048576: true; the input reads as it did. -/
def rasterTurnsUptoRow : OpenClaim := { program := "ytbgolbkolcmldaa", sum := "294b3daa204ee65127358c967a69cd16e8b9e650321abacf85c923c46f339dc5", func := "fleuron/fleuronlaw22.RasterTurns", spec := "rasterTurns", inPlace := ["internal/bytealg.MakeNoZero", "internal/bytealg.IndexByteString"], unfollowed := true, recurses := true, apart := false, narrowed := true }
def RasterTurnsUptoSaid : Prop := rasterTurnsUptoRow.holds Try.pinned (OpenSpec.upto rasterTurnsSpec)

/-- 'fleuronlaw22.RasterAgainst', WHERE WHAT IT READS IS OF BULK AT MOST 1048576: true; the input reads as it did. -/
def rasterAgainstUptoRow : OpenClaim := { program := "ytbgolbkolcmldaa", sum := "294b3daa204ee65127358c967a69cd16e8b9e650321abacf85c923c46f339dc5", func := "fleuron/fleuronlaw22.RasterAgainst", spec := "rasterAgainst", inPlace := ["internal/bytealg.MakeNoZero", "internal/bytealg.IndexByteString"], unfollowed := true, recurses := true, apart := false, narrowed := true }
def RasterAgainstUptoSaid : Prop := rasterAgainstUptoRow.holds Try.pinned (OpenSpec.upto rasterAgainstSpec)

/-- 'fleuronlaw22.RasterMoves', WHERE WHAT IT READS IS OF BULK AT MOST 1048576: true; the input reads as it did. -/
def rasterMovesUptoRow : OpenClaim := { program := "ytbgolbkolcmldaa", sum := "294b3daa204ee65127358c967a69cd16e8b9e650321abacf85c923c46f339dc5", func := "fleuron/fleuronlaw22.RasterMoves", spec := "rasterMoves", inPlace := ["internal/bytealg.MakeNoZero", "internal/bytealg.IndexByteString"], unfollowed := true, recurses := true, apart := false, narrowed := true }
def RasterMovesUptoSaid : Prop := rasterMovesUptoRow.holds Try.pinned (OpenSpec.upto rasterMovesSpec)

/-- 'fleuronlaw22.RasterApart', WHERE WHAT IT READS IS OF BULK AT MOST 1048576: true; the input reads as it did. -/
def rasterApartUptoRow : OpenClaim := { program := "ytbgolbkolcmldaa", sum := "294b3daa204ee65127358c967a69cd16e8b9e650321abacf85c923c46f339dc5", func := "fleuron/fleuronlaw22.RasterApart", spec := "rasterApart", inPlace := ["internal/bytealg.MakeNoZero", "internal/bytealg.IndexByteString"], unfollowed := true, recurses := true, apart := false, narrowed := true }
def RasterApartUptoSaid : Prop := rasterApartUptoRow.holds Try.pinned (OpenSpec.upto rasterApartSpec)

/-- 'fleuronlaw22.RasterThin', WHERE WHAT IT READS IS OF BULK AT MOST 1048576: true; the input reads as it did. -/
def rasterThinUptoRow : OpenClaim := { program := "ytbgolbkolcmldaa", sum := "294b3daa204ee65127358c967a69cd16e8b9e650321abacf85c923c46f339dc5", func := "fleuron/fleuronlaw22.RasterThin", spec := "rasterThin", inPlace := ["internal/bytealg.MakeNoZero", "internal/bytealg.IndexByteString"], unfollowed := true, recurses := true, apart := false, narrowed := true }
def RasterThinUptoSaid : Prop := rasterThinUptoRow.holds Try.pinned (OpenSpec.upto rasterThinSpec)

/-- 'fleuronlaw22.RasterParts', WHERE WHAT IT READS IS OF BULK AT MOST 1048576: true; the input reads as it did. -/
def rasterPartsUptoRow : OpenClaim := { program := "ytbgolbkolcmldaa", sum := "294b3daa204ee65127358c967a69cd16e8b9e650321abacf85c923c46f339dc5", func := "fleuron/fleuronlaw22.RasterParts", spec := "rasterParts", inPlace := ["internal/bytealg.MakeNoZero", "internal/bytealg.IndexByteString"], unfollowed := true, recurses := true, apart := false, narrowed := true }
def RasterPartsUptoSaid : Prop := rasterPartsUptoRow.holds Try.pinned (OpenSpec.upto rasterPartsSpec)

/-- 'fleuronlaw22.RasterWinds', WHERE WHAT IT READS IS OF BULK AT MOST 1048576: true; the input reads as it did. -/
def rasterWindsUptoRow : OpenClaim := { program := "ytbgolbkolcmldaa", sum := "294b3daa204ee65127358c967a69cd16e8b9e650321abacf85c923c46f339dc5", func := "fleuron/fleuronlaw22.RasterWinds", spec := "rasterWinds", inPlace := ["internal/bytealg.MakeNoZero", "internal/bytealg.IndexByteString"], unfollowed := true, recurses := true, apart := false, narrowed := true }
def RasterWindsUptoSaid : Prop := rasterWindsUptoRow.holds Try.pinned (OpenSpec.upto rasterWindsSpec)

/-- 'fleuronlaw22.RasterFills', WHERE WHAT IT READS IS OF BULK AT MOST 1048576: true; the input reads as it did. -/
def rasterFillsUptoRow : OpenClaim := { program := "ytbgolbkolcmldaa", sum := "294b3daa204ee65127358c967a69cd16e8b9e650321abacf85c923c46f339dc5", func := "fleuron/fleuronlaw22.RasterFills", spec := "rasterFills", inPlace := ["internal/bytealg.MakeNoZero", "internal/bytealg.IndexByteString"], unfollowed := true, recurses := true, apart := false, narrowed := true }
def RasterFillsUptoSaid : Prop := rasterFillsUptoRow.holds Try.pinned (OpenSpec.upto rasterFillsSpec)

/-- 'fleuronlaw22.RasterOvers', WHERE WHAT IT READS IS OF BULK AT MOST 1048576: true; the input reads as it did. -/
def rasterOversUptoRow : OpenClaim := { program := "ytbgolbkolcmldaa", sum := "294b3daa204ee65127358c967a69cd16e8b9e650321abacf85c923c46f339dc5", func := "fleuron/fleuronlaw22.RasterOvers", spec := "rasterOvers", inPlace := ["internal/bytealg.MakeNoZero", "internal/bytealg.IndexByteString"], unfollowed := true, recurses := true, apart := false, narrowed := true }
def RasterOversUptoSaid : Prop := rasterOversUptoRow.holds Try.pinned (OpenSpec.upto rasterOversSpec)

/-- 'fleuronlaw22.RasterGlyphs', WHERE WHAT IT READS IS OF BULK AT MOST 1048576: true; the input reads as it did. -/
def rasterGlyphsUptoRow : OpenClaim := { program := "ytbgolbkolcmldaa", sum := "294b3daa204ee65127358c967a69cd16e8b9e650321abacf85c923c46f339dc5", func := "fleuron/fleuronlaw22.RasterGlyphs", spec := "rasterGlyphs", inPlace := ["internal/bytealg.MakeNoZero", "internal/bytealg.IndexByteString"], unfollowed := true, recurses := true, apart := false, narrowed := true }
def RasterGlyphsUptoSaid : Prop := rasterGlyphsUptoRow.holds Try.pinned (OpenSpec.upto rasterGlyphsSpec)

end Rows
end Go.Proofs.Ytbgolbkolcmldaa
