/-
  No cell of these rows narrows 'for every input' (looked for: loops, veiled, ifaces, maps, wideKeys, modest, calm, conditions, laid).
  DERIVED. THE GIVEN ROWS OF THIS SEAT. 4 by the template 'for every input the law returns true; each argument reads behind the call as it read before'; 0 by the template 'total and deterministic' (their statements: YtjjpkibjffmceaaGreatTotals.lean).
  GIVEN WITH THE SEED: the statements are not yours to turn. If you find one false, say at which input.
  Laid BY PROGRAM, IN A SANDBOX (cutbox-rows.mjs): the forced cells as the released guide's own fill.sh prints them over the translation fcc22a29f1c7cdbd… (all of the seat's roots in one cut). By AI agents, Wed Nov 11 2026. No macro, syntax, notation, axiom, sorry.
-/
import Derived.Test.YtjjpkibjffmceaaGreatChecked
import GoSem.Claim
import GoSem.ClaimJoined
import GoSem.ClaimMapViews
import Derived.JoinedTies
import Derived.KernelRfl
namespace Go.Proofs.YtjjpkibjffmceaaGreat
/- THE CELL 'sum', in the pinned program and in every row, IS THE sha256 OF THE DUMP (.gsa) THAT YtjjpkibjffmceaaGreatProg.lean LOADS. Nothing in Lean hashes anything: it is a label: what it is worth is what the hold of that sum in a sandbox is worth. -/
noncomputable def Tryz.pinned : Pinned := { name := "ytjjpkibjffmceaagreat", sum := "fcc22a29f1c7cdbde82d2b12c551d9306b0a55d395b5505e6ee26ab21048649b", checked := Tryz.checked }
namespace Rows
def none {H : Type} : Left H := { results := [], args := [] }

/-- 'fleuronlaw24.SubsetCuts': WHATEVER THE INPUT: true; the input reads as it did. -/
def subsetCutsSpec : ChangeSpec := { name := "subsetCuts", fn := fun _ => fun
  | [d1, d2] => { results := [.lit (.bool true)], args := [d1, d2] }
  | _ => none }
def subsetCutsRow : OpenClaim := { program := "ytjjpkibjffmceaagreat", sum := "fcc22a29f1c7cdbde82d2b12c551d9306b0a55d395b5505e6ee26ab21048649b", func := "fleuron/fleuronlaw24.SubsetCuts", spec := "subsetCuts", unfollowed := true, recurses := true, plainKeys := false, apart := false }
def SubsetCutsSaid : Prop := subsetCutsRow.holds Tryz.pinned (OpenSpec.ofChange subsetCutsSpec)

/-- ITS FALSE NEIGHBOUR: 'it returns false'. Refute it at one input. -/
def subsetCutsWrong : ChangeSpec := { name := "subsetCuts", fn := fun _ => fun
  | [d1, d2] => { results := [.lit (.bool false)], args := [d1, d2] }
  | _ => none }
def SubsetCutsWrongFalsely : Prop := subsetCutsRow.holds Tryz.pinned (OpenSpec.ofChange subsetCutsWrong)

/-- 'fleuronlaw24.SubsetKeeps': WHATEVER THE INPUT: true; the input reads as it did. -/
def subsetKeepsSpec : ChangeSpec := { name := "subsetKeeps", fn := fun _ => fun
  | [d] => { results := [.lit (.bool true)], args := [d] }
  | _ => none }
def subsetKeepsRow : OpenClaim := { program := "ytjjpkibjffmceaagreat", sum := "fcc22a29f1c7cdbde82d2b12c551d9306b0a55d395b5505e6ee26ab21048649b", func := "fleuron/fleuronlaw24.SubsetKeeps", spec := "subsetKeeps", unfollowed := true, recurses := true, plainKeys := false, apart := false }
def SubsetKeepsSaid : Prop := subsetKeepsRow.holds Tryz.pinned (OpenSpec.ofChange subsetKeepsSpec)

/-- ITS FALSE NEIGHBOUR: 'it returns false'. Refute it at one input. -/
def subsetKeepsWrong : ChangeSpec := { name := "subsetKeeps", fn := fun _ => fun
  | [d] => { results := [.lit (.bool false)], args := [d] }
  | _ => none }
def SubsetKeepsWrongFalsely : Prop := subsetKeepsRow.holds Tryz.pinned (OpenSpec.ofChange subsetKeepsWrong)

/-- 'fleuronlaw24.SubsetMore': WHATEVER THE INPUT: true; the input reads as it did. -/
def subsetMoreSpec : ChangeSpec := { name := "subsetMore", fn := fun _ => fun
  | [d1, d2, d3] => { results := [.lit (.bool true)], args := [d1, d2, d3] }
  | _ => none }
def subsetMoreRow : OpenClaim := { program := "ytjjpkibjffmceaagreat", sum := "fcc22a29f1c7cdbde82d2b12c551d9306b0a55d395b5505e6ee26ab21048649b", func := "fleuron/fleuronlaw24.SubsetMore", spec := "subsetMore", unfollowed := true, recurses := true, plainKeys := false, apart := false }
def SubsetMoreSaid : Prop := subsetMoreRow.holds Tryz.pinned (OpenSpec.ofChange subsetMoreSpec)

/-- ITS FALSE NEIGHBOUR: 'it returns false'. Refute it at one input. -/
def subsetMoreWrong : ChangeSpec := { name := "subsetMore", fn := fun _ => fun
  | [d1, d2, d3] => { results := [.lit (.bool false)], args := [d1, d2, d3] }
  | _ => none }
def SubsetMoreWrongFalsely : Prop := subsetMoreRow.holds Tryz.pinned (OpenSpec.ofChange subsetMoreWrong)

/-- 'fleuronlaw24.SubsetOwn': WHATEVER THE INPUT: true; the input reads as it did. -/
def subsetOwnSpec : ChangeSpec := { name := "subsetOwn", fn := fun _ => fun
  | [d] => { results := [.lit (.bool true)], args := [d] }
  | _ => none }
def subsetOwnRow : OpenClaim := { program := "ytjjpkibjffmceaagreat", sum := "fcc22a29f1c7cdbde82d2b12c551d9306b0a55d395b5505e6ee26ab21048649b", func := "fleuron/fleuronlaw24.SubsetOwn", spec := "subsetOwn", unfollowed := true, recurses := true, plainKeys := false, apart := false }
def SubsetOwnSaid : Prop := subsetOwnRow.holds Tryz.pinned (OpenSpec.ofChange subsetOwnSpec)

/-- ITS FALSE NEIGHBOUR: 'it returns false'. Refute it at one input. -/
def subsetOwnWrong : ChangeSpec := { name := "subsetOwn", fn := fun _ => fun
  | [d] => { results := [.lit (.bool false)], args := [d] }
  | _ => none }
def SubsetOwnWrongFalsely : Prop := subsetOwnRow.holds Tryz.pinned (OpenSpec.ofChange subsetOwnWrong)

/- THE SECOND FORM. 'bulk': how many values and letters a reading holds, each counted each time it is reached (what is shared counts as often as it is met; a slice's spare places count too). A statement '..UptoSaid' is the law's where the arguments, and the package variables that the reading takes, are together of bulk at most 1048576: NARROWER than '..Said'. Prove '..Said' where nothing that the law and all that it calls make is longer than what came in: it says more and counts as full. Else prove '..UptoSaid'. A law counts once. -/
mutual
def uptoBulk {H : Type} : DataW H → Nat
  | .lit (.string bytes) => bytes.length + 1
  | .lit _ => 1
  | .nil => 1
  | .ptr d => uptoBulk d + 1
  | .slice elems spare => uptoBulkAll elems + uptoBulkAll spare + 1
  | .agg parts => uptoBulkAll parts + 1
  | .iface _ d => uptoBulk d + 1
  | .map entries => uptoBulkEntries entries + 1
  | .held _ => 1
def uptoBulkAll {H : Type} : List (DataW H) → Nat
  | [] => 0
  | d :: r => uptoBulk d + uptoBulkAll r
def uptoBulkEntries {H : Type} : List (Lit × DataW H) → Nat
  | [] => 0
  | x :: r => uptoBulkEntry x + uptoBulkEntries r
def uptoBulkEntry {H : Type} : Lit × DataW H → Nat
  | (.string bytes, d) => bytes.length + uptoBulk d + 1
  | (_, d) => uptoBulk d + 1
 end
def uptoSmall : (H : Type) → List (DataW H) → Bool := fun _ ds => decide (uptoBulkAll ds ≤ 1048576)
def OpenSpec.upto (s : _root_.Go.ChangeSpec) : _root_.Go.OpenSpec := { _root_.Go.OpenSpec.ofChange s with cond := some uptoSmall }

/-- 'fleuronlaw24.SubsetCuts', WHERE WHAT IT READS IS OF BULK AT MOST 1048576: true; the input reads as it did. -/
def subsetCutsUptoRow : OpenClaim := { program := "ytjjpkibjffmceaagreat", sum := "fcc22a29f1c7cdbde82d2b12c551d9306b0a55d395b5505e6ee26ab21048649b", func := "fleuron/fleuronlaw24.SubsetCuts", spec := "subsetCuts", unfollowed := true, recurses := true, plainKeys := false, apart := false, narrowed := true }
def SubsetCutsUptoSaid : Prop := subsetCutsUptoRow.holds Tryz.pinned (OpenSpec.upto subsetCutsSpec)

/-- 'fleuronlaw24.SubsetKeeps', WHERE WHAT IT READS IS OF BULK AT MOST 1048576: true; the input reads as it did. -/
def subsetKeepsUptoRow : OpenClaim := { program := "ytjjpkibjffmceaagreat", sum := "fcc22a29f1c7cdbde82d2b12c551d9306b0a55d395b5505e6ee26ab21048649b", func := "fleuron/fleuronlaw24.SubsetKeeps", spec := "subsetKeeps", unfollowed := true, recurses := true, plainKeys := false, apart := false, narrowed := true }
def SubsetKeepsUptoSaid : Prop := subsetKeepsUptoRow.holds Tryz.pinned (OpenSpec.upto subsetKeepsSpec)

/-- 'fleuronlaw24.SubsetMore', WHERE WHAT IT READS IS OF BULK AT MOST 1048576: true; the input reads as it did. -/
def subsetMoreUptoRow : OpenClaim := { program := "ytjjpkibjffmceaagreat", sum := "fcc22a29f1c7cdbde82d2b12c551d9306b0a55d395b5505e6ee26ab21048649b", func := "fleuron/fleuronlaw24.SubsetMore", spec := "subsetMore", unfollowed := true, recurses := true, plainKeys := false, apart := false, narrowed := true }
def SubsetMoreUptoSaid : Prop := subsetMoreUptoRow.holds Tryz.pinned (OpenSpec.upto subsetMoreSpec)

/-- 'fleuronlaw24.SubsetOwn', WHERE WHAT IT READS IS OF BULK AT MOST 1048576: true; the input reads as it did. -/
def subsetOwnUptoRow : OpenClaim := { program := "ytjjpkibjffmceaagreat", sum := "fcc22a29f1c7cdbde82d2b12c551d9306b0a55d395b5505e6ee26ab21048649b", func := "fleuron/fleuronlaw24.SubsetOwn", spec := "subsetOwn", unfollowed := true, recurses := true, plainKeys := false, apart := false, narrowed := true }
def SubsetOwnUptoSaid : Prop := subsetOwnUptoRow.holds Tryz.pinned (OpenSpec.upto subsetOwnSpec)

end Rows
end Go.Proofs.YtjjpkibjffmceaaGreat
