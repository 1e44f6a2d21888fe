/-
  DERIVED. GIVEN WITH THE SEED: THE CARDS: each row of YtamjlkdanllgjaaGreatDoorRows.lean that lists a variable, with what it lists TIED to the program's text (the seventh form; the later family's looks); each row that meets fmt, with fmt's text TOLD by the authors' own Lean function (tested against real Go, not proved from fmt's source: count such statements apart). THE CARD IS WHAT COUNTS. Prove the row's statement (the work); the ties are given (YtamjlkdanllgjaaGreatDoorTie.lean); close each card by the builder's one call (the guide's Derived/Test/ToyasCard.lean, 'card_holds'). Laid BY PROGRAM, IN A SANDBOX (cutbox-door.mjs). By AI agents, Wed Nov 11 2026. No macro, syntax, notation, axiom, sorry.
-/
import Derived.Test.YtamjlkdanllgjaaGreatDoorRows
import GoSem.ClaimSeven
namespace Go.Proofs.YtamjlkdanllgjaaGreatDoor
namespace Rows

/-- THE TIED CARD OF 'fleuronlaw17.ShapePlan'. -/
def shapePlanCard : Claim7 := { stood := { row := shapePlanRow, standIns := [], harness := (true, "d6477d0fc2b9d01907f2b5a2b05686e28cee823111f8a912c6aea0033e032b87"), looks := true }, kinds := [], alts := [], laidByText := true, laidKinds := [.data], laidTests := true, laidLooks := .later }
def ShapePlanCardSaid : Prop := Claim7.holds Tryz.pinned (.plain (OpenSpec.ofChange shapePlanSpec)) shapePlanCard

/-- THE TIED CARD OF 'fleuronlaw17.ShapePlain'. -/
def shapePlainCard : Claim7 := { stood := { row := shapePlainRow, standIns := [], harness := (true, "d6477d0fc2b9d01907f2b5a2b05686e28cee823111f8a912c6aea0033e032b87"), looks := true }, kinds := [], alts := [], laidByText := true, laidKinds := [.data], laidTests := true, laidLooks := .later }
def ShapePlainCardSaid : Prop := Claim7.holds Tryz.pinned (.plain (OpenSpec.ofChange shapePlainSpec)) shapePlainCard

/-- THE TIED CARD OF 'fleuronlaw17.ShapeForms'. -/
def shapeFormsCard : Claim7 := { stood := { row := shapeFormsRow, standIns := [], harness := (true, "d6477d0fc2b9d01907f2b5a2b05686e28cee823111f8a912c6aea0033e032b87"), looks := true }, kinds := [], alts := [], laidByText := true, laidKinds := [.data], laidTests := true, laidLooks := .later }
def ShapeFormsCardSaid : Prop := Claim7.holds Tryz.pinned (.plain (OpenSpec.ofChange shapeFormsSpec)) shapeFormsCard

/-- THE TIED CARD OF 'fleuronlaw17.ShapeMany'. -/
def shapeManyCard : Claim7 := { stood := { row := shapeManyRow, standIns := [], harness := (true, "d6477d0fc2b9d01907f2b5a2b05686e28cee823111f8a912c6aea0033e032b87"), looks := true }, kinds := [], alts := [], laidByText := true, laidKinds := [.data], laidTests := true, laidLooks := .later }
def ShapeManyCardSaid : Prop := Claim7.holds Tryz.pinned (.plain (OpenSpec.ofChange shapeManySpec)) shapeManyCard

/-- THE SECOND FORM's CARD OF 'fleuronlaw17.ShapePlan'. -/
def shapePlanUptoCard : Claim7 := { stood := { row := shapePlanUptoRow, standIns := [], harness := (true, "d6477d0fc2b9d01907f2b5a2b05686e28cee823111f8a912c6aea0033e032b87"), looks := true }, kinds := [], alts := [], laidByText := true, laidKinds := [.data], laidTests := true, laidLooks := .later }
def ShapePlanUptoCardSaid : Prop := Claim7.holds Tryz.pinned (.plain (OpenSpec.upto shapePlanSpec)) shapePlanUptoCard

/-- THE SECOND FORM's CARD OF 'fleuronlaw17.ShapePlain'. -/
def shapePlainUptoCard : Claim7 := { stood := { row := shapePlainUptoRow, standIns := [], harness := (true, "d6477d0fc2b9d01907f2b5a2b05686e28cee823111f8a912c6aea0033e032b87"), looks := true }, kinds := [], alts := [], laidByText := true, laidKinds := [.data], laidTests := true, laidLooks := .later }
def ShapePlainUptoCardSaid : Prop := Claim7.holds Tryz.pinned (.plain (OpenSpec.upto shapePlainSpec)) shapePlainUptoCard

/-- THE SECOND FORM's CARD OF 'fleuronlaw17.ShapeForms'. -/
def shapeFormsUptoCard : Claim7 := { stood := { row := shapeFormsUptoRow, standIns := [], harness := (true, "d6477d0fc2b9d01907f2b5a2b05686e28cee823111f8a912c6aea0033e032b87"), looks := true }, kinds := [], alts := [], laidByText := true, laidKinds := [.data], laidTests := true, laidLooks := .later }
def ShapeFormsUptoCardSaid : Prop := Claim7.holds Tryz.pinned (.plain (OpenSpec.upto shapeFormsSpec)) shapeFormsUptoCard

/-- THE SECOND FORM's CARD OF 'fleuronlaw17.ShapeMany'. -/
def shapeManyUptoCard : Claim7 := { stood := { row := shapeManyUptoRow, standIns := [], harness := (true, "d6477d0fc2b9d01907f2b5a2b05686e28cee823111f8a912c6aea0033e032b87"), looks := true }, kinds := [], alts := [], laidByText := true, laidKinds := [.data], laidTests := true, laidLooks := .later }
def ShapeManyUptoCardSaid : Prop := Claim7.holds Tryz.pinned (.plain (OpenSpec.upto shapeManySpec)) shapeManyUptoCard
end Rows
end Go.Proofs.YtamjlkdanllgjaaGreatDoor
