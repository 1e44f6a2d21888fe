/-
  DERIVED. GIVEN WITH THE SEED: THE CARDS: each row of YtpmdfoaadejmkaaGreatDoorRows.lean that lists a variable, with what it lists TIED to the program's text (the seventh form; the later family's looks); each row that meets fmt, with fmt's text TOLD by the authors' own Lean function (tested against real Go, not proved from fmt's source: count such statements apart). THE CARD IS WHAT COUNTS. Prove the row's statement (the work); the ties are given (YtpmdfoaadejmkaaGreatDoorTie.lean); close each card by the builder's one call (the guide's Derived/Test/ToyasCard.lean, 'card_holds'). Laid BY PROGRAM, IN A SANDBOX (cutbox-door.mjs). By AI agents, Wed Nov 11 2026. No macro, syntax, notation, axiom, sorry.
-/
import Derived.Test.YtpmdfoaadejmkaaGreatDoorRows
import GoSem.ClaimSeven
namespace Go.Proofs.YtpmdfoaadejmkaaGreatDoor
namespace Rows

/-- THE TIED CARD OF 'fleuronlaw13.SubstituteApplies'. -/
def substituteAppliesCard : Claim7 := { stood := { row := substituteAppliesRow, standIns := [], harness := (true, "363838ecb946b1f0f28ec67dc7b1e1d9e403a630687aa1b039805c64830a6d31"), looks := true }, kinds := [], alts := [], laidByText := true, laidKinds := [.data], laidTests := true, laidLooks := .later }
def SubstituteAppliesCardSaid : Prop := Claim7.holds Tryz.pinned (.plain (OpenSpec.ofChange substituteAppliesSpec)) substituteAppliesCard

/-- THE TIED CARD OF 'fleuronlaw13.SubstituteRuns'. -/
def substituteRunsCard : Claim7 := { stood := { row := substituteRunsRow, standIns := [], harness := (true, "363838ecb946b1f0f28ec67dc7b1e1d9e403a630687aa1b039805c64830a6d31"), looks := true }, kinds := [], alts := [], laidByText := true, laidKinds := [.data], laidTests := true, laidLooks := .later }
def SubstituteRunsCardSaid : Prop := Claim7.holds Tryz.pinned (.plain (OpenSpec.ofChange substituteRunsSpec)) substituteRunsCard

/-- THE TIED CARD OF 'fleuronlaw13.SubstituteNew'. -/
def substituteNewCard : Claim7 := { stood := { row := substituteNewRow, standIns := [], harness := (true, "363838ecb946b1f0f28ec67dc7b1e1d9e403a630687aa1b039805c64830a6d31"), looks := true }, kinds := [], alts := [], laidByText := true, laidKinds := [.data], laidTests := true, laidLooks := .later }
def SubstituteNewCardSaid : Prop := Claim7.holds Tryz.pinned (.plain (OpenSpec.ofChange substituteNewSpec)) substituteNewCard

/-- THE TIED CARD OF 'fleuronlaw13.SubstituteOwn'. -/
def substituteOwnCard : Claim7 := { stood := { row := substituteOwnRow, standIns := [], harness := (true, "363838ecb946b1f0f28ec67dc7b1e1d9e403a630687aa1b039805c64830a6d31"), looks := true }, kinds := [], alts := [], laidByText := true, laidKinds := [.data], laidTests := true, laidLooks := .later }
def SubstituteOwnCardSaid : Prop := Claim7.holds Tryz.pinned (.plain (OpenSpec.ofChange substituteOwnSpec)) substituteOwnCard

/-- THE TIED CARD OF 'fleuronlaw13.SubstituteStays'. -/
def substituteStaysCard : Claim7 := { stood := { row := substituteStaysRow, standIns := [], harness := (true, "363838ecb946b1f0f28ec67dc7b1e1d9e403a630687aa1b039805c64830a6d31"), looks := true }, kinds := [], alts := [], laidByText := true, laidKinds := [.data], laidTests := true, laidLooks := .later }
def SubstituteStaysCardSaid : Prop := Claim7.holds Tryz.pinned (.plain (OpenSpec.ofChange substituteStaysSpec)) substituteStaysCard

/-- THE TIED CARD OF 'fleuronlaw13.SubstituteLonger'. -/
def substituteLongerCard : Claim7 := { stood := { row := substituteLongerRow, standIns := [], harness := (true, "363838ecb946b1f0f28ec67dc7b1e1d9e403a630687aa1b039805c64830a6d31"), looks := true }, kinds := [], alts := [], laidByText := true, laidKinds := [.data], laidTests := true, laidLooks := .later }
def SubstituteLongerCardSaid : Prop := Claim7.holds Tryz.pinned (.plain (OpenSpec.ofChange substituteLongerSpec)) substituteLongerCard

/-- THE TIED CARD OF 'fleuronlaw13.SubstituteMarks'. -/
def substituteMarksCard : Claim7 := { stood := { row := substituteMarksRow, standIns := [], harness := (true, "363838ecb946b1f0f28ec67dc7b1e1d9e403a630687aa1b039805c64830a6d31"), looks := true }, kinds := [], alts := [], laidByText := true, laidKinds := [.data], laidTests := true, laidLooks := .later }
def SubstituteMarksCardSaid : Prop := Claim7.holds Tryz.pinned (.plain (OpenSpec.ofChange substituteMarksSpec)) substituteMarksCard

/-- THE TIED CARD OF 'fleuronlaw13.SubstituteCalls'. -/
def substituteCallsCard : Claim7 := { stood := { row := substituteCallsRow, standIns := [], harness := (true, "363838ecb946b1f0f28ec67dc7b1e1d9e403a630687aa1b039805c64830a6d31"), looks := true }, kinds := [], alts := [], laidByText := true, laidKinds := [.data], laidTests := true, laidLooks := .later }
def SubstituteCallsCardSaid : Prop := Claim7.holds Tryz.pinned (.plain (OpenSpec.ofChange substituteCallsSpec)) substituteCallsCard

/-- THE TIED CARD OF 'fleuronlaw13.SubstituteReverse'. -/
def substituteReverseCard : Claim7 := { stood := { row := substituteReverseRow, standIns := [], harness := (true, "363838ecb946b1f0f28ec67dc7b1e1d9e403a630687aa1b039805c64830a6d31"), looks := true }, kinds := [], alts := [], laidByText := true, laidKinds := [.data], laidTests := true, laidLooks := .later }
def SubstituteReverseCardSaid : Prop := Claim7.holds Tryz.pinned (.plain (OpenSpec.ofChange substituteReverseSpec)) substituteReverseCard

/-- THE TIED CARD OF 'fleuronlaw13.SubstituteRules'. -/
def substituteRulesCard : Claim7 := { stood := { row := substituteRulesRow, standIns := [], harness := (true, "363838ecb946b1f0f28ec67dc7b1e1d9e403a630687aa1b039805c64830a6d31"), looks := true }, kinds := [], alts := [], laidByText := true, laidKinds := [.data], laidTests := true, laidLooks := .later }
def SubstituteRulesCardSaid : Prop := Claim7.holds Tryz.pinned (.plain (OpenSpec.ofChange substituteRulesSpec)) substituteRulesCard

/-- THE SECOND FORM's CARD OF 'fleuronlaw13.SubstituteApplies'. -/
def substituteAppliesUptoCard : Claim7 := { stood := { row := substituteAppliesUptoRow, standIns := [], harness := (true, "363838ecb946b1f0f28ec67dc7b1e1d9e403a630687aa1b039805c64830a6d31"), looks := true }, kinds := [], alts := [], laidByText := true, laidKinds := [.data], laidTests := true, laidLooks := .later }
def SubstituteAppliesUptoCardSaid : Prop := Claim7.holds Tryz.pinned (.plain (OpenSpec.upto substituteAppliesSpec)) substituteAppliesUptoCard

/-- THE SECOND FORM's CARD OF 'fleuronlaw13.SubstituteRuns'. -/
def substituteRunsUptoCard : Claim7 := { stood := { row := substituteRunsUptoRow, standIns := [], harness := (true, "363838ecb946b1f0f28ec67dc7b1e1d9e403a630687aa1b039805c64830a6d31"), looks := true }, kinds := [], alts := [], laidByText := true, laidKinds := [.data], laidTests := true, laidLooks := .later }
def SubstituteRunsUptoCardSaid : Prop := Claim7.holds Tryz.pinned (.plain (OpenSpec.upto substituteRunsSpec)) substituteRunsUptoCard

/-- THE SECOND FORM's CARD OF 'fleuronlaw13.SubstituteNew'. -/
def substituteNewUptoCard : Claim7 := { stood := { row := substituteNewUptoRow, standIns := [], harness := (true, "363838ecb946b1f0f28ec67dc7b1e1d9e403a630687aa1b039805c64830a6d31"), looks := true }, kinds := [], alts := [], laidByText := true, laidKinds := [.data], laidTests := true, laidLooks := .later }
def SubstituteNewUptoCardSaid : Prop := Claim7.holds Tryz.pinned (.plain (OpenSpec.upto substituteNewSpec)) substituteNewUptoCard

/-- THE SECOND FORM's CARD OF 'fleuronlaw13.SubstituteOwn'. -/
def substituteOwnUptoCard : Claim7 := { stood := { row := substituteOwnUptoRow, standIns := [], harness := (true, "363838ecb946b1f0f28ec67dc7b1e1d9e403a630687aa1b039805c64830a6d31"), looks := true }, kinds := [], alts := [], laidByText := true, laidKinds := [.data], laidTests := true, laidLooks := .later }
def SubstituteOwnUptoCardSaid : Prop := Claim7.holds Tryz.pinned (.plain (OpenSpec.upto substituteOwnSpec)) substituteOwnUptoCard

/-- THE SECOND FORM's CARD OF 'fleuronlaw13.SubstituteStays'. -/
def substituteStaysUptoCard : Claim7 := { stood := { row := substituteStaysUptoRow, standIns := [], harness := (true, "363838ecb946b1f0f28ec67dc7b1e1d9e403a630687aa1b039805c64830a6d31"), looks := true }, kinds := [], alts := [], laidByText := true, laidKinds := [.data], laidTests := true, laidLooks := .later }
def SubstituteStaysUptoCardSaid : Prop := Claim7.holds Tryz.pinned (.plain (OpenSpec.upto substituteStaysSpec)) substituteStaysUptoCard

/-- THE SECOND FORM's CARD OF 'fleuronlaw13.SubstituteLonger'. -/
def substituteLongerUptoCard : Claim7 := { stood := { row := substituteLongerUptoRow, standIns := [], harness := (true, "363838ecb946b1f0f28ec67dc7b1e1d9e403a630687aa1b039805c64830a6d31"), looks := true }, kinds := [], alts := [], laidByText := true, laidKinds := [.data], laidTests := true, laidLooks := .later }
def SubstituteLongerUptoCardSaid : Prop := Claim7.holds Tryz.pinned (.plain (OpenSpec.upto substituteLongerSpec)) substituteLongerUptoCard

/-- THE SECOND FORM's CARD OF 'fleuronlaw13.SubstituteMarks'. -/
def substituteMarksUptoCard : Claim7 := { stood := { row := substituteMarksUptoRow, standIns := [], harness := (true, "363838ecb946b1f0f28ec67dc7b1e1d9e403a630687aa1b039805c64830a6d31"), looks := true }, kinds := [], alts := [], laidByText := true, laidKinds := [.data], laidTests := true, laidLooks := .later }
def SubstituteMarksUptoCardSaid : Prop := Claim7.holds Tryz.pinned (.plain (OpenSpec.upto substituteMarksSpec)) substituteMarksUptoCard

/-- THE SECOND FORM's CARD OF 'fleuronlaw13.SubstituteCalls'. -/
def substituteCallsUptoCard : Claim7 := { stood := { row := substituteCallsUptoRow, standIns := [], harness := (true, "363838ecb946b1f0f28ec67dc7b1e1d9e403a630687aa1b039805c64830a6d31"), looks := true }, kinds := [], alts := [], laidByText := true, laidKinds := [.data], laidTests := true, laidLooks := .later }
def SubstituteCallsUptoCardSaid : Prop := Claim7.holds Tryz.pinned (.plain (OpenSpec.upto substituteCallsSpec)) substituteCallsUptoCard

/-- THE SECOND FORM's CARD OF 'fleuronlaw13.SubstituteReverse'. -/
def substituteReverseUptoCard : Claim7 := { stood := { row := substituteReverseUptoRow, standIns := [], harness := (true, "363838ecb946b1f0f28ec67dc7b1e1d9e403a630687aa1b039805c64830a6d31"), looks := true }, kinds := [], alts := [], laidByText := true, laidKinds := [.data], laidTests := true, laidLooks := .later }
def SubstituteReverseUptoCardSaid : Prop := Claim7.holds Tryz.pinned (.plain (OpenSpec.upto substituteReverseSpec)) substituteReverseUptoCard

/-- THE SECOND FORM's CARD OF 'fleuronlaw13.SubstituteRules'. -/
def substituteRulesUptoCard : Claim7 := { stood := { row := substituteRulesUptoRow, standIns := [], harness := (true, "363838ecb946b1f0f28ec67dc7b1e1d9e403a630687aa1b039805c64830a6d31"), looks := true }, kinds := [], alts := [], laidByText := true, laidKinds := [.data], laidTests := true, laidLooks := .later }
def SubstituteRulesUptoCardSaid : Prop := Claim7.holds Tryz.pinned (.plain (OpenSpec.upto substituteRulesSpec)) substituteRulesUptoCard
end Rows
end Go.Proofs.YtpmdfoaadejmkaaGreatDoor
