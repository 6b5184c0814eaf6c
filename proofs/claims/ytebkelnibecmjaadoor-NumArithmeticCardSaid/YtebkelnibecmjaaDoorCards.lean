/-
  DERIVED. GIVEN WITH THE SEED: THE CARDS: each row of YtebkelnibecmjaaDoorRows.lean that lists a variable, with what it lists TIED to the program's text (the seventh form; the later family's looks); each row that meets fmt, with fmt's text TOLD by the authors' own Lean function (tested against real Go, not proved from fmt's source: count such statements apart). THE CARD IS WHAT COUNTS. Prove the row's statement (the work); the ties are given (YtebkelnibecmjaaDoorTie.lean); close each card by the builder's one call (the guide's Derived/Test/ToyasCard.lean, 'card_holds'). Laid BY PROGRAM, IN A SANDBOX (cutbox-door.mjs). By AI agents, Wed Nov 11 2026. No macro, syntax, notation, axiom, sorry.
-/
import Derived.Test.YtebkelnibecmjaaDoorRows
import GoSem.ClaimSeven
namespace Go.Proofs.YtebkelnibecmjaaDoor
namespace Rows

/-- THE TIED CARD OF 'quadratrixlaw01.NumValues'. -/
def numValuesCard : Claim7 := { stood := { row := numValuesRow, standIns := [], harness := (true, "27aea8d7090be1134d9ce05aadd32c3a854616645824f9b010035319c13a8603"), looks := false }, kinds := [], alts := [], laidByText := true, laidKinds := [.data, .data, .data], laidTests := true, laidLooks := .later }
def NumValuesCardSaid : Prop := Claim7.holds Tryd.pinned (.plain (OpenSpec.ofChange numValuesSpec)) numValuesCard

/-- THE TIED CARD OF 'quadratrixlaw01.NumArithmetic'. -/
def numArithmeticCard : Claim7 := { stood := { row := numArithmeticRow, standIns := [], harness := (true, "27aea8d7090be1134d9ce05aadd32c3a854616645824f9b010035319c13a8603"), looks := false }, kinds := [], alts := [], laidByText := true, laidKinds := [.data, .data, .data], laidTests := true, laidLooks := .later }
def NumArithmeticCardSaid : Prop := Claim7.holds Tryd.pinned (.plain (OpenSpec.ofChange numArithmeticSpec)) numArithmeticCard

/-- THE TIED CARD OF 'quadratrixlaw01.NumPowers'. -/
def numPowersCard : Claim7 := { stood := { row := numPowersRow, standIns := [], harness := (true, "27aea8d7090be1134d9ce05aadd32c3a854616645824f9b010035319c13a8603"), looks := false }, kinds := [], alts := [], laidByText := true, laidKinds := [.data, .data, .data], laidTests := true, laidLooks := .later }
def NumPowersCardSaid : Prop := Claim7.holds Tryd.pinned (.plain (OpenSpec.ofChange numPowersSpec)) numPowersCard

/-- THE TIED CARD OF 'quadratrixlaw01.NumTexts'. -/
def numTextsCard : Claim7 := { stood := { row := numTextsRow, standIns := [], harness := (true, "27aea8d7090be1134d9ce05aadd32c3a854616645824f9b010035319c13a8603"), looks := false }, kinds := [], alts := [], laidByText := true, laidKinds := [.data, .data, .data], laidTests := true, laidLooks := .later }
def NumTextsCardSaid : Prop := Claim7.holds Tryd.pinned (.plain (OpenSpec.ofChange numTextsSpec)) numTextsCard

/-- THE TIED CARD OF 'quadratrixlaw01.NumRing'. -/
def numRingCard : Claim7 := { stood := { row := numRingRow, standIns := [], harness := (true, "27aea8d7090be1134d9ce05aadd32c3a854616645824f9b010035319c13a8603"), looks := false }, kinds := [], alts := [], laidByText := true, laidKinds := [.data, .data, .data], laidTests := true, laidLooks := .later }
def NumRingCardSaid : Prop := Claim7.holds Tryd.pinned (.plain (OpenSpec.ofChange numRingSpec)) numRingCard

/-- THE TIED CARD OF 'quadratrixlaw01.NumDivision'. -/
def numDivisionCard : Claim7 := { stood := { row := numDivisionRow, standIns := [], harness := (true, "27aea8d7090be1134d9ce05aadd32c3a854616645824f9b010035319c13a8603"), looks := false }, kinds := [], alts := [], laidByText := true, laidKinds := [.data, .data, .data], laidTests := true, laidLooks := .later }
def NumDivisionCardSaid : Prop := Claim7.holds Tryd.pinned (.plain (OpenSpec.ofChange numDivisionSpec)) numDivisionCard

/-- THE TIED CARD OF 'quadratrixlaw01.NumBezout'. -/
def numBezoutCard : Claim7 := { stood := { row := numBezoutRow, standIns := [], harness := (true, "27aea8d7090be1134d9ce05aadd32c3a854616645824f9b010035319c13a8603"), looks := false }, kinds := [], alts := [], laidByText := true, laidKinds := [.data, .data, .data], laidTests := true, laidLooks := .later }
def NumBezoutCardSaid : Prop := Claim7.holds Tryd.pinned (.plain (OpenSpec.ofChange numBezoutSpec)) numBezoutCard

/-- THE TIED CARD OF 'quadratrixlaw01.NumBack'. -/
def numBackCard : Claim7 := { stood := { row := numBackRow, standIns := [], harness := (true, "27aea8d7090be1134d9ce05aadd32c3a854616645824f9b010035319c13a8603"), looks := false }, kinds := [], alts := [], laidByText := true, laidKinds := [.data, .data, .data], laidTests := true, laidLooks := .later }
def NumBackCardSaid : Prop := Claim7.holds Tryd.pinned (.plain (OpenSpec.ofChange numBackSpec)) numBackCard

/-- THE TIED CARD OF 'quadratrixlaw01.NumStays'. -/
def numStaysCard : Claim7 := { stood := { row := numStaysRow, standIns := [], harness := (true, "27aea8d7090be1134d9ce05aadd32c3a854616645824f9b010035319c13a8603"), looks := false }, kinds := [], alts := [], laidByText := true, laidKinds := [.data, .data, .data], laidTests := true, laidLooks := .later }
def NumStaysCardSaid : Prop := Claim7.holds Tryd.pinned (.plain (OpenSpec.ofChange numStaysSpec)) numStaysCard

/-- THE SECOND FORM's CARD OF 'quadratrixlaw01.NumValues'. -/
def numValuesUptoCard : Claim7 := { stood := { row := numValuesUptoRow, standIns := [], harness := (true, "27aea8d7090be1134d9ce05aadd32c3a854616645824f9b010035319c13a8603"), looks := false }, kinds := [], alts := [], laidByText := true, laidKinds := [.data, .data, .data], laidTests := true, laidLooks := .later }
def NumValuesUptoCardSaid : Prop := Claim7.holds Tryd.pinned (.plain (OpenSpec.upto numValuesSpec)) numValuesUptoCard

/-- THE SECOND FORM's CARD OF 'quadratrixlaw01.NumArithmetic'. -/
def numArithmeticUptoCard : Claim7 := { stood := { row := numArithmeticUptoRow, standIns := [], harness := (true, "27aea8d7090be1134d9ce05aadd32c3a854616645824f9b010035319c13a8603"), looks := false }, kinds := [], alts := [], laidByText := true, laidKinds := [.data, .data, .data], laidTests := true, laidLooks := .later }
def NumArithmeticUptoCardSaid : Prop := Claim7.holds Tryd.pinned (.plain (OpenSpec.upto numArithmeticSpec)) numArithmeticUptoCard

/-- THE SECOND FORM's CARD OF 'quadratrixlaw01.NumPowers'. -/
def numPowersUptoCard : Claim7 := { stood := { row := numPowersUptoRow, standIns := [], harness := (true, "27aea8d7090be1134d9ce05aadd32c3a854616645824f9b010035319c13a8603"), looks := false }, kinds := [], alts := [], laidByText := true, laidKinds := [.data, .data, .data], laidTests := true, laidLooks := .later }
def NumPowersUptoCardSaid : Prop := Claim7.holds Tryd.pinned (.plain (OpenSpec.upto numPowersSpec)) numPowersUptoCard

/-- THE SECOND FORM's CARD OF 'quadratrixlaw01.NumTexts'. -/
def numTextsUptoCard : Claim7 := { stood := { row := numTextsUptoRow, standIns := [], harness := (true, "27aea8d7090be1134d9ce05aadd32c3a854616645824f9b010035319c13a8603"), looks := false }, kinds := [], alts := [], laidByText := true, laidKinds := [.data, .data, .data], laidTests := true, laidLooks := .later }
def NumTextsUptoCardSaid : Prop := Claim7.holds Tryd.pinned (.plain (OpenSpec.upto numTextsSpec)) numTextsUptoCard

/-- THE SECOND FORM's CARD OF 'quadratrixlaw01.NumRing'. -/
def numRingUptoCard : Claim7 := { stood := { row := numRingUptoRow, standIns := [], harness := (true, "27aea8d7090be1134d9ce05aadd32c3a854616645824f9b010035319c13a8603"), looks := false }, kinds := [], alts := [], laidByText := true, laidKinds := [.data, .data, .data], laidTests := true, laidLooks := .later }
def NumRingUptoCardSaid : Prop := Claim7.holds Tryd.pinned (.plain (OpenSpec.upto numRingSpec)) numRingUptoCard

/-- THE SECOND FORM's CARD OF 'quadratrixlaw01.NumDivision'. -/
def numDivisionUptoCard : Claim7 := { stood := { row := numDivisionUptoRow, standIns := [], harness := (true, "27aea8d7090be1134d9ce05aadd32c3a854616645824f9b010035319c13a8603"), looks := false }, kinds := [], alts := [], laidByText := true, laidKinds := [.data, .data, .data], laidTests := true, laidLooks := .later }
def NumDivisionUptoCardSaid : Prop := Claim7.holds Tryd.pinned (.plain (OpenSpec.upto numDivisionSpec)) numDivisionUptoCard

/-- THE SECOND FORM's CARD OF 'quadratrixlaw01.NumBezout'. -/
def numBezoutUptoCard : Claim7 := { stood := { row := numBezoutUptoRow, standIns := [], harness := (true, "27aea8d7090be1134d9ce05aadd32c3a854616645824f9b010035319c13a8603"), looks := false }, kinds := [], alts := [], laidByText := true, laidKinds := [.data, .data, .data], laidTests := true, laidLooks := .later }
def NumBezoutUptoCardSaid : Prop := Claim7.holds Tryd.pinned (.plain (OpenSpec.upto numBezoutSpec)) numBezoutUptoCard

/-- THE SECOND FORM's CARD OF 'quadratrixlaw01.NumBack'. -/
def numBackUptoCard : Claim7 := { stood := { row := numBackUptoRow, standIns := [], harness := (true, "27aea8d7090be1134d9ce05aadd32c3a854616645824f9b010035319c13a8603"), looks := false }, kinds := [], alts := [], laidByText := true, laidKinds := [.data, .data, .data], laidTests := true, laidLooks := .later }
def NumBackUptoCardSaid : Prop := Claim7.holds Tryd.pinned (.plain (OpenSpec.upto numBackSpec)) numBackUptoCard

/-- THE SECOND FORM's CARD OF 'quadratrixlaw01.NumStays'. -/
def numStaysUptoCard : Claim7 := { stood := { row := numStaysUptoRow, standIns := [], harness := (true, "27aea8d7090be1134d9ce05aadd32c3a854616645824f9b010035319c13a8603"), looks := false }, kinds := [], alts := [], laidByText := true, laidKinds := [.data, .data, .data], laidTests := true, laidLooks := .later }
def NumStaysUptoCardSaid : Prop := Claim7.holds Tryd.pinned (.plain (OpenSpec.upto numStaysSpec)) numStaysUptoCard
end Rows
end Go.Proofs.YtebkelnibecmjaaDoor
