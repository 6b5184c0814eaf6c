/-
  DERIVED. GIVEN WITH THE SEED: THE CARDS: each row of YtcifhkfpmhifaaaGreatDoorRows.lean that lists a variable, with what it lists TIED to the program's text (the seventh form; the later family's looks); each row that meets fmt, with fmt's text TOLD by the authors' own Lean function (tested against real Go, not proved from fmt's source: count such statements apart). THE CARD IS WHAT COUNTS. Prove the row's statement (the work); the ties are given (YtcifhkfpmhifaaaGreatDoorTie.lean); close each card by the builder's one call (the guide's Derived/Test/ToyasCard.lean, 'card_holds'). Laid BY PROGRAM, IN A SANDBOX (cutbox-door.mjs). By AI agents, Wed Nov 11 2026. No macro, syntax, notation, axiom, sorry.
-/
import Derived.Test.YtcifhkfpmhifaaaGreatDoorRows
import GoSem.ClaimSeven
namespace Go.Proofs.YtcifhkfpmhifaaaGreatDoor
namespace Rows

/-- THE TIED CARD OF 'quadratrixlaw02.RatMakes'. -/
def ratMakesCard : Claim7 := { stood := { row := ratMakesRow, standIns := [], harness := (true, "a9d8ce7a47db24a7e406aed83ae7e20c80eabda49bb830414608f8c8fc685146"), looks := true }, kinds := [], alts := [], laidByText := true, laidKinds := [.data, .data, .data], laidTests := true, laidLooks := .later }
def RatMakesCardSaid : Prop := Claim7.holds Tryz.pinned (.plain (OpenSpec.ofChange ratMakesSpec)) ratMakesCard

/-- THE TIED CARD OF 'quadratrixlaw02.RatComputes'. -/
def ratComputesCard : Claim7 := { stood := { row := ratComputesRow, standIns := [], harness := (true, "a9d8ce7a47db24a7e406aed83ae7e20c80eabda49bb830414608f8c8fc685146"), looks := true }, kinds := [], alts := [], laidByText := true, laidKinds := [.data, .data, .data], laidTests := true, laidLooks := .later }
def RatComputesCardSaid : Prop := Claim7.holds Tryz.pinned (.plain (OpenSpec.ofChange ratComputesSpec)) ratComputesCard

/-- THE TIED CARD OF 'quadratrixlaw02.RatCommon'. -/
def ratCommonCard : Claim7 := { stood := { row := ratCommonRow, standIns := [], harness := (true, "a9d8ce7a47db24a7e406aed83ae7e20c80eabda49bb830414608f8c8fc685146"), looks := true }, kinds := [], alts := [], laidByText := true, laidKinds := [.data, .data, .data], laidTests := true, laidLooks := .later }
def RatCommonCardSaid : Prop := Claim7.holds Tryz.pinned (.plain (OpenSpec.ofChange ratCommonSpec)) ratCommonCard

/-- THE TIED CARD OF 'quadratrixlaw02.RatSimplest'. -/
def ratSimplestCard : Claim7 := { stood := { row := ratSimplestRow, standIns := [], harness := (true, "a9d8ce7a47db24a7e406aed83ae7e20c80eabda49bb830414608f8c8fc685146"), looks := true }, kinds := [], alts := [], laidByText := true, laidKinds := [.data, .data, .data], laidTests := true, laidLooks := .later }
def RatSimplestCardSaid : Prop := Claim7.holds Tryz.pinned (.plain (OpenSpec.ofChange ratSimplestSpec)) ratSimplestCard

/-- THE TIED CARD OF 'quadratrixlaw02.RatField'. -/
def ratFieldCard : Claim7 := { stood := { row := ratFieldRow, standIns := [], harness := (true, "a9d8ce7a47db24a7e406aed83ae7e20c80eabda49bb830414608f8c8fc685146"), looks := true }, kinds := [], alts := [], laidByText := true, laidKinds := [.data, .data, .data], laidTests := true, laidLooks := .later }
def RatFieldCardSaid : Prop := Claim7.holds Tryz.pinned (.plain (OpenSpec.ofChange ratFieldSpec)) ratFieldCard

/-- THE TIED CARD OF 'quadratrixlaw02.RatTexts'. -/
def ratTextsCard : Claim7 := { stood := { row := ratTextsRow, standIns := [], harness := (true, "a9d8ce7a47db24a7e406aed83ae7e20c80eabda49bb830414608f8c8fc685146"), looks := true }, kinds := [], alts := [], laidByText := true, laidKinds := [.data, .data, .data], laidTests := true, laidLooks := .later }
def RatTextsCardSaid : Prop := Claim7.holds Tryz.pinned (.plain (OpenSpec.ofChange ratTextsSpec)) ratTextsCard

/-- THE TIED CARD OF 'quadratrixlaw02.RatStays'. -/
def ratStaysCard : Claim7 := { stood := { row := ratStaysRow, standIns := [], harness := (true, "a9d8ce7a47db24a7e406aed83ae7e20c80eabda49bb830414608f8c8fc685146"), looks := true }, kinds := [], alts := [], laidByText := true, laidKinds := [.data, .data, .data], laidTests := true, laidLooks := .later }
def RatStaysCardSaid : Prop := Claim7.holds Tryz.pinned (.plain (OpenSpec.ofChange ratStaysSpec)) ratStaysCard

/-- THE SECOND FORM's CARD OF 'quadratrixlaw02.RatMakes'. -/
def ratMakesUptoCard : Claim7 := { stood := { row := ratMakesUptoRow, standIns := [], harness := (true, "a9d8ce7a47db24a7e406aed83ae7e20c80eabda49bb830414608f8c8fc685146"), looks := true }, kinds := [], alts := [], laidByText := true, laidKinds := [.data, .data, .data], laidTests := true, laidLooks := .later }
def RatMakesUptoCardSaid : Prop := Claim7.holds Tryz.pinned (.plain (OpenSpec.upto ratMakesSpec)) ratMakesUptoCard

/-- THE SECOND FORM's CARD OF 'quadratrixlaw02.RatComputes'. -/
def ratComputesUptoCard : Claim7 := { stood := { row := ratComputesUptoRow, standIns := [], harness := (true, "a9d8ce7a47db24a7e406aed83ae7e20c80eabda49bb830414608f8c8fc685146"), looks := true }, kinds := [], alts := [], laidByText := true, laidKinds := [.data, .data, .data], laidTests := true, laidLooks := .later }
def RatComputesUptoCardSaid : Prop := Claim7.holds Tryz.pinned (.plain (OpenSpec.upto ratComputesSpec)) ratComputesUptoCard

/-- THE SECOND FORM's CARD OF 'quadratrixlaw02.RatCommon'. -/
def ratCommonUptoCard : Claim7 := { stood := { row := ratCommonUptoRow, standIns := [], harness := (true, "a9d8ce7a47db24a7e406aed83ae7e20c80eabda49bb830414608f8c8fc685146"), looks := true }, kinds := [], alts := [], laidByText := true, laidKinds := [.data, .data, .data], laidTests := true, laidLooks := .later }
def RatCommonUptoCardSaid : Prop := Claim7.holds Tryz.pinned (.plain (OpenSpec.upto ratCommonSpec)) ratCommonUptoCard

/-- THE SECOND FORM's CARD OF 'quadratrixlaw02.RatSimplest'. -/
def ratSimplestUptoCard : Claim7 := { stood := { row := ratSimplestUptoRow, standIns := [], harness := (true, "a9d8ce7a47db24a7e406aed83ae7e20c80eabda49bb830414608f8c8fc685146"), looks := true }, kinds := [], alts := [], laidByText := true, laidKinds := [.data, .data, .data], laidTests := true, laidLooks := .later }
def RatSimplestUptoCardSaid : Prop := Claim7.holds Tryz.pinned (.plain (OpenSpec.upto ratSimplestSpec)) ratSimplestUptoCard

/-- THE SECOND FORM's CARD OF 'quadratrixlaw02.RatField'. -/
def ratFieldUptoCard : Claim7 := { stood := { row := ratFieldUptoRow, standIns := [], harness := (true, "a9d8ce7a47db24a7e406aed83ae7e20c80eabda49bb830414608f8c8fc685146"), looks := true }, kinds := [], alts := [], laidByText := true, laidKinds := [.data, .data, .data], laidTests := true, laidLooks := .later }
def RatFieldUptoCardSaid : Prop := Claim7.holds Tryz.pinned (.plain (OpenSpec.upto ratFieldSpec)) ratFieldUptoCard

/-- THE SECOND FORM's CARD OF 'quadratrixlaw02.RatTexts'. -/
def ratTextsUptoCard : Claim7 := { stood := { row := ratTextsUptoRow, standIns := [], harness := (true, "a9d8ce7a47db24a7e406aed83ae7e20c80eabda49bb830414608f8c8fc685146"), looks := true }, kinds := [], alts := [], laidByText := true, laidKinds := [.data, .data, .data], laidTests := true, laidLooks := .later }
def RatTextsUptoCardSaid : Prop := Claim7.holds Tryz.pinned (.plain (OpenSpec.upto ratTextsSpec)) ratTextsUptoCard

/-- THE SECOND FORM's CARD OF 'quadratrixlaw02.RatStays'. -/
def ratStaysUptoCard : Claim7 := { stood := { row := ratStaysUptoRow, standIns := [], harness := (true, "a9d8ce7a47db24a7e406aed83ae7e20c80eabda49bb830414608f8c8fc685146"), looks := true }, kinds := [], alts := [], laidByText := true, laidKinds := [.data, .data, .data], laidTests := true, laidLooks := .later }
def RatStaysUptoCardSaid : Prop := Claim7.holds Tryz.pinned (.plain (OpenSpec.upto ratStaysSpec)) ratStaysUptoCard
end Rows
end Go.Proofs.YtcifhkfpmhifaaaGreatDoor
