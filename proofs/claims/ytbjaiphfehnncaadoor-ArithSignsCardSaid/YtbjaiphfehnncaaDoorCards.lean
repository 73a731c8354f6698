/-
  DERIVED. GIVEN WITH THE SEED: THE CARDS: each row of YtbjaiphfehnncaaDoorRows.lean that lists a variable, with what it lists TIED to the program's text (the seventh form; the later family's looks); each row that meets fmt, with fmt's text TOLD by the authors' own Lean function (tested against real Go, not proved from fmt's source: count such statements apart). THE CARD IS WHAT COUNTS. Prove the row's statement (the work); the ties are given (YtbjaiphfehnncaaDoorTie.lean); close each card by the builder's one call (the guide's Derived/Test/ToyasCard.lean, 'card_holds'). Laid BY PROGRAM, IN A SANDBOX (cutbox-door.mjs). By AI agents, Wed Nov 11 2026. No macro, syntax, notation, axiom, sorry.
-/
import Derived.Test.YtbjaiphfehnncaaDoorRows
import GoSem.ClaimSeven
namespace Go.Proofs.YtbjaiphfehnncaaDoor
namespace Rows

/-- THE TIED CARD OF 'figureheadlaw05.DecGood'. -/
def decGoodCard : Claim7 := { stood := { row := decGoodRow, standIns := [], harness := (true, "a501a031b347b3e59efc0d8674e8d95cab34dca0313e5d5132846e44e12465e5"), looks := false }, kinds := [], alts := [], laidByText := true, laidKinds := [.data, .data, .pinned], laidTests := true, laidLooks := .later }
def DecGoodCardSaid : Prop := Claim7.holds Tryd.pinned (.plain (OpenSpec.ofChange decGoodSpec)) decGoodCard

/-- THE TIED CARD OF 'figureheadlaw05.DecDigits'. -/
def decDigitsCard : Claim7 := { stood := { row := decDigitsRow, standIns := [], harness := (true, "a501a031b347b3e59efc0d8674e8d95cab34dca0313e5d5132846e44e12465e5"), looks := false }, kinds := [], alts := [], laidByText := true, laidKinds := [.data, .data, .pinned], laidTests := true, laidLooks := .later }
def DecDigitsCardSaid : Prop := Claim7.holds Tryd.pinned (.plain (OpenSpec.ofChange decDigitsSpec)) decDigitsCard

/-- THE TIED CARD OF 'figureheadlaw05.DecOrders'. -/
def decOrdersCard : Claim7 := { stood := { row := decOrdersRow, standIns := [], harness := (true, "a501a031b347b3e59efc0d8674e8d95cab34dca0313e5d5132846e44e12465e5"), looks := false }, kinds := [], alts := [], laidByText := true, laidKinds := [.data, .data, .pinned], laidTests := true, laidLooks := .later }
def DecOrdersCardSaid : Prop := Claim7.holds Tryd.pinned (.plain (OpenSpec.ofChange decOrdersSpec)) decOrdersCard

/-- THE TIED CARD OF 'figureheadlaw05.DecRanges'. -/
def decRangesCard : Claim7 := { stood := { row := decRangesRow, standIns := [], harness := (true, "a501a031b347b3e59efc0d8674e8d95cab34dca0313e5d5132846e44e12465e5"), looks := false }, kinds := [], alts := [], laidByText := true, laidKinds := [.data, .data, .pinned], laidTests := true, laidLooks := .later }
def DecRangesCardSaid : Prop := Claim7.holds Tryd.pinned (.plain (OpenSpec.ofChange decRangesSpec)) decRangesCard

/-- THE TIED CARD OF 'figureheadlaw05.DecAlike'. -/
def decAlikeCard : Claim7 := { stood := { row := decAlikeRow, standIns := [], harness := (true, "a501a031b347b3e59efc0d8674e8d95cab34dca0313e5d5132846e44e12465e5"), looks := false }, kinds := [], alts := [], laidByText := true, laidKinds := [.data, .data, .pinned], laidTests := true, laidLooks := .later }
def DecAlikeCardSaid : Prop := Claim7.holds Tryd.pinned (.plain (OpenSpec.ofChange decAlikeSpec)) decAlikeCard

/-- THE TIED CARD OF 'figureheadlaw05.DecThree'. -/
def decThreeCard : Claim7 := { stood := { row := decThreeRow, standIns := [], harness := (true, "a501a031b347b3e59efc0d8674e8d95cab34dca0313e5d5132846e44e12465e5"), looks := false }, kinds := [], alts := [], laidByText := true, laidKinds := [.data, .data, .pinned], laidTests := true, laidLooks := .later }
def DecThreeCardSaid : Prop := Claim7.holds Tryd.pinned (.plain (OpenSpec.ofChange decThreeSpec)) decThreeCard

/-- THE TIED CARD OF 'figureheadlaw05.DecPlaces'. -/
def decPlacesCard : Claim7 := { stood := { row := decPlacesRow, standIns := [], harness := (true, "a501a031b347b3e59efc0d8674e8d95cab34dca0313e5d5132846e44e12465e5"), looks := false }, kinds := [], alts := [], laidByText := true, laidKinds := [.data, .data, .pinned], laidTests := true, laidLooks := .later }
def DecPlacesCardSaid : Prop := Claim7.holds Tryd.pinned (.plain (OpenSpec.ofChange decPlacesSpec)) decPlacesCard

/-- THE TIED CARD OF 'figureheadlaw06.ArithAdds'. -/
def arithAddsCard : Claim7 := { stood := { row := arithAddsRow, standIns := [], harness := (true, "a501a031b347b3e59efc0d8674e8d95cab34dca0313e5d5132846e44e12465e5"), looks := false }, kinds := [], alts := [], laidByText := true, laidKinds := [.data, .data, .pinned], laidTests := true, laidLooks := .later }
def ArithAddsCardSaid : Prop := Claim7.holds Tryd.pinned (.plain (OpenSpec.ofChange arithAddsSpec)) arithAddsCard

/-- THE TIED CARD OF 'figureheadlaw06.ArithMuls'. -/
def arithMulsCard : Claim7 := { stood := { row := arithMulsRow, standIns := [], harness := (true, "a501a031b347b3e59efc0d8674e8d95cab34dca0313e5d5132846e44e12465e5"), looks := false }, kinds := [], alts := [], laidByText := true, laidKinds := [.data, .data, .pinned], laidTests := true, laidLooks := .later }
def ArithMulsCardSaid : Prop := Claim7.holds Tryd.pinned (.plain (OpenSpec.ofChange arithMulsSpec)) arithMulsCard

/-- THE TIED CARD OF 'figureheadlaw06.ArithLaws'. -/
def arithLawsCard : Claim7 := { stood := { row := arithLawsRow, standIns := [], harness := (true, "a501a031b347b3e59efc0d8674e8d95cab34dca0313e5d5132846e44e12465e5"), looks := false }, kinds := [], alts := [], laidByText := true, laidKinds := [.data, .data, .pinned], laidTests := true, laidLooks := .later }
def ArithLawsCardSaid : Prop := Claim7.holds Tryd.pinned (.plain (OpenSpec.ofChange arithLawsSpec)) arithLawsCard

/-- THE TIED CARD OF 'figureheadlaw06.ArithOrders'. -/
def arithOrdersCard : Claim7 := { stood := { row := arithOrdersRow, standIns := [], harness := (true, "a501a031b347b3e59efc0d8674e8d95cab34dca0313e5d5132846e44e12465e5"), looks := false }, kinds := [], alts := [], laidByText := true, laidKinds := [.data, .data, .pinned], laidTests := true, laidLooks := .later }
def ArithOrdersCardSaid : Prop := Claim7.holds Tryd.pinned (.plain (OpenSpec.ofChange arithOrdersSpec)) arithOrdersCard

/-- THE TIED CARD OF 'figureheadlaw06.ArithSigns'. -/
def arithSignsCard : Claim7 := { stood := { row := arithSignsRow, standIns := [], harness := (true, "a501a031b347b3e59efc0d8674e8d95cab34dca0313e5d5132846e44e12465e5"), looks := false }, kinds := [], alts := [], laidByText := true, laidKinds := [.data, .data, .pinned], laidTests := true, laidLooks := .later }
def ArithSignsCardSaid : Prop := Claim7.holds Tryd.pinned (.plain (OpenSpec.ofChange arithSignsSpec)) arithSignsCard

/-- THE SECOND FORM's CARD OF 'figureheadlaw05.DecGood'. -/
def decGoodUptoCard : Claim7 := { stood := { row := decGoodUptoRow, standIns := [], harness := (true, "a501a031b347b3e59efc0d8674e8d95cab34dca0313e5d5132846e44e12465e5"), looks := false }, kinds := [], alts := [], laidByText := true, laidKinds := [.data, .data, .pinned], laidTests := true, laidLooks := .later }
def DecGoodUptoCardSaid : Prop := Claim7.holds Tryd.pinned (.plain (OpenSpec.upto decGoodSpec)) decGoodUptoCard

/-- THE SECOND FORM's CARD OF 'figureheadlaw05.DecDigits'. -/
def decDigitsUptoCard : Claim7 := { stood := { row := decDigitsUptoRow, standIns := [], harness := (true, "a501a031b347b3e59efc0d8674e8d95cab34dca0313e5d5132846e44e12465e5"), looks := false }, kinds := [], alts := [], laidByText := true, laidKinds := [.data, .data, .pinned], laidTests := true, laidLooks := .later }
def DecDigitsUptoCardSaid : Prop := Claim7.holds Tryd.pinned (.plain (OpenSpec.upto decDigitsSpec)) decDigitsUptoCard

/-- THE SECOND FORM's CARD OF 'figureheadlaw05.DecOrders'. -/
def decOrdersUptoCard : Claim7 := { stood := { row := decOrdersUptoRow, standIns := [], harness := (true, "a501a031b347b3e59efc0d8674e8d95cab34dca0313e5d5132846e44e12465e5"), looks := false }, kinds := [], alts := [], laidByText := true, laidKinds := [.data, .data, .pinned], laidTests := true, laidLooks := .later }
def DecOrdersUptoCardSaid : Prop := Claim7.holds Tryd.pinned (.plain (OpenSpec.upto decOrdersSpec)) decOrdersUptoCard

/-- THE SECOND FORM's CARD OF 'figureheadlaw05.DecRanges'. -/
def decRangesUptoCard : Claim7 := { stood := { row := decRangesUptoRow, standIns := [], harness := (true, "a501a031b347b3e59efc0d8674e8d95cab34dca0313e5d5132846e44e12465e5"), looks := false }, kinds := [], alts := [], laidByText := true, laidKinds := [.data, .data, .pinned], laidTests := true, laidLooks := .later }
def DecRangesUptoCardSaid : Prop := Claim7.holds Tryd.pinned (.plain (OpenSpec.upto decRangesSpec)) decRangesUptoCard

/-- THE SECOND FORM's CARD OF 'figureheadlaw05.DecAlike'. -/
def decAlikeUptoCard : Claim7 := { stood := { row := decAlikeUptoRow, standIns := [], harness := (true, "a501a031b347b3e59efc0d8674e8d95cab34dca0313e5d5132846e44e12465e5"), looks := false }, kinds := [], alts := [], laidByText := true, laidKinds := [.data, .data, .pinned], laidTests := true, laidLooks := .later }
def DecAlikeUptoCardSaid : Prop := Claim7.holds Tryd.pinned (.plain (OpenSpec.upto decAlikeSpec)) decAlikeUptoCard

/-- THE SECOND FORM's CARD OF 'figureheadlaw05.DecThree'. -/
def decThreeUptoCard : Claim7 := { stood := { row := decThreeUptoRow, standIns := [], harness := (true, "a501a031b347b3e59efc0d8674e8d95cab34dca0313e5d5132846e44e12465e5"), looks := false }, kinds := [], alts := [], laidByText := true, laidKinds := [.data, .data, .pinned], laidTests := true, laidLooks := .later }
def DecThreeUptoCardSaid : Prop := Claim7.holds Tryd.pinned (.plain (OpenSpec.upto decThreeSpec)) decThreeUptoCard

/-- THE SECOND FORM's CARD OF 'figureheadlaw05.DecPlaces'. -/
def decPlacesUptoCard : Claim7 := { stood := { row := decPlacesUptoRow, standIns := [], harness := (true, "a501a031b347b3e59efc0d8674e8d95cab34dca0313e5d5132846e44e12465e5"), looks := false }, kinds := [], alts := [], laidByText := true, laidKinds := [.data, .data, .pinned], laidTests := true, laidLooks := .later }
def DecPlacesUptoCardSaid : Prop := Claim7.holds Tryd.pinned (.plain (OpenSpec.upto decPlacesSpec)) decPlacesUptoCard

/-- THE SECOND FORM's CARD OF 'figureheadlaw06.ArithAdds'. -/
def arithAddsUptoCard : Claim7 := { stood := { row := arithAddsUptoRow, standIns := [], harness := (true, "a501a031b347b3e59efc0d8674e8d95cab34dca0313e5d5132846e44e12465e5"), looks := false }, kinds := [], alts := [], laidByText := true, laidKinds := [.data, .data, .pinned], laidTests := true, laidLooks := .later }
def ArithAddsUptoCardSaid : Prop := Claim7.holds Tryd.pinned (.plain (OpenSpec.upto arithAddsSpec)) arithAddsUptoCard

/-- THE SECOND FORM's CARD OF 'figureheadlaw06.ArithMuls'. -/
def arithMulsUptoCard : Claim7 := { stood := { row := arithMulsUptoRow, standIns := [], harness := (true, "a501a031b347b3e59efc0d8674e8d95cab34dca0313e5d5132846e44e12465e5"), looks := false }, kinds := [], alts := [], laidByText := true, laidKinds := [.data, .data, .pinned], laidTests := true, laidLooks := .later }
def ArithMulsUptoCardSaid : Prop := Claim7.holds Tryd.pinned (.plain (OpenSpec.upto arithMulsSpec)) arithMulsUptoCard

/-- THE SECOND FORM's CARD OF 'figureheadlaw06.ArithLaws'. -/
def arithLawsUptoCard : Claim7 := { stood := { row := arithLawsUptoRow, standIns := [], harness := (true, "a501a031b347b3e59efc0d8674e8d95cab34dca0313e5d5132846e44e12465e5"), looks := false }, kinds := [], alts := [], laidByText := true, laidKinds := [.data, .data, .pinned], laidTests := true, laidLooks := .later }
def ArithLawsUptoCardSaid : Prop := Claim7.holds Tryd.pinned (.plain (OpenSpec.upto arithLawsSpec)) arithLawsUptoCard

/-- THE SECOND FORM's CARD OF 'figureheadlaw06.ArithOrders'. -/
def arithOrdersUptoCard : Claim7 := { stood := { row := arithOrdersUptoRow, standIns := [], harness := (true, "a501a031b347b3e59efc0d8674e8d95cab34dca0313e5d5132846e44e12465e5"), looks := false }, kinds := [], alts := [], laidByText := true, laidKinds := [.data, .data, .pinned], laidTests := true, laidLooks := .later }
def ArithOrdersUptoCardSaid : Prop := Claim7.holds Tryd.pinned (.plain (OpenSpec.upto arithOrdersSpec)) arithOrdersUptoCard

/-- THE SECOND FORM's CARD OF 'figureheadlaw06.ArithSigns'. -/
def arithSignsUptoCard : Claim7 := { stood := { row := arithSignsUptoRow, standIns := [], harness := (true, "a501a031b347b3e59efc0d8674e8d95cab34dca0313e5d5132846e44e12465e5"), looks := false }, kinds := [], alts := [], laidByText := true, laidKinds := [.data, .data, .pinned], laidTests := true, laidLooks := .later }
def ArithSignsUptoCardSaid : Prop := Claim7.holds Tryd.pinned (.plain (OpenSpec.upto arithSignsSpec)) arithSignsUptoCard
end Rows
end Go.Proofs.YtbjaiphfehnncaaDoor
