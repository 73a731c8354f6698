/-
  DERIVED. GIVEN WITH THE SEED: THE CARDS: each row of YtjpokifkbclkiaaDoorRows.lean that lists a variable, with what it lists TIED to the program's text (the seventh form; the later family's looks); each row that meets fmt, with fmt's text TOLD by the authors' own Lean function (tested against real Go, not proved from fmt's source: count such statements apart). THE CARD IS WHAT COUNTS. Prove the row's statement (the work); the ties are given (YtjpokifkbclkiaaDoorTie.lean); close each card by the builder's one call (the guide's Derived/Test/ToyasCard.lean, 'card_holds'). Laid BY PROGRAM, IN A SANDBOX (cutbox-door.mjs). By AI agents, Wed Nov 11 2026. No macro, syntax, notation, axiom, sorry.
-/
import Derived.Test.YtjpokifkbclkiaaDoorRows
import GoSem.ClaimSeven
namespace Go.Proofs.YtjpokifkbclkiaaDoor
namespace Rows

/-- THE TIED CARD OF 'figureheadlaw08.PlaceRounds'. -/
def placeRoundsCard : Claim7 := { stood := { row := placeRoundsRow, standIns := [], harness := (true, "9d37f841e137d1a79f43b4e791658ab8fd270e5f7ee036f96d219676a3c9c771"), looks := false }, kinds := [], alts := [], laidByText := true, laidKinds := [.funcs, .data, .data, .pinned], laidTests := true, laidLooks := .later }
def PlaceRoundsCardSaid : Prop := Claim7.holds Tryd.pinned (.plain (OpenSpec.ofChange placeRoundsSpec)) placeRoundsCard

/-- THE TIED CARD OF 'figureheadlaw08.PlaceFits'. -/
def placeFitsCard : Claim7 := { stood := { row := placeFitsRow, standIns := [], harness := (true, "9d37f841e137d1a79f43b4e791658ab8fd270e5f7ee036f96d219676a3c9c771"), looks := false }, kinds := [], alts := [], laidByText := true, laidKinds := [.funcs, .data, .data, .pinned], laidTests := true, laidLooks := .later }
def PlaceFitsCardSaid : Prop := Claim7.holds Tryd.pinned (.plain (OpenSpec.ofChange placeFitsSpec)) placeFitsCard

/-- THE TIED CARD OF 'figureheadlaw08.PlaceNear'. -/
def placeNearCard : Claim7 := { stood := { row := placeNearRow, standIns := [], harness := (true, "9d37f841e137d1a79f43b4e791658ab8fd270e5f7ee036f96d219676a3c9c771"), looks := false }, kinds := [], alts := [], laidByText := true, laidKinds := [.funcs, .data, .data, .pinned], laidTests := true, laidLooks := .later }
def PlaceNearCardSaid : Prop := Claim7.holds Tryd.pinned (.plain (OpenSpec.ofChange placeNearSpec)) placeNearCard

/-- THE TIED CARD OF 'figureheadlaw08.PlaceOrders'. -/
def placeOrdersCard : Claim7 := { stood := { row := placeOrdersRow, standIns := [], harness := (true, "9d37f841e137d1a79f43b4e791658ab8fd270e5f7ee036f96d219676a3c9c771"), looks := false }, kinds := [], alts := [], laidByText := true, laidKinds := [.funcs, .data, .data, .pinned], laidTests := true, laidLooks := .later }
def PlaceOrdersCardSaid : Prop := Claim7.holds Tryd.pinned (.plain (OpenSpec.ofChange placeOrdersSpec)) placeOrdersCard

/-- THE TIED CARD OF 'figureheadlaw08.PlaceTurned'. -/
def placeTurnedCard : Claim7 := { stood := { row := placeTurnedRow, standIns := [], harness := (true, "9d37f841e137d1a79f43b4e791658ab8fd270e5f7ee036f96d219676a3c9c771"), looks := false }, kinds := [], alts := [], laidByText := true, laidKinds := [.funcs, .data, .data, .pinned], laidTests := true, laidLooks := .later }
def PlaceTurnedCardSaid : Prop := Claim7.holds Tryd.pinned (.plain (OpenSpec.ofChange placeTurnedSpec)) placeTurnedCard

/-- THE TIED CARD OF 'figureheadlaw08.PlaceMoves'. -/
def placeMovesCard : Claim7 := { stood := { row := placeMovesRow, standIns := [], harness := (true, "9d37f841e137d1a79f43b4e791658ab8fd270e5f7ee036f96d219676a3c9c771"), looks := false }, kinds := [], alts := [], laidByText := true, laidKinds := [.funcs, .data, .data, .pinned], laidTests := true, laidLooks := .later }
def PlaceMovesCardSaid : Prop := Claim7.holds Tryd.pinned (.plain (OpenSpec.ofChange placeMovesSpec)) placeMovesCard

/-- THE TIED CARD OF 'figureheadlaw09.SigRounds'. -/
def sigRoundsCard : Claim7 := { stood := { row := sigRoundsRow, standIns := [], harness := (true, "9d37f841e137d1a79f43b4e791658ab8fd270e5f7ee036f96d219676a3c9c771"), looks := false }, kinds := [], alts := [], laidByText := true, laidKinds := [.funcs, .data, .data, .pinned], laidTests := true, laidLooks := .later }
def SigRoundsCardSaid : Prop := Claim7.holds Tryd.pinned (.plain (OpenSpec.ofChange sigRoundsSpec)) sigRoundsCard

/-- THE TIED CARD OF 'figureheadlaw09.SigCounts'. -/
def sigCountsCard : Claim7 := { stood := { row := sigCountsRow, standIns := [], harness := (true, "9d37f841e137d1a79f43b4e791658ab8fd270e5f7ee036f96d219676a3c9c771"), looks := false }, kinds := [], alts := [], laidByText := true, laidKinds := [.funcs, .data, .data, .pinned], laidTests := true, laidLooks := .later }
def SigCountsCardSaid : Prop := Claim7.holds Tryd.pinned (.plain (OpenSpec.ofChange sigCountsSpec)) sigCountsCard

/-- THE TIED CARD OF 'figureheadlaw09.SigOrders'. -/
def sigOrdersCard : Claim7 := { stood := { row := sigOrdersRow, standIns := [], harness := (true, "9d37f841e137d1a79f43b4e791658ab8fd270e5f7ee036f96d219676a3c9c771"), looks := false }, kinds := [], alts := [], laidByText := true, laidKinds := [.funcs, .data, .data, .pinned], laidTests := true, laidLooks := .later }
def SigOrdersCardSaid : Prop := Claim7.holds Tryd.pinned (.plain (OpenSpec.ofChange sigOrdersSpec)) sigOrdersCard

/-- THE TIED CARD OF 'figureheadlaw09.SigScales'. -/
def sigScalesCard : Claim7 := { stood := { row := sigScalesRow, standIns := [], harness := (true, "9d37f841e137d1a79f43b4e791658ab8fd270e5f7ee036f96d219676a3c9c771"), looks := false }, kinds := [], alts := [], laidByText := true, laidKinds := [.funcs, .data, .data, .pinned], laidTests := true, laidLooks := .later }
def SigScalesCardSaid : Prop := Claim7.holds Tryd.pinned (.plain (OpenSpec.ofChange sigScalesSpec)) sigScalesCard

/-- THE TIED CARD OF 'figureheadlaw09.SigEnough'. -/
def sigEnoughCard : Claim7 := { stood := { row := sigEnoughRow, standIns := [], harness := (true, "9d37f841e137d1a79f43b4e791658ab8fd270e5f7ee036f96d219676a3c9c771"), looks := false }, kinds := [], alts := [], laidByText := true, laidKinds := [.funcs, .data, .data, .pinned], laidTests := true, laidLooks := .later }
def SigEnoughCardSaid : Prop := Claim7.holds Tryd.pinned (.plain (OpenSpec.ofChange sigEnoughSpec)) sigEnoughCard

/-- THE SECOND FORM's CARD OF 'figureheadlaw08.PlaceRounds'. -/
def placeRoundsUptoCard : Claim7 := { stood := { row := placeRoundsUptoRow, standIns := [], harness := (true, "9d37f841e137d1a79f43b4e791658ab8fd270e5f7ee036f96d219676a3c9c771"), looks := false }, kinds := [], alts := [], laidByText := true, laidKinds := [.funcs, .data, .data, .pinned], laidTests := true, laidLooks := .later }
def PlaceRoundsUptoCardSaid : Prop := Claim7.holds Tryd.pinned (.plain (OpenSpec.upto placeRoundsSpec)) placeRoundsUptoCard

/-- THE SECOND FORM's CARD OF 'figureheadlaw08.PlaceFits'. -/
def placeFitsUptoCard : Claim7 := { stood := { row := placeFitsUptoRow, standIns := [], harness := (true, "9d37f841e137d1a79f43b4e791658ab8fd270e5f7ee036f96d219676a3c9c771"), looks := false }, kinds := [], alts := [], laidByText := true, laidKinds := [.funcs, .data, .data, .pinned], laidTests := true, laidLooks := .later }
def PlaceFitsUptoCardSaid : Prop := Claim7.holds Tryd.pinned (.plain (OpenSpec.upto placeFitsSpec)) placeFitsUptoCard

/-- THE SECOND FORM's CARD OF 'figureheadlaw08.PlaceNear'. -/
def placeNearUptoCard : Claim7 := { stood := { row := placeNearUptoRow, standIns := [], harness := (true, "9d37f841e137d1a79f43b4e791658ab8fd270e5f7ee036f96d219676a3c9c771"), looks := false }, kinds := [], alts := [], laidByText := true, laidKinds := [.funcs, .data, .data, .pinned], laidTests := true, laidLooks := .later }
def PlaceNearUptoCardSaid : Prop := Claim7.holds Tryd.pinned (.plain (OpenSpec.upto placeNearSpec)) placeNearUptoCard

/-- THE SECOND FORM's CARD OF 'figureheadlaw08.PlaceOrders'. -/
def placeOrdersUptoCard : Claim7 := { stood := { row := placeOrdersUptoRow, standIns := [], harness := (true, "9d37f841e137d1a79f43b4e791658ab8fd270e5f7ee036f96d219676a3c9c771"), looks := false }, kinds := [], alts := [], laidByText := true, laidKinds := [.funcs, .data, .data, .pinned], laidTests := true, laidLooks := .later }
def PlaceOrdersUptoCardSaid : Prop := Claim7.holds Tryd.pinned (.plain (OpenSpec.upto placeOrdersSpec)) placeOrdersUptoCard

/-- THE SECOND FORM's CARD OF 'figureheadlaw08.PlaceTurned'. -/
def placeTurnedUptoCard : Claim7 := { stood := { row := placeTurnedUptoRow, standIns := [], harness := (true, "9d37f841e137d1a79f43b4e791658ab8fd270e5f7ee036f96d219676a3c9c771"), looks := false }, kinds := [], alts := [], laidByText := true, laidKinds := [.funcs, .data, .data, .pinned], laidTests := true, laidLooks := .later }
def PlaceTurnedUptoCardSaid : Prop := Claim7.holds Tryd.pinned (.plain (OpenSpec.upto placeTurnedSpec)) placeTurnedUptoCard

/-- THE SECOND FORM's CARD OF 'figureheadlaw08.PlaceMoves'. -/
def placeMovesUptoCard : Claim7 := { stood := { row := placeMovesUptoRow, standIns := [], harness := (true, "9d37f841e137d1a79f43b4e791658ab8fd270e5f7ee036f96d219676a3c9c771"), looks := false }, kinds := [], alts := [], laidByText := true, laidKinds := [.funcs, .data, .data, .pinned], laidTests := true, laidLooks := .later }
def PlaceMovesUptoCardSaid : Prop := Claim7.holds Tryd.pinned (.plain (OpenSpec.upto placeMovesSpec)) placeMovesUptoCard

/-- THE SECOND FORM's CARD OF 'figureheadlaw09.SigRounds'. -/
def sigRoundsUptoCard : Claim7 := { stood := { row := sigRoundsUptoRow, standIns := [], harness := (true, "9d37f841e137d1a79f43b4e791658ab8fd270e5f7ee036f96d219676a3c9c771"), looks := false }, kinds := [], alts := [], laidByText := true, laidKinds := [.funcs, .data, .data, .pinned], laidTests := true, laidLooks := .later }
def SigRoundsUptoCardSaid : Prop := Claim7.holds Tryd.pinned (.plain (OpenSpec.upto sigRoundsSpec)) sigRoundsUptoCard

/-- THE SECOND FORM's CARD OF 'figureheadlaw09.SigCounts'. -/
def sigCountsUptoCard : Claim7 := { stood := { row := sigCountsUptoRow, standIns := [], harness := (true, "9d37f841e137d1a79f43b4e791658ab8fd270e5f7ee036f96d219676a3c9c771"), looks := false }, kinds := [], alts := [], laidByText := true, laidKinds := [.funcs, .data, .data, .pinned], laidTests := true, laidLooks := .later }
def SigCountsUptoCardSaid : Prop := Claim7.holds Tryd.pinned (.plain (OpenSpec.upto sigCountsSpec)) sigCountsUptoCard

/-- THE SECOND FORM's CARD OF 'figureheadlaw09.SigOrders'. -/
def sigOrdersUptoCard : Claim7 := { stood := { row := sigOrdersUptoRow, standIns := [], harness := (true, "9d37f841e137d1a79f43b4e791658ab8fd270e5f7ee036f96d219676a3c9c771"), looks := false }, kinds := [], alts := [], laidByText := true, laidKinds := [.funcs, .data, .data, .pinned], laidTests := true, laidLooks := .later }
def SigOrdersUptoCardSaid : Prop := Claim7.holds Tryd.pinned (.plain (OpenSpec.upto sigOrdersSpec)) sigOrdersUptoCard

/-- THE SECOND FORM's CARD OF 'figureheadlaw09.SigScales'. -/
def sigScalesUptoCard : Claim7 := { stood := { row := sigScalesUptoRow, standIns := [], harness := (true, "9d37f841e137d1a79f43b4e791658ab8fd270e5f7ee036f96d219676a3c9c771"), looks := false }, kinds := [], alts := [], laidByText := true, laidKinds := [.funcs, .data, .data, .pinned], laidTests := true, laidLooks := .later }
def SigScalesUptoCardSaid : Prop := Claim7.holds Tryd.pinned (.plain (OpenSpec.upto sigScalesSpec)) sigScalesUptoCard

/-- THE SECOND FORM's CARD OF 'figureheadlaw09.SigEnough'. -/
def sigEnoughUptoCard : Claim7 := { stood := { row := sigEnoughUptoRow, standIns := [], harness := (true, "9d37f841e137d1a79f43b4e791658ab8fd270e5f7ee036f96d219676a3c9c771"), looks := false }, kinds := [], alts := [], laidByText := true, laidKinds := [.funcs, .data, .data, .pinned], laidTests := true, laidLooks := .later }
def SigEnoughUptoCardSaid : Prop := Claim7.holds Tryd.pinned (.plain (OpenSpec.upto sigEnoughSpec)) sigEnoughUptoCard
end Rows
end Go.Proofs.YtjpokifkbclkiaaDoor
