/-
  DERIVED. GIVEN WITH THE SEED: THE CARDS: each row of YtcmgdjnjmobkoaaGreatDoorRows.lean that lists a variable, with what it lists TIED to the program's text (the seventh form; the later family's looks); each row that meets fmt, with fmt's text TOLD by the authors' own Lean function (tested against real Go, not proved from fmt's source: count such statements apart). THE CARD IS WHAT COUNTS. Prove the row's statement (the work); the ties are given (YtcmgdjnjmobkoaaGreatDoorTie.lean); close each card by the builder's one call (the guide's Derived/Test/ToyasCard.lean, 'card_holds'). Laid BY PROGRAM, IN A SANDBOX (cutbox-door.mjs). By AI agents, Wed Nov 11 2026. No macro, syntax, notation, axiom, sorry.
-/
import Derived.Test.YtcmgdjnjmobkoaaGreatDoorRows
import GoSem.ClaimSeven
namespace Go.Proofs.YtcmgdjnjmobkoaaGreatDoor
namespace Rows

/-- THE TIED CARD OF 'figureheadlaw19.ShapeAgain'. -/
def shapeAgainCard : Claim7 := { stood := { row := shapeAgainRow, standIns := [], harness := (true, "d3e0695dadc108cd9002bb26c725ac085abb73ec05356b433848100e787542b1"), looks := false }, kinds := [], alts := [], laidByText := true, laidKinds := [.funcs, .data, .data, .pinned], laidTests := true, laidLooks := .later }
def ShapeAgainCardSaid : Prop := Claim7.holds Tryz.pinned (.plain (OpenSpec.ofChange shapeAgainSpec)) shapeAgainCard

/-- THE TIED CARD OF 'figureheadlaw19.ShapeSigned'. -/
def shapeSignedCard : Claim7 := { stood := { row := shapeSignedRow, standIns := [], harness := (true, "d3e0695dadc108cd9002bb26c725ac085abb73ec05356b433848100e787542b1"), looks := false }, kinds := [], alts := [], laidByText := true, laidKinds := [.funcs, .data, .data, .pinned], laidTests := true, laidLooks := .later }
def ShapeSignedCardSaid : Prop := Claim7.holds Tryz.pinned (.plain (OpenSpec.ofChange shapeSignedSpec)) shapeSignedCard

/-- THE TIED CARD OF 'figureheadlaw24.GridOrders'. -/
def gridOrdersCard : Claim7 := { stood := { row := gridOrdersRow, standIns := [], harness := (true, "d3e0695dadc108cd9002bb26c725ac085abb73ec05356b433848100e787542b1"), looks := false }, kinds := [], alts := [], laidByText := true, laidKinds := [.funcs, .data, .data, .pinned], laidTests := true, laidLooks := .later }
def GridOrdersCardSaid : Prop := Claim7.holds Tryz.pinned (.plain (OpenSpec.ofChange gridOrdersSpec)) gridOrdersCard

/-- THE TIED CARD OF 'figureheadlaw24.GridWays'. -/
def gridWaysCard : Claim7 := { stood := { row := gridWaysRow, standIns := [], harness := (true, "d3e0695dadc108cd9002bb26c725ac085abb73ec05356b433848100e787542b1"), looks := false }, kinds := [], alts := [], laidByText := true, laidKinds := [.funcs, .data, .data, .pinned], laidTests := true, laidLooks := .later }
def GridWaysCardSaid : Prop := Claim7.holds Tryz.pinned (.plain (OpenSpec.ofChange gridWaysSpec)) gridWaysCard

/-- THE TIED CARD OF 'figureheadlaw24.GridZero'. -/
def gridZeroCard : Claim7 := { stood := { row := gridZeroRow, standIns := [], harness := (true, "d3e0695dadc108cd9002bb26c725ac085abb73ec05356b433848100e787542b1"), looks := false }, kinds := [], alts := [], laidByText := true, laidKinds := [.funcs, .data, .data, .pinned], laidTests := true, laidLooks := .later }
def GridZeroCardSaid : Prop := Claim7.holds Tryz.pinned (.plain (OpenSpec.ofChange gridZeroSpec)) gridZeroCard

/-- THE TIED CARD OF 'figureheadlaw19.ShapeRounds'. -/
def shapeRoundsCard : Claim7 := { stood := { row := shapeRoundsRow, standIns := [], harness := (true, "d3e0695dadc108cd9002bb26c725ac085abb73ec05356b433848100e787542b1"), looks := false }, kinds := [], alts := [], laidByText := true, laidKinds := [.funcs, .data, .data, .pinned], laidTests := true, laidLooks := .later }
def ShapeRoundsCardSaid : Prop := Claim7.holds Tryz.pinned (.plain (OpenSpec.ofChange shapeRoundsSpec)) shapeRoundsCard

/-- THE TIED CARD OF 'figureheadlaw19.ShapeLays'. -/
def shapeLaysCard : Claim7 := { stood := { row := shapeLaysRow, standIns := [], harness := (true, "d3e0695dadc108cd9002bb26c725ac085abb73ec05356b433848100e787542b1"), looks := false }, kinds := [], alts := [], laidByText := true, laidKinds := [.funcs, .data, .data, .pinned], laidTests := true, laidLooks := .later }
def ShapeLaysCardSaid : Prop := Claim7.holds Tryz.pinned (.plain (OpenSpec.ofChange shapeLaysSpec)) shapeLaysCard

/-- THE TIED CARD OF 'figureheadlaw19.ShapeCounts'. -/
def shapeCountsCard : Claim7 := { stood := { row := shapeCountsRow, standIns := [], harness := (true, "d3e0695dadc108cd9002bb26c725ac085abb73ec05356b433848100e787542b1"), looks := false }, kinds := [], alts := [], laidByText := true, laidKinds := [.funcs, .data, .data, .pinned], laidTests := true, laidLooks := .later }
def ShapeCountsCardSaid : Prop := Claim7.holds Tryz.pinned (.plain (OpenSpec.ofChange shapeCountsSpec)) shapeCountsCard

/-- THE TIED CARD OF 'figureheadlaw19.ShapeValue'. -/
def shapeValueCard : Claim7 := { stood := { row := shapeValueRow, standIns := [], harness := (true, "d3e0695dadc108cd9002bb26c725ac085abb73ec05356b433848100e787542b1"), looks := false }, kinds := [], alts := [], laidByText := true, laidKinds := [.funcs, .data, .data, .pinned], laidTests := true, laidLooks := .later }
def ShapeValueCardSaid : Prop := Claim7.holds Tryz.pinned (.plain (OpenSpec.ofChange shapeValueSpec)) shapeValueCard

/-- THE SECOND FORM's CARD OF 'figureheadlaw19.ShapeAgain'. -/
def shapeAgainUptoCard : Claim7 := { stood := { row := shapeAgainUptoRow, standIns := [], harness := (true, "d3e0695dadc108cd9002bb26c725ac085abb73ec05356b433848100e787542b1"), looks := false }, kinds := [], alts := [], laidByText := true, laidKinds := [.funcs, .data, .data, .pinned], laidTests := true, laidLooks := .later }
def ShapeAgainUptoCardSaid : Prop := Claim7.holds Tryz.pinned (.plain (OpenSpec.upto shapeAgainSpec)) shapeAgainUptoCard

/-- THE SECOND FORM's CARD OF 'figureheadlaw19.ShapeSigned'. -/
def shapeSignedUptoCard : Claim7 := { stood := { row := shapeSignedUptoRow, standIns := [], harness := (true, "d3e0695dadc108cd9002bb26c725ac085abb73ec05356b433848100e787542b1"), looks := false }, kinds := [], alts := [], laidByText := true, laidKinds := [.funcs, .data, .data, .pinned], laidTests := true, laidLooks := .later }
def ShapeSignedUptoCardSaid : Prop := Claim7.holds Tryz.pinned (.plain (OpenSpec.upto shapeSignedSpec)) shapeSignedUptoCard

/-- THE SECOND FORM's CARD OF 'figureheadlaw24.GridOrders'. -/
def gridOrdersUptoCard : Claim7 := { stood := { row := gridOrdersUptoRow, standIns := [], harness := (true, "d3e0695dadc108cd9002bb26c725ac085abb73ec05356b433848100e787542b1"), looks := false }, kinds := [], alts := [], laidByText := true, laidKinds := [.funcs, .data, .data, .pinned], laidTests := true, laidLooks := .later }
def GridOrdersUptoCardSaid : Prop := Claim7.holds Tryz.pinned (.plain (OpenSpec.upto gridOrdersSpec)) gridOrdersUptoCard

/-- THE SECOND FORM's CARD OF 'figureheadlaw24.GridWays'. -/
def gridWaysUptoCard : Claim7 := { stood := { row := gridWaysUptoRow, standIns := [], harness := (true, "d3e0695dadc108cd9002bb26c725ac085abb73ec05356b433848100e787542b1"), looks := false }, kinds := [], alts := [], laidByText := true, laidKinds := [.funcs, .data, .data, .pinned], laidTests := true, laidLooks := .later }
def GridWaysUptoCardSaid : Prop := Claim7.holds Tryz.pinned (.plain (OpenSpec.upto gridWaysSpec)) gridWaysUptoCard

/-- THE SECOND FORM's CARD OF 'figureheadlaw24.GridZero'. -/
def gridZeroUptoCard : Claim7 := { stood := { row := gridZeroUptoRow, standIns := [], harness := (true, "d3e0695dadc108cd9002bb26c725ac085abb73ec05356b433848100e787542b1"), looks := false }, kinds := [], alts := [], laidByText := true, laidKinds := [.funcs, .data, .data, .pinned], laidTests := true, laidLooks := .later }
def GridZeroUptoCardSaid : Prop := Claim7.holds Tryz.pinned (.plain (OpenSpec.upto gridZeroSpec)) gridZeroUptoCard

/-- THE SECOND FORM's CARD OF 'figureheadlaw19.ShapeRounds'. -/
def shapeRoundsUptoCard : Claim7 := { stood := { row := shapeRoundsUptoRow, standIns := [], harness := (true, "d3e0695dadc108cd9002bb26c725ac085abb73ec05356b433848100e787542b1"), looks := false }, kinds := [], alts := [], laidByText := true, laidKinds := [.funcs, .data, .data, .pinned], laidTests := true, laidLooks := .later }
def ShapeRoundsUptoCardSaid : Prop := Claim7.holds Tryz.pinned (.plain (OpenSpec.upto shapeRoundsSpec)) shapeRoundsUptoCard

/-- THE SECOND FORM's CARD OF 'figureheadlaw19.ShapeLays'. -/
def shapeLaysUptoCard : Claim7 := { stood := { row := shapeLaysUptoRow, standIns := [], harness := (true, "d3e0695dadc108cd9002bb26c725ac085abb73ec05356b433848100e787542b1"), looks := false }, kinds := [], alts := [], laidByText := true, laidKinds := [.funcs, .data, .data, .pinned], laidTests := true, laidLooks := .later }
def ShapeLaysUptoCardSaid : Prop := Claim7.holds Tryz.pinned (.plain (OpenSpec.upto shapeLaysSpec)) shapeLaysUptoCard

/-- THE SECOND FORM's CARD OF 'figureheadlaw19.ShapeCounts'. -/
def shapeCountsUptoCard : Claim7 := { stood := { row := shapeCountsUptoRow, standIns := [], harness := (true, "d3e0695dadc108cd9002bb26c725ac085abb73ec05356b433848100e787542b1"), looks := false }, kinds := [], alts := [], laidByText := true, laidKinds := [.funcs, .data, .data, .pinned], laidTests := true, laidLooks := .later }
def ShapeCountsUptoCardSaid : Prop := Claim7.holds Tryz.pinned (.plain (OpenSpec.upto shapeCountsSpec)) shapeCountsUptoCard

/-- THE SECOND FORM's CARD OF 'figureheadlaw19.ShapeValue'. -/
def shapeValueUptoCard : Claim7 := { stood := { row := shapeValueUptoRow, standIns := [], harness := (true, "d3e0695dadc108cd9002bb26c725ac085abb73ec05356b433848100e787542b1"), looks := false }, kinds := [], alts := [], laidByText := true, laidKinds := [.funcs, .data, .data, .pinned], laidTests := true, laidLooks := .later }
def ShapeValueUptoCardSaid : Prop := Claim7.holds Tryz.pinned (.plain (OpenSpec.upto shapeValueSpec)) shapeValueUptoCard
end Rows
end Go.Proofs.YtcmgdjnjmobkoaaGreatDoor
