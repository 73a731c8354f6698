/-
  DERIVED. GIVEN WITH THE SEED: THE CARDS: each row of YtekkpmoppihlaaaDoorRows.lean that lists a variable, with what it lists TIED to the program's text (the seventh form; the later family's looks); each row that meets fmt, with fmt's text TOLD by the authors' own Lean function (tested against real Go, not proved from fmt's source: count such statements apart). THE CARD IS WHAT COUNTS. Prove the row's statement (the work); the ties are given (YtekkpmoppihlaaaDoorTie.lean); close each card by the builder's one call (the guide's Derived/Test/ToyasCard.lean, 'card_holds'). Laid BY PROGRAM, IN A SANDBOX (cutbox-door.mjs). By AI agents, Wed Nov 11 2026. No macro, syntax, notation, axiom, sorry.
-/
import Derived.Test.YtekkpmoppihlaaaDoorRows
import GoSem.ClaimSeven
namespace Go.Proofs.YtekkpmoppihlaaaDoor
namespace Rows

/-- THE TIED CARD OF 'figureheadlaw10.IncRounds'. -/
def incRoundsCard : Claim7 := { stood := { row := incRoundsRow, standIns := [], harness := (true, "fd631e2d20c0ba6a75b0349de3e250d0481866426e6dab0f435b4294ea39ae51"), looks := false }, kinds := [], alts := [], laidByText := true, laidKinds := [.funcs, .data, .data, .pinned], laidTests := true, laidLooks := .later }
def IncRoundsCardSaid : Prop := Claim7.holds Tryd.pinned (.plain (OpenSpec.ofChange incRoundsSpec)) incRoundsCard

/-- THE TIED CARD OF 'figureheadlaw10.IncNear'. -/
def incNearCard : Claim7 := { stood := { row := incNearRow, standIns := [], harness := (true, "fd631e2d20c0ba6a75b0349de3e250d0481866426e6dab0f435b4294ea39ae51"), looks := false }, kinds := [], alts := [], laidByText := true, laidKinds := [.funcs, .data, .data, .pinned], laidTests := true, laidLooks := .later }
def IncNearCardSaid : Prop := Claim7.holds Tryd.pinned (.plain (OpenSpec.ofChange incNearSpec)) incNearCard

/-- THE TIED CARD OF 'figureheadlaw10.IncOrders'. -/
def incOrdersCard : Claim7 := { stood := { row := incOrdersRow, standIns := [], harness := (true, "fd631e2d20c0ba6a75b0349de3e250d0481866426e6dab0f435b4294ea39ae51"), looks := false }, kinds := [], alts := [], laidByText := true, laidKinds := [.funcs, .data, .data, .pinned], laidTests := true, laidLooks := .later }
def IncOrdersCardSaid : Prop := Claim7.holds Tryd.pinned (.plain (OpenSpec.ofChange incOrdersSpec)) incOrdersCard

/-- THE TIED CARD OF 'figureheadlaw10.IncTens'. -/
def incTensCard : Claim7 := { stood := { row := incTensRow, standIns := [], harness := (true, "fd631e2d20c0ba6a75b0349de3e250d0481866426e6dab0f435b4294ea39ae51"), looks := false }, kinds := [], alts := [], laidByText := true, laidKinds := [.funcs, .data, .data, .pinned], laidTests := true, laidLooks := .later }
def IncTensCardSaid : Prop := Claim7.holds Tryd.pinned (.plain (OpenSpec.ofChange incTensSpec)) incTensCard

/-- THE TIED CARD OF 'figureheadlaw10.IncOnes'. -/
def incOnesCard : Claim7 := { stood := { row := incOnesRow, standIns := [], harness := (true, "fd631e2d20c0ba6a75b0349de3e250d0481866426e6dab0f435b4294ea39ae51"), looks := false }, kinds := [], alts := [], laidByText := true, laidKinds := [.funcs, .data, .data, .pinned], laidTests := true, laidLooks := .later }
def IncOnesCardSaid : Prop := Claim7.holds Tryd.pinned (.plain (OpenSpec.ofChange incOnesSpec)) incOnesCard

/-- THE SECOND FORM's CARD OF 'figureheadlaw10.IncRounds'. -/
def incRoundsUptoCard : Claim7 := { stood := { row := incRoundsUptoRow, standIns := [], harness := (true, "fd631e2d20c0ba6a75b0349de3e250d0481866426e6dab0f435b4294ea39ae51"), looks := false }, kinds := [], alts := [], laidByText := true, laidKinds := [.funcs, .data, .data, .pinned], laidTests := true, laidLooks := .later }
def IncRoundsUptoCardSaid : Prop := Claim7.holds Tryd.pinned (.plain (OpenSpec.upto incRoundsSpec)) incRoundsUptoCard

/-- THE SECOND FORM's CARD OF 'figureheadlaw10.IncNear'. -/
def incNearUptoCard : Claim7 := { stood := { row := incNearUptoRow, standIns := [], harness := (true, "fd631e2d20c0ba6a75b0349de3e250d0481866426e6dab0f435b4294ea39ae51"), looks := false }, kinds := [], alts := [], laidByText := true, laidKinds := [.funcs, .data, .data, .pinned], laidTests := true, laidLooks := .later }
def IncNearUptoCardSaid : Prop := Claim7.holds Tryd.pinned (.plain (OpenSpec.upto incNearSpec)) incNearUptoCard

/-- THE SECOND FORM's CARD OF 'figureheadlaw10.IncOrders'. -/
def incOrdersUptoCard : Claim7 := { stood := { row := incOrdersUptoRow, standIns := [], harness := (true, "fd631e2d20c0ba6a75b0349de3e250d0481866426e6dab0f435b4294ea39ae51"), looks := false }, kinds := [], alts := [], laidByText := true, laidKinds := [.funcs, .data, .data, .pinned], laidTests := true, laidLooks := .later }
def IncOrdersUptoCardSaid : Prop := Claim7.holds Tryd.pinned (.plain (OpenSpec.upto incOrdersSpec)) incOrdersUptoCard

/-- THE SECOND FORM's CARD OF 'figureheadlaw10.IncTens'. -/
def incTensUptoCard : Claim7 := { stood := { row := incTensUptoRow, standIns := [], harness := (true, "fd631e2d20c0ba6a75b0349de3e250d0481866426e6dab0f435b4294ea39ae51"), looks := false }, kinds := [], alts := [], laidByText := true, laidKinds := [.funcs, .data, .data, .pinned], laidTests := true, laidLooks := .later }
def IncTensUptoCardSaid : Prop := Claim7.holds Tryd.pinned (.plain (OpenSpec.upto incTensSpec)) incTensUptoCard

/-- THE SECOND FORM's CARD OF 'figureheadlaw10.IncOnes'. -/
def incOnesUptoCard : Claim7 := { stood := { row := incOnesUptoRow, standIns := [], harness := (true, "fd631e2d20c0ba6a75b0349de3e250d0481866426e6dab0f435b4294ea39ae51"), looks := false }, kinds := [], alts := [], laidByText := true, laidKinds := [.funcs, .data, .data, .pinned], laidTests := true, laidLooks := .later }
def IncOnesUptoCardSaid : Prop := Claim7.holds Tryd.pinned (.plain (OpenSpec.upto incOnesSpec)) incOnesUptoCard
end Rows
end Go.Proofs.YtekkpmoppihlaaaDoor
