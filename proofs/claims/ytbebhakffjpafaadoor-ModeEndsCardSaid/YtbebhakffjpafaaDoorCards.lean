/-
  DERIVED. GIVEN WITH THE SEED: THE CARDS: each row of YtbebhakffjpafaaDoorRows.lean that lists a variable, with what it lists TIED to the program's text (the seventh form; the later family's looks); each row that meets fmt, with fmt's text TOLD by the authors' own Lean function (tested against real Go, not proved from fmt's source: count such statements apart). THE CARD IS WHAT COUNTS. Prove the row's statement (the work); the ties are given (YtbebhakffjpafaaDoorTie.lean); close each card by the builder's one call (the guide's Derived/Test/ToyasCard.lean, 'card_holds'). Laid BY PROGRAM, IN A SANDBOX (cutbox-door.mjs). By AI agents, Wed Nov 11 2026. No macro, syntax, notation, axiom, sorry.
-/
import Derived.Test.YtbebhakffjpafaaDoorRows
import GoSem.ClaimSeven
namespace Go.Proofs.YtbebhakffjpafaaDoor
namespace Rows

/-- THE TIED CARD OF 'figureheadlaw07.ModeAways'. -/
def modeAwaysCard : Claim7 := { stood := { row := modeAwaysRow, standIns := [], harness := (true, "a3eb5b760fb45495829e497f2b4fcbef90e34557323dd06b8a80f7bc65dd3965"), looks := false }, kinds := [], alts := [], laidByText := true, laidKinds := [.funcs], laidTests := true, laidLooks := .later }
def ModeAwaysCardSaid : Prop := Claim7.holds Tryd.pinned (.plain (OpenSpec.ofChange modeAwaysSpec)) modeAwaysCard

/-- THE TIED CARD OF 'figureheadlaw07.ModeTurned'. -/
def modeTurnedCard : Claim7 := { stood := { row := modeTurnedRow, standIns := [], harness := (true, "a3eb5b760fb45495829e497f2b4fcbef90e34557323dd06b8a80f7bc65dd3965"), looks := false }, kinds := [], alts := [], laidByText := true, laidKinds := [.funcs], laidTests := true, laidLooks := .later }
def ModeTurnedCardSaid : Prop := Claim7.holds Tryd.pinned (.plain (OpenSpec.ofChange modeTurnedSpec)) modeTurnedCard

/-- THE TIED CARD OF 'figureheadlaw07.ModeNear'. -/
def modeNearCard : Claim7 := { stood := { row := modeNearRow, standIns := [], harness := (true, "a3eb5b760fb45495829e497f2b4fcbef90e34557323dd06b8a80f7bc65dd3965"), looks := false }, kinds := [], alts := [], laidByText := true, laidKinds := [.funcs], laidTests := true, laidLooks := .later }
def ModeNearCardSaid : Prop := Claim7.holds Tryd.pinned (.plain (OpenSpec.ofChange modeNearSpec)) modeNearCard

/-- THE TIED CARD OF 'figureheadlaw07.ModeEnds'. -/
def modeEndsCard : Claim7 := { stood := { row := modeEndsRow, standIns := [], harness := (true, "a3eb5b760fb45495829e497f2b4fcbef90e34557323dd06b8a80f7bc65dd3965"), looks := false }, kinds := [], alts := [], laidByText := true, laidKinds := [.funcs], laidTests := true, laidLooks := .later }
def ModeEndsCardSaid : Prop := Claim7.holds Tryd.pinned (.plain (OpenSpec.ofChange modeEndsSpec)) modeEndsCard

/-- THE SECOND FORM's CARD OF 'figureheadlaw07.ModeAways'. -/
def modeAwaysUptoCard : Claim7 := { stood := { row := modeAwaysUptoRow, standIns := [], harness := (true, "a3eb5b760fb45495829e497f2b4fcbef90e34557323dd06b8a80f7bc65dd3965"), looks := false }, kinds := [], alts := [], laidByText := true, laidKinds := [.funcs], laidTests := true, laidLooks := .later }
def ModeAwaysUptoCardSaid : Prop := Claim7.holds Tryd.pinned (.plain (OpenSpec.upto modeAwaysSpec)) modeAwaysUptoCard

/-- THE SECOND FORM's CARD OF 'figureheadlaw07.ModeTurned'. -/
def modeTurnedUptoCard : Claim7 := { stood := { row := modeTurnedUptoRow, standIns := [], harness := (true, "a3eb5b760fb45495829e497f2b4fcbef90e34557323dd06b8a80f7bc65dd3965"), looks := false }, kinds := [], alts := [], laidByText := true, laidKinds := [.funcs], laidTests := true, laidLooks := .later }
def ModeTurnedUptoCardSaid : Prop := Claim7.holds Tryd.pinned (.plain (OpenSpec.upto modeTurnedSpec)) modeTurnedUptoCard

/-- THE SECOND FORM's CARD OF 'figureheadlaw07.ModeNear'. -/
def modeNearUptoCard : Claim7 := { stood := { row := modeNearUptoRow, standIns := [], harness := (true, "a3eb5b760fb45495829e497f2b4fcbef90e34557323dd06b8a80f7bc65dd3965"), looks := false }, kinds := [], alts := [], laidByText := true, laidKinds := [.funcs], laidTests := true, laidLooks := .later }
def ModeNearUptoCardSaid : Prop := Claim7.holds Tryd.pinned (.plain (OpenSpec.upto modeNearSpec)) modeNearUptoCard

/-- THE SECOND FORM's CARD OF 'figureheadlaw07.ModeEnds'. -/
def modeEndsUptoCard : Claim7 := { stood := { row := modeEndsUptoRow, standIns := [], harness := (true, "a3eb5b760fb45495829e497f2b4fcbef90e34557323dd06b8a80f7bc65dd3965"), looks := false }, kinds := [], alts := [], laidByText := true, laidKinds := [.funcs], laidTests := true, laidLooks := .later }
def ModeEndsUptoCardSaid : Prop := Claim7.holds Tryd.pinned (.plain (OpenSpec.upto modeEndsSpec)) modeEndsUptoCard
end Rows
end Go.Proofs.YtbebhakffjpafaaDoor
