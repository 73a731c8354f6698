/-
  DERIVED. GIVEN WITH THE SEED: THE CARDS: each row of YtnpibnjncjieaaaDoorRows.lean that lists a variable, with what it lists TIED to the program's text (the seventh form; the later family's looks); each row that meets fmt, with fmt's text TOLD by the authors' own Lean function (tested against real Go, not proved from fmt's source: count such statements apart). THE CARD IS WHAT COUNTS. Prove the row's statement (the work); the ties are given (YtnpibnjncjieaaaDoorTie.lean); close each card by the builder's one call (the guide's Derived/Test/ToyasCard.lean, 'card_holds'). Laid BY PROGRAM, IN A SANDBOX (cutbox-door.mjs). By AI agents, Wed Nov 11 2026. No macro, syntax, notation, axiom, sorry.
-/
import Derived.Test.YtnpibnjncjieaaaDoorRows
import GoSem.ClaimSeven
namespace Go.Proofs.YtnpibnjncjieaaaDoor
namespace Rows

/-- THE TIED CARD OF 'figureheadlaw04.TenDigits'. -/
def tenDigitsCard : Claim7 := { stood := { row := tenDigitsRow, standIns := [], harness := (true, "7ea8b553fb2d00449ce924c0b0cc1b431e5407f819aaf7b8c4400184e6aa1c4e"), looks := false }, kinds := [], alts := [], laidByText := true, laidKinds := [.data, .data, .pinned], laidTests := true, laidLooks := .later }
def TenDigitsCardSaid : Prop := Claim7.holds Tryd.pinned (.plain (OpenSpec.ofChange tenDigitsSpec)) tenDigitsCard

/-- THE TIED CARD OF 'figureheadlaw04.TenNumbers'. -/
def tenNumbersCard : Claim7 := { stood := { row := tenNumbersRow, standIns := [], harness := (true, "7ea8b553fb2d00449ce924c0b0cc1b431e5407f819aaf7b8c4400184e6aa1c4e"), looks := false }, kinds := [], alts := [], laidByText := true, laidKinds := [.data, .data, .pinned], laidTests := true, laidLooks := .later }
def TenNumbersCardSaid : Prop := Claim7.holds Tryd.pinned (.plain (OpenSpec.ofChange tenNumbersSpec)) tenNumbersCard

/-- THE TIED CARD OF 'figureheadlaw04.TenShifts'. -/
def tenShiftsCard : Claim7 := { stood := { row := tenShiftsRow, standIns := [], harness := (true, "7ea8b553fb2d00449ce924c0b0cc1b431e5407f819aaf7b8c4400184e6aa1c4e"), looks := false }, kinds := [], alts := [], laidByText := true, laidKinds := [.data, .data, .pinned], laidTests := true, laidLooks := .later }
def TenShiftsCardSaid : Prop := Claim7.holds Tryd.pinned (.plain (OpenSpec.ofChange tenShiftsSpec)) tenShiftsCard

/-- THE TIED CARD OF 'figureheadlaw04.TenBack'. -/
def tenBackCard : Claim7 := { stood := { row := tenBackRow, standIns := [], harness := (true, "7ea8b553fb2d00449ce924c0b0cc1b431e5407f819aaf7b8c4400184e6aa1c4e"), looks := false }, kinds := [], alts := [], laidByText := true, laidKinds := [.data, .data, .pinned], laidTests := true, laidLooks := .later }
def TenBackCardSaid : Prop := Claim7.holds Tryd.pinned (.plain (OpenSpec.ofChange tenBackSpec)) tenBackCard

/-- THE TIED CARD OF 'figureheadlaw04.TenOwn'. -/
def tenOwnCard : Claim7 := { stood := { row := tenOwnRow, standIns := [], harness := (true, "7ea8b553fb2d00449ce924c0b0cc1b431e5407f819aaf7b8c4400184e6aa1c4e"), looks := false }, kinds := [], alts := [], laidByText := true, laidKinds := [.data, .data, .pinned], laidTests := true, laidLooks := .later }
def TenOwnCardSaid : Prop := Claim7.holds Tryd.pinned (.plain (OpenSpec.ofChange tenOwnSpec)) tenOwnCard

/-- THE SECOND FORM's CARD OF 'figureheadlaw04.TenDigits'. -/
def tenDigitsUptoCard : Claim7 := { stood := { row := tenDigitsUptoRow, standIns := [], harness := (true, "7ea8b553fb2d00449ce924c0b0cc1b431e5407f819aaf7b8c4400184e6aa1c4e"), looks := false }, kinds := [], alts := [], laidByText := true, laidKinds := [.data, .data, .pinned], laidTests := true, laidLooks := .later }
def TenDigitsUptoCardSaid : Prop := Claim7.holds Tryd.pinned (.plain (OpenSpec.upto tenDigitsSpec)) tenDigitsUptoCard

/-- THE SECOND FORM's CARD OF 'figureheadlaw04.TenNumbers'. -/
def tenNumbersUptoCard : Claim7 := { stood := { row := tenNumbersUptoRow, standIns := [], harness := (true, "7ea8b553fb2d00449ce924c0b0cc1b431e5407f819aaf7b8c4400184e6aa1c4e"), looks := false }, kinds := [], alts := [], laidByText := true, laidKinds := [.data, .data, .pinned], laidTests := true, laidLooks := .later }
def TenNumbersUptoCardSaid : Prop := Claim7.holds Tryd.pinned (.plain (OpenSpec.upto tenNumbersSpec)) tenNumbersUptoCard

/-- THE SECOND FORM's CARD OF 'figureheadlaw04.TenShifts'. -/
def tenShiftsUptoCard : Claim7 := { stood := { row := tenShiftsUptoRow, standIns := [], harness := (true, "7ea8b553fb2d00449ce924c0b0cc1b431e5407f819aaf7b8c4400184e6aa1c4e"), looks := false }, kinds := [], alts := [], laidByText := true, laidKinds := [.data, .data, .pinned], laidTests := true, laidLooks := .later }
def TenShiftsUptoCardSaid : Prop := Claim7.holds Tryd.pinned (.plain (OpenSpec.upto tenShiftsSpec)) tenShiftsUptoCard

/-- THE SECOND FORM's CARD OF 'figureheadlaw04.TenBack'. -/
def tenBackUptoCard : Claim7 := { stood := { row := tenBackUptoRow, standIns := [], harness := (true, "7ea8b553fb2d00449ce924c0b0cc1b431e5407f819aaf7b8c4400184e6aa1c4e"), looks := false }, kinds := [], alts := [], laidByText := true, laidKinds := [.data, .data, .pinned], laidTests := true, laidLooks := .later }
def TenBackUptoCardSaid : Prop := Claim7.holds Tryd.pinned (.plain (OpenSpec.upto tenBackSpec)) tenBackUptoCard

/-- THE SECOND FORM's CARD OF 'figureheadlaw04.TenOwn'. -/
def tenOwnUptoCard : Claim7 := { stood := { row := tenOwnUptoRow, standIns := [], harness := (true, "7ea8b553fb2d00449ce924c0b0cc1b431e5407f819aaf7b8c4400184e6aa1c4e"), looks := false }, kinds := [], alts := [], laidByText := true, laidKinds := [.data, .data, .pinned], laidTests := true, laidLooks := .later }
def TenOwnUptoCardSaid : Prop := Claim7.holds Tryd.pinned (.plain (OpenSpec.upto tenOwnSpec)) tenOwnUptoCard
end Rows
end Go.Proofs.YtnpibnjncjieaaaDoor
