/-
  NARROWER THAN 'FOR EVERY INPUT', by the rows' own cells (each row's printed sentence says how): TenDigits: laid · TenNumbers: laid · TenShifts: laid · TenBack: laid · TenOwn: laid.
  DERIVED. THE GIVEN ROWS OF THIS SEAT. 5 by the template 'for every input the law returns true; each argument reads behind the call as it read before'; 0 by the template 'total and deterministic' (their statements: YtnpibnjncjieaaaDoorTotals.lean).
  GIVEN WITH THE SEED: the statements are not yours to turn. If you find one false, say at which input.
  Laid BY PROGRAM, IN A SANDBOX (cutbox-rows.mjs): the forced cells as the released guide's own fill.sh prints them over the translation a4cd36b223bc6492… (all of the seat's roots in one cut). By AI agents, Wed Nov 11 2026. No macro, syntax, notation, axiom, sorry.
-/
import Derived.Test.YtnpibnjncjieaaaDoorChecked
import GoSem.PinnedTables
import GoSem.Claim
import GoSem.ClaimJoined
import GoSem.ClaimMapViews
import Derived.JoinedTies
import Derived.KernelRfl
namespace Go.Proofs.YtnpibnjncjieaaaDoor
/- THE CELL 'sum', in the pinned program and in every row, IS THE sha256 OF THE DUMP (.gsa) THAT YtnpibnjncjieaaaDoorProg.lean LOADS. Nothing in Lean hashes anything: it is a label: what it is worth is what the hold of that sum in a sandbox is worth. -/
noncomputable def Tryd.pinned : Pinned := { name := "ytnpibnjncjieaaadoor", sum := "a4cd36b223bc6492c49a031d867d3d0954486b667c61c8cd8fa7aa72b299dab3", checked := Tryd.checked }
namespace Rows
def none {H : Type} : Left H := { results := [], args := [] }

/- WHAT THE LISTED PACKAGE-LEVEL VARIABLES READ AS WHEN THE CALL BEGINS. Each datum BY PROGRAM (the guide's laid-datum.mjs) off the statement by which the dump's own 'gosem.cut.vars' lays the variable. In a bare row this is a premise. The card (YtnpibnjncjieaaaDoorCards.lean) ties it to the program's text. -/
def laid_unicode_utf8_acceptRanges {H : Type} : DataW H := .agg [.agg [.lit (.int .u8 128), .lit (.int .u8 191)], .agg [.lit (.int .u8 160), .lit (.int .u8 191)], .agg [.lit (.int .u8 128), .lit (.int .u8 159)], .agg [.lit (.int .u8 144), .lit (.int .u8 191)], .agg [.lit (.int .u8 128), .lit (.int .u8 143)], .agg [.lit (.int .u8 0), .lit (.int .u8 0)], .agg [.lit (.int .u8 0), .lit (.int .u8 0)], .agg [.lit (.int .u8 0), .lit (.int .u8 0)], .agg [.lit (.int .u8 0), .lit (.int .u8 0)], .agg [.lit (.int .u8 0), .lit (.int .u8 0)], .agg [.lit (.int .u8 0), .lit (.int .u8 0)], .agg [.lit (.int .u8 0), .lit (.int .u8 0)], .agg [.lit (.int .u8 0), .lit (.int .u8 0)], .agg [.lit (.int .u8 0), .lit (.int .u8 0)], .agg [.lit (.int .u8 0), .lit (.int .u8 0)], .agg [.lit (.int .u8 0), .lit (.int .u8 0)]]
def laid_figurehead_ten_powers {H : Type} : DataW H := .agg [.lit (.int .u32 1), .lit (.int .u32 10), .lit (.int .u32 100), .lit (.int .u32 1000), .lit (.int .u32 10000), .lit (.int .u32 100000), .lit (.int .u32 1000000), .lit (.int .u32 10000000), .lit (.int .u32 100000000)]
/-- One of Go's own tables, pinned by name: the form's constant. -/
def laid_unicode_utf8_first : DataW Unit := Go.Pinned.utf8First

/-- 'figureheadlaw04.TenDigits': WHATEVER THE INPUT: true; the input reads as it did. -/
def tenDigitsSpec : ChangeSpec := { name := "tenDigits", fn := fun _ => fun
  | [d] => { results := [.lit (.bool true)], args := [d] }
  | _ => none }
def tenDigitsRow : OpenClaim := { program := "ytnpibnjncjieaaadoor", sum := "a4cd36b223bc6492c49a031d867d3d0954486b667c61c8cd8fa7aa72b299dab3", func := "figurehead/figureheadlaw04.TenDigits", spec := "tenDigits", inPlace := ["internal/abi.NoEscape", "internal/bytealg.IndexByteString", "internal/bytealg.IndexString"], unfollowed := true, recurses := true, named := ["figurehead/ten.powers", "unicode/utf8.first", "unicode/utf8.acceptRanges", "internal/bytealg.MaxLen"], apart := false, laid := [("unicode/utf8.acceptRanges", laid_unicode_utf8_acceptRanges), ("figurehead/ten.powers", laid_figurehead_ten_powers), ("unicode/utf8.first", laid_unicode_utf8_first)] }
def TenDigitsSaid : Prop := tenDigitsRow.holds Tryd.pinned (OpenSpec.ofChange tenDigitsSpec)

/-- ITS FALSE NEIGHBOUR: 'it returns false'. Refute it at one input. -/
def tenDigitsWrong : ChangeSpec := { name := "tenDigits", fn := fun _ => fun
  | [d] => { results := [.lit (.bool false)], args := [d] }
  | _ => none }
def TenDigitsWrongFalsely : Prop := tenDigitsRow.holds Tryd.pinned (OpenSpec.ofChange tenDigitsWrong)

/-- 'figureheadlaw04.TenNumbers': WHATEVER THE INPUT: true; the input reads as it did. -/
def tenNumbersSpec : ChangeSpec := { name := "tenNumbers", fn := fun _ => fun
  | [d] => { results := [.lit (.bool true)], args := [d] }
  | _ => none }
def tenNumbersRow : OpenClaim := { program := "ytnpibnjncjieaaadoor", sum := "a4cd36b223bc6492c49a031d867d3d0954486b667c61c8cd8fa7aa72b299dab3", func := "figurehead/figureheadlaw04.TenNumbers", spec := "tenNumbers", inPlace := ["internal/abi.NoEscape", "internal/bytealg.IndexByteString", "internal/bytealg.IndexString"], unfollowed := true, recurses := true, named := ["figurehead/ten.powers", "unicode/utf8.first", "unicode/utf8.acceptRanges", "internal/bytealg.MaxLen"], apart := false, laid := [("unicode/utf8.acceptRanges", laid_unicode_utf8_acceptRanges), ("figurehead/ten.powers", laid_figurehead_ten_powers), ("unicode/utf8.first", laid_unicode_utf8_first)] }
def TenNumbersSaid : Prop := tenNumbersRow.holds Tryd.pinned (OpenSpec.ofChange tenNumbersSpec)

/-- ITS FALSE NEIGHBOUR: 'it returns false'. Refute it at one input. -/
def tenNumbersWrong : ChangeSpec := { name := "tenNumbers", fn := fun _ => fun
  | [d] => { results := [.lit (.bool false)], args := [d] }
  | _ => none }
def TenNumbersWrongFalsely : Prop := tenNumbersRow.holds Tryd.pinned (OpenSpec.ofChange tenNumbersWrong)

/-- 'figureheadlaw04.TenShifts': WHATEVER THE INPUT: true; the input reads as it did. -/
def tenShiftsSpec : ChangeSpec := { name := "tenShifts", fn := fun _ => fun
  | [d1, d2] => { results := [.lit (.bool true)], args := [d1, d2] }
  | _ => none }
def tenShiftsRow : OpenClaim := { program := "ytnpibnjncjieaaadoor", sum := "a4cd36b223bc6492c49a031d867d3d0954486b667c61c8cd8fa7aa72b299dab3", func := "figurehead/figureheadlaw04.TenShifts", spec := "tenShifts", inPlace := ["internal/abi.NoEscape", "internal/bytealg.IndexByteString", "internal/bytealg.IndexString"], unfollowed := true, recurses := true, named := ["figurehead/ten.powers", "unicode/utf8.first", "unicode/utf8.acceptRanges", "internal/bytealg.MaxLen"], apart := false, laid := [("unicode/utf8.acceptRanges", laid_unicode_utf8_acceptRanges), ("figurehead/ten.powers", laid_figurehead_ten_powers), ("unicode/utf8.first", laid_unicode_utf8_first)] }
def TenShiftsSaid : Prop := tenShiftsRow.holds Tryd.pinned (OpenSpec.ofChange tenShiftsSpec)

/-- ITS FALSE NEIGHBOUR: 'it returns false'. Refute it at one input. -/
def tenShiftsWrong : ChangeSpec := { name := "tenShifts", fn := fun _ => fun
  | [d1, d2] => { results := [.lit (.bool false)], args := [d1, d2] }
  | _ => none }
def TenShiftsWrongFalsely : Prop := tenShiftsRow.holds Tryd.pinned (OpenSpec.ofChange tenShiftsWrong)

/-- 'figureheadlaw04.TenBack': WHATEVER THE INPUT: true; the input reads as it did. -/
def tenBackSpec : ChangeSpec := { name := "tenBack", fn := fun _ => fun
  | [d1, d2, d3] => { results := [.lit (.bool true)], args := [d1, d2, d3] }
  | _ => none }
def tenBackRow : OpenClaim := { program := "ytnpibnjncjieaaadoor", sum := "a4cd36b223bc6492c49a031d867d3d0954486b667c61c8cd8fa7aa72b299dab3", func := "figurehead/figureheadlaw04.TenBack", spec := "tenBack", inPlace := ["internal/abi.NoEscape", "internal/bytealg.IndexByteString", "internal/bytealg.IndexString"], unfollowed := true, recurses := true, named := ["figurehead/ten.powers", "unicode/utf8.first", "unicode/utf8.acceptRanges", "internal/bytealg.MaxLen"], apart := false, laid := [("unicode/utf8.acceptRanges", laid_unicode_utf8_acceptRanges), ("figurehead/ten.powers", laid_figurehead_ten_powers), ("unicode/utf8.first", laid_unicode_utf8_first)] }
def TenBackSaid : Prop := tenBackRow.holds Tryd.pinned (OpenSpec.ofChange tenBackSpec)

/-- ITS FALSE NEIGHBOUR: 'it returns false'. Refute it at one input. -/
def tenBackWrong : ChangeSpec := { name := "tenBack", fn := fun _ => fun
  | [d1, d2, d3] => { results := [.lit (.bool false)], args := [d1, d2, d3] }
  | _ => none }
def TenBackWrongFalsely : Prop := tenBackRow.holds Tryd.pinned (OpenSpec.ofChange tenBackWrong)

/-- 'figureheadlaw04.TenOwn': WHATEVER THE INPUT: true; the input reads as it did. -/
def tenOwnSpec : ChangeSpec := { name := "tenOwn", fn := fun _ => fun
  | [d1, d2] => { results := [.lit (.bool true)], args := [d1, d2] }
  | _ => none }
def tenOwnRow : OpenClaim := { program := "ytnpibnjncjieaaadoor", sum := "a4cd36b223bc6492c49a031d867d3d0954486b667c61c8cd8fa7aa72b299dab3", func := "figurehead/figureheadlaw04.TenOwn", spec := "tenOwn", inPlace := ["internal/abi.NoEscape", "internal/bytealg.IndexByteString", "internal/bytealg.IndexString"], unfollowed := true, recurses := true, named := ["figurehead/ten.powers", "unicode/utf8.first", "unicode/utf8.acceptRanges", "internal/bytealg.MaxLen"], apart := false, laid := [("unicode/utf8.acceptRanges", laid_unicode_utf8_acceptRanges), ("figurehead/ten.powers", laid_figurehead_ten_powers), ("unicode/utf8.first", laid_unicode_utf8_first)] }
def TenOwnSaid : Prop := tenOwnRow.holds Tryd.pinned (OpenSpec.ofChange tenOwnSpec)

/-- ITS FALSE NEIGHBOUR: 'it returns false'. Refute it at one input. -/
def tenOwnWrong : ChangeSpec := { name := "tenOwn", fn := fun _ => fun
  | [d1, d2] => { results := [.lit (.bool false)], args := [d1, d2] }
  | _ => none }
def TenOwnWrongFalsely : Prop := tenOwnRow.holds Tryd.pinned (OpenSpec.ofChange tenOwnWrong)

/- THE SECOND FORM. 'bulk': how many values and letters a reading holds, each counted each time it is reached (what is shared counts as often as it is met; a slice's spare places count too). A statement '..UptoSaid' is the law's where the arguments, and the package variables that the reading takes, are together of bulk at most 1048576: NARROWER than '..Said'. Prove '..Said' where nothing that the law and all that it calls make is longer than what came in: it says more and counts as full. Else prove '..UptoSaid'. A law counts once. -/
mutual
def uptoBulk {H : Type} : DataW H → Nat
  | .lit (.string bytes) => bytes.length + 1
  | .lit _ => 1
  | .nil => 1
  | .ptr d => uptoBulk d + 1
  | .slice elems spare => uptoBulkAll elems + uptoBulkAll spare + 1
  | .agg parts => uptoBulkAll parts + 1
  | .iface _ d => uptoBulk d + 1
  | .map entries => uptoBulkEntries entries + 1
  | .held _ => 1
def uptoBulkAll {H : Type} : List (DataW H) → Nat
  | [] => 0
  | d :: r => uptoBulk d + uptoBulkAll r
def uptoBulkEntries {H : Type} : List (Lit × DataW H) → Nat
  | [] => 0
  | x :: r => uptoBulkEntry x + uptoBulkEntries r
def uptoBulkEntry {H : Type} : Lit × DataW H → Nat
  | (.string bytes, d) => bytes.length + uptoBulk d + 1
  | (_, d) => uptoBulk d + 1
 end
def uptoSmall : (H : Type) → List (DataW H) → Bool := fun _ ds => decide (uptoBulkAll ds ≤ 1048576)
def OpenSpec.upto (s : _root_.Go.ChangeSpec) : _root_.Go.OpenSpec := { _root_.Go.OpenSpec.ofChange s with cond := some uptoSmall }

/-- 'figureheadlaw04.TenDigits', WHERE WHAT IT READS IS OF BULK AT MOST 1048576: true; the input reads as it did. -/
def tenDigitsUptoRow : OpenClaim := { program := "ytnpibnjncjieaaadoor", sum := "a4cd36b223bc6492c49a031d867d3d0954486b667c61c8cd8fa7aa72b299dab3", func := "figurehead/figureheadlaw04.TenDigits", spec := "tenDigits", inPlace := ["internal/abi.NoEscape", "internal/bytealg.IndexByteString", "internal/bytealg.IndexString"], unfollowed := true, recurses := true, named := ["figurehead/ten.powers", "unicode/utf8.first", "unicode/utf8.acceptRanges", "internal/bytealg.MaxLen"], apart := false, laid := [("unicode/utf8.acceptRanges", laid_unicode_utf8_acceptRanges), ("figurehead/ten.powers", laid_figurehead_ten_powers), ("unicode/utf8.first", laid_unicode_utf8_first)], narrowed := true }
def TenDigitsUptoSaid : Prop := tenDigitsUptoRow.holds Tryd.pinned (OpenSpec.upto tenDigitsSpec)

/-- 'figureheadlaw04.TenNumbers', WHERE WHAT IT READS IS OF BULK AT MOST 1048576: true; the input reads as it did. -/
def tenNumbersUptoRow : OpenClaim := { program := "ytnpibnjncjieaaadoor", sum := "a4cd36b223bc6492c49a031d867d3d0954486b667c61c8cd8fa7aa72b299dab3", func := "figurehead/figureheadlaw04.TenNumbers", spec := "tenNumbers", inPlace := ["internal/abi.NoEscape", "internal/bytealg.IndexByteString", "internal/bytealg.IndexString"], unfollowed := true, recurses := true, named := ["figurehead/ten.powers", "unicode/utf8.first", "unicode/utf8.acceptRanges", "internal/bytealg.MaxLen"], apart := false, laid := [("unicode/utf8.acceptRanges", laid_unicode_utf8_acceptRanges), ("figurehead/ten.powers", laid_figurehead_ten_powers), ("unicode/utf8.first", laid_unicode_utf8_first)], narrowed := true }
def TenNumbersUptoSaid : Prop := tenNumbersUptoRow.holds Tryd.pinned (OpenSpec.upto tenNumbersSpec)

/-- 'figureheadlaw04.TenShifts', WHERE WHAT IT READS IS OF BULK AT MOST 1048576: true; the input reads as it did. -/
def tenShiftsUptoRow : OpenClaim := { program := "ytnpibnjncjieaaadoor", sum := "a4cd36b223bc6492c49a031d867d3d0954486b667c61c8cd8fa7aa72b299dab3", func := "figurehead/figureheadlaw04.TenShifts", spec := "tenShifts", inPlace := ["internal/abi.NoEscape", "internal/bytealg.IndexByteString", "internal/bytealg.IndexString"], unfollowed := true, recurses := true, named := ["figurehead/ten.powers", "unicode/utf8.first", "unicode/utf8.acceptRanges", "internal/bytealg.MaxLen"], apart := false, laid := [("unicode/utf8.acceptRanges", laid_unicode_utf8_acceptRanges), ("figurehead/ten.powers", laid_figurehead_ten_powers), ("unicode/utf8.first", laid_unicode_utf8_first)], narrowed := true }
def TenShiftsUptoSaid : Prop := tenShiftsUptoRow.holds Tryd.pinned (OpenSpec.upto tenShiftsSpec)

/-- 'figureheadlaw04.TenBack', WHERE WHAT IT READS IS OF BULK AT MOST 1048576: true; the input reads as it did. -/
def tenBackUptoRow : OpenClaim := { program := "ytnpibnjncjieaaadoor", sum := "a4cd36b223bc6492c49a031d867d3d0954486b667c61c8cd8fa7aa72b299dab3", func := "figurehead/figureheadlaw04.TenBack", spec := "tenBack", inPlace := ["internal/abi.NoEscape", "internal/bytealg.IndexByteString", "internal/bytealg.IndexString"], unfollowed := true, recurses := true, named := ["figurehead/ten.powers", "unicode/utf8.first", "unicode/utf8.acceptRanges", "internal/bytealg.MaxLen"], apart := false, laid := [("unicode/utf8.acceptRanges", laid_unicode_utf8_acceptRanges), ("figurehead/ten.powers", laid_figurehead_ten_powers), ("unicode/utf8.first", laid_unicode_utf8_first)], narrowed := true }
def TenBackUptoSaid : Prop := tenBackUptoRow.holds Tryd.pinned (OpenSpec.upto tenBackSpec)

/-- 'figureheadlaw04.TenOwn', WHERE WHAT IT READS IS OF BULK AT MOST 1048576: true; the input reads as it did. -/
def tenOwnUptoRow : OpenClaim := { program := "ytnpibnjncjieaaadoor", sum := "a4cd36b223bc6492c49a031d867d3d0954486b667c61c8cd8fa7aa72b299dab3", func := "figurehead/figureheadlaw04.TenOwn", spec := "tenOwn", inPlace := ["internal/abi.NoEscape", "internal/bytealg.IndexByteString", "internal/bytealg.IndexString"], unfollowed := true, recurses := true, named := ["figurehead/ten.powers", "unicode/utf8.first", "unicode/utf8.acceptRanges", "internal/bytealg.MaxLen"], apart := false, laid := [("unicode/utf8.acceptRanges", laid_unicode_utf8_acceptRanges), ("figurehead/ten.powers", laid_figurehead_ten_powers), ("unicode/utf8.first", laid_unicode_utf8_first)], narrowed := true }
def TenOwnUptoSaid : Prop := tenOwnUptoRow.holds Tryd.pinned (OpenSpec.upto tenOwnSpec)

end Rows
end Go.Proofs.YtnpibnjncjieaaaDoor
