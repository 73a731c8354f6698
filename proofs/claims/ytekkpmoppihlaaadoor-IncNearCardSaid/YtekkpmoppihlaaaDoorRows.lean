/-
  NARROWER THAN 'FOR EVERY INPUT', by the rows' own cells (each row's printed sentence says how): IncRounds: laid · IncNear: laid · IncOrders: laid · IncTens: laid · IncOnes: laid.
  DERIVED. THE GIVEN ROWS OF THIS SEAT. 5 by the template 'for every input the law returns true; each argument reads behind the call as it read before'; 0 by the template 'total and deterministic' (their statements: YtekkpmoppihlaaaDoorTotals.lean).
  GIVEN WITH THE SEED: the statements are not yours to turn. If you find one false, say at which input.
  Laid BY PROGRAM, IN A SANDBOX (cutbox-rows.mjs): the forced cells as the released guide's own fill.sh prints them over the translation 3ee3a37eab9c42ce… (all of the seat's roots in one cut). By AI agents, Wed Nov 11 2026. No macro, syntax, notation, axiom, sorry.
-/
import Derived.Test.YtekkpmoppihlaaaDoorChecked
import GoSem.PinnedTables
import GoSem.Claim
import GoSem.ClaimJoined
import GoSem.ClaimMapViews
import Derived.JoinedTies
import Derived.KernelRfl
namespace Go.Proofs.YtekkpmoppihlaaaDoor
/- THE CELL 'sum', in the pinned program and in every row, IS THE sha256 OF THE DUMP (.gsa) THAT YtekkpmoppihlaaaDoorProg.lean LOADS. Nothing in Lean hashes anything: it is a label: what it is worth is what the hold of that sum in a sandbox is worth. -/
noncomputable def Tryd.pinned : Pinned := { name := "ytekkpmoppihlaaadoor", sum := "3ee3a37eab9c42ce2b5d004e89eb6c5ca1c9dfaba7d683e41b80d577af80708c", checked := Tryd.checked }
namespace Rows
def none {H : Type} : Left H := { results := [], args := [] }

/- WHAT THE LISTED PACKAGE-LEVEL VARIABLES READ AS WHEN THE CALL BEGINS. Each datum BY PROGRAM (the guide's laid-datum.mjs) off the statement by which the dump's own 'gosem.cut.vars' lays the variable. In a bare row this is a premise. The card (YtekkpmoppihlaaaDoorCards.lean) ties it to the program's text. -/
def laid_figurehead_mode_ways {H : Type} : DataW H := .iface "func table" (.agg [.agg [.iface "func" (.lit (.string [102, 105, 103, 117, 114, 101, 104, 101, 97, 100, 47, 109, 111, 100, 101, 46, 119, 97, 121, 115, 36, 49]))], .agg [.iface "func" (.lit (.string [102, 105, 103, 117, 114, 101, 104, 101, 97, 100, 47, 109, 111, 100, 101, 46, 119, 97, 121, 115, 36, 50]))], .agg [.iface "func" (.lit (.string [102, 105, 103, 117, 114, 101, 104, 101, 97, 100, 47, 109, 111, 100, 101, 46, 119, 97, 121, 115, 36, 51]))], .agg [.iface "func" (.lit (.string [102, 105, 103, 117, 114, 101, 104, 101, 97, 100, 47, 109, 111, 100, 101, 46, 119, 97, 121, 115, 36, 52]))], .agg [.iface "func" (.lit (.string [102, 105, 103, 117, 114, 101, 104, 101, 97, 100, 47, 109, 111, 100, 101, 46, 119, 97, 121, 115, 36, 53]))], .agg [.iface "func" (.lit (.string [102, 105, 103, 117, 114, 101, 104, 101, 97, 100, 47, 109, 111, 100, 101, 46, 119, 97, 121, 115, 36, 54]))], .agg [.iface "func" (.lit (.string [102, 105, 103, 117, 114, 101, 104, 101, 97, 100, 47, 109, 111, 100, 101, 46, 119, 97, 121, 115, 36, 55]))], .agg [.iface "func" (.lit (.string [102, 105, 103, 117, 114, 101, 104, 101, 97, 100, 47, 109, 111, 100, 101, 46, 119, 97, 121, 115, 36, 56]))]])
def laid_unicode_utf8_acceptRanges {H : Type} : DataW H := .agg [.agg [.lit (.int .u8 128), .lit (.int .u8 191)], .agg [.lit (.int .u8 160), .lit (.int .u8 191)], .agg [.lit (.int .u8 128), .lit (.int .u8 159)], .agg [.lit (.int .u8 144), .lit (.int .u8 191)], .agg [.lit (.int .u8 128), .lit (.int .u8 143)], .agg [.lit (.int .u8 0), .lit (.int .u8 0)], .agg [.lit (.int .u8 0), .lit (.int .u8 0)], .agg [.lit (.int .u8 0), .lit (.int .u8 0)], .agg [.lit (.int .u8 0), .lit (.int .u8 0)], .agg [.lit (.int .u8 0), .lit (.int .u8 0)], .agg [.lit (.int .u8 0), .lit (.int .u8 0)], .agg [.lit (.int .u8 0), .lit (.int .u8 0)], .agg [.lit (.int .u8 0), .lit (.int .u8 0)], .agg [.lit (.int .u8 0), .lit (.int .u8 0)], .agg [.lit (.int .u8 0), .lit (.int .u8 0)], .agg [.lit (.int .u8 0), .lit (.int .u8 0)]]
def laid_figurehead_ten_powers {H : Type} : DataW H := .agg [.lit (.int .u32 1), .lit (.int .u32 10), .lit (.int .u32 100), .lit (.int .u32 1000), .lit (.int .u32 10000), .lit (.int .u32 100000), .lit (.int .u32 1000000), .lit (.int .u32 10000000), .lit (.int .u32 100000000)]
/-- One of Go's own tables, pinned by name: the form's constant. -/
def laid_unicode_utf8_first : DataW Unit := Go.Pinned.utf8First

/-- 'figureheadlaw10.IncRounds': WHATEVER THE INPUT: true; the input reads as it did. -/
def incRoundsSpec : ChangeSpec := { name := "incRounds", fn := fun _ => fun
  | [d1, d2, d3, d4] => { results := [.lit (.bool true)], args := [d1, d2, d3, d4] }
  | _ => none }
def incRoundsRow : OpenClaim := { program := "ytekkpmoppihlaaadoor", sum := "3ee3a37eab9c42ce2b5d004e89eb6c5ca1c9dfaba7d683e41b80d577af80708c", func := "figurehead/figureheadlaw10.IncRounds", spec := "incRounds", inPlace := ["internal/bytealg.IndexByteString", "internal/bytealg.IndexString", "internal/abi.NoEscape"], unfollowed := true, recurses := true, named := ["figurehead/ten.powers", "unicode/utf8.first", "unicode/utf8.acceptRanges", "figurehead/mode.ways", "internal/bytealg.MaxLen"], apart := false, laid := [("figurehead/mode.ways", laid_figurehead_mode_ways), ("unicode/utf8.acceptRanges", laid_unicode_utf8_acceptRanges), ("figurehead/ten.powers", laid_figurehead_ten_powers), ("unicode/utf8.first", laid_unicode_utf8_first)] }
def IncRoundsSaid : Prop := incRoundsRow.holds Tryd.pinned (OpenSpec.ofChange incRoundsSpec)

/-- ITS FALSE NEIGHBOUR: 'it returns false'. Refute it at one input. -/
def incRoundsWrong : ChangeSpec := { name := "incRounds", fn := fun _ => fun
  | [d1, d2, d3, d4] => { results := [.lit (.bool false)], args := [d1, d2, d3, d4] }
  | _ => none }
def IncRoundsWrongFalsely : Prop := incRoundsRow.holds Tryd.pinned (OpenSpec.ofChange incRoundsWrong)

/-- 'figureheadlaw10.IncNear': WHATEVER THE INPUT: true; the input reads as it did. -/
def incNearSpec : ChangeSpec := { name := "incNear", fn := fun _ => fun
  | [d1, d2, d3, d4] => { results := [.lit (.bool true)], args := [d1, d2, d3, d4] }
  | _ => none }
def incNearRow : OpenClaim := { program := "ytekkpmoppihlaaadoor", sum := "3ee3a37eab9c42ce2b5d004e89eb6c5ca1c9dfaba7d683e41b80d577af80708c", func := "figurehead/figureheadlaw10.IncNear", spec := "incNear", inPlace := ["internal/bytealg.IndexByteString", "internal/bytealg.IndexString", "internal/abi.NoEscape"], unfollowed := true, recurses := true, named := ["figurehead/ten.powers", "unicode/utf8.first", "unicode/utf8.acceptRanges", "figurehead/mode.ways", "internal/bytealg.MaxLen"], apart := false, laid := [("figurehead/mode.ways", laid_figurehead_mode_ways), ("unicode/utf8.acceptRanges", laid_unicode_utf8_acceptRanges), ("figurehead/ten.powers", laid_figurehead_ten_powers), ("unicode/utf8.first", laid_unicode_utf8_first)] }
def IncNearSaid : Prop := incNearRow.holds Tryd.pinned (OpenSpec.ofChange incNearSpec)

/-- ITS FALSE NEIGHBOUR: 'it returns false'. Refute it at one input. -/
def incNearWrong : ChangeSpec := { name := "incNear", fn := fun _ => fun
  | [d1, d2, d3, d4] => { results := [.lit (.bool false)], args := [d1, d2, d3, d4] }
  | _ => none }
def IncNearWrongFalsely : Prop := incNearRow.holds Tryd.pinned (OpenSpec.ofChange incNearWrong)

/-- 'figureheadlaw10.IncOrders': WHATEVER THE INPUT: true; the input reads as it did. -/
def incOrdersSpec : ChangeSpec := { name := "incOrders", fn := fun _ => fun
  | [d1, d2, d3, d4, d5] => { results := [.lit (.bool true)], args := [d1, d2, d3, d4, d5] }
  | _ => none }
def incOrdersRow : OpenClaim := { program := "ytekkpmoppihlaaadoor", sum := "3ee3a37eab9c42ce2b5d004e89eb6c5ca1c9dfaba7d683e41b80d577af80708c", func := "figurehead/figureheadlaw10.IncOrders", spec := "incOrders", inPlace := ["internal/bytealg.IndexByteString", "internal/bytealg.IndexString", "internal/abi.NoEscape"], unfollowed := true, recurses := true, named := ["figurehead/ten.powers", "unicode/utf8.first", "unicode/utf8.acceptRanges", "figurehead/mode.ways", "internal/bytealg.MaxLen"], apart := false, laid := [("figurehead/mode.ways", laid_figurehead_mode_ways), ("unicode/utf8.acceptRanges", laid_unicode_utf8_acceptRanges), ("figurehead/ten.powers", laid_figurehead_ten_powers), ("unicode/utf8.first", laid_unicode_utf8_first)] }
def IncOrdersSaid : Prop := incOrdersRow.holds Tryd.pinned (OpenSpec.ofChange incOrdersSpec)

/-- ITS FALSE NEIGHBOUR: 'it returns false'. Refute it at one input. -/
def incOrdersWrong : ChangeSpec := { name := "incOrders", fn := fun _ => fun
  | [d1, d2, d3, d4, d5] => { results := [.lit (.bool false)], args := [d1, d2, d3, d4, d5] }
  | _ => none }
def IncOrdersWrongFalsely : Prop := incOrdersRow.holds Tryd.pinned (OpenSpec.ofChange incOrdersWrong)

/-- 'figureheadlaw10.IncTens': WHATEVER THE INPUT: true; the input reads as it did. -/
def incTensSpec : ChangeSpec := { name := "incTens", fn := fun _ => fun
  | [d1, d2, d3, d4, d5] => { results := [.lit (.bool true)], args := [d1, d2, d3, d4, d5] }
  | _ => none }
def incTensRow : OpenClaim := { program := "ytekkpmoppihlaaadoor", sum := "3ee3a37eab9c42ce2b5d004e89eb6c5ca1c9dfaba7d683e41b80d577af80708c", func := "figurehead/figureheadlaw10.IncTens", spec := "incTens", inPlace := ["internal/bytealg.IndexByteString", "internal/bytealg.IndexString", "internal/abi.NoEscape"], unfollowed := true, recurses := true, named := ["figurehead/ten.powers", "unicode/utf8.first", "unicode/utf8.acceptRanges", "figurehead/mode.ways", "internal/bytealg.MaxLen"], apart := false, laid := [("figurehead/mode.ways", laid_figurehead_mode_ways), ("unicode/utf8.acceptRanges", laid_unicode_utf8_acceptRanges), ("figurehead/ten.powers", laid_figurehead_ten_powers), ("unicode/utf8.first", laid_unicode_utf8_first)] }
def IncTensSaid : Prop := incTensRow.holds Tryd.pinned (OpenSpec.ofChange incTensSpec)

/-- ITS FALSE NEIGHBOUR: 'it returns false'. Refute it at one input. -/
def incTensWrong : ChangeSpec := { name := "incTens", fn := fun _ => fun
  | [d1, d2, d3, d4, d5] => { results := [.lit (.bool false)], args := [d1, d2, d3, d4, d5] }
  | _ => none }
def IncTensWrongFalsely : Prop := incTensRow.holds Tryd.pinned (OpenSpec.ofChange incTensWrong)

/-- 'figureheadlaw10.IncOnes': WHATEVER THE INPUT: true; the input reads as it did. -/
def incOnesSpec : ChangeSpec := { name := "incOnes", fn := fun _ => fun
  | [d1, d2, d3, d4] => { results := [.lit (.bool true)], args := [d1, d2, d3, d4] }
  | _ => none }
def incOnesRow : OpenClaim := { program := "ytekkpmoppihlaaadoor", sum := "3ee3a37eab9c42ce2b5d004e89eb6c5ca1c9dfaba7d683e41b80d577af80708c", func := "figurehead/figureheadlaw10.IncOnes", spec := "incOnes", inPlace := ["internal/bytealg.IndexByteString", "internal/bytealg.IndexString", "internal/abi.NoEscape"], unfollowed := true, recurses := true, named := ["figurehead/ten.powers", "unicode/utf8.first", "unicode/utf8.acceptRanges", "figurehead/mode.ways", "internal/bytealg.MaxLen"], apart := false, laid := [("figurehead/mode.ways", laid_figurehead_mode_ways), ("unicode/utf8.acceptRanges", laid_unicode_utf8_acceptRanges), ("figurehead/ten.powers", laid_figurehead_ten_powers), ("unicode/utf8.first", laid_unicode_utf8_first)] }
def IncOnesSaid : Prop := incOnesRow.holds Tryd.pinned (OpenSpec.ofChange incOnesSpec)

/-- ITS FALSE NEIGHBOUR: 'it returns false'. Refute it at one input. -/
def incOnesWrong : ChangeSpec := { name := "incOnes", fn := fun _ => fun
  | [d1, d2, d3, d4] => { results := [.lit (.bool false)], args := [d1, d2, d3, d4] }
  | _ => none }
def IncOnesWrongFalsely : Prop := incOnesRow.holds Tryd.pinned (OpenSpec.ofChange incOnesWrong)

/- THE SECOND FORM. 'bulk': how many values and letters a reading holds, each counted each time it is reached (what is shared counts as often as it is met; a slice's spare places count too). A statement '..UptoSaid' is the law's where the arguments, and the package variables that the reading takes, are together of bulk at most 1048576: NARROWER than '..Said'. Prove '..Said' where nothing that the law and all that it calls make is longer than what came in: it says more and counts as full. Else prove '..UptoSaid'. A law counts once. -/
mutual
def uptoBulk {H : Type} : DataW H → Nat
  | .lit (.string bytes) => bytes.length + 1
  | .lit _ => 1
  | .nil => 1
  | .ptr d => uptoBulk d + 1
  | .slice elems spare => uptoBulkAll elems + uptoBulkAll spare + 1
  | .agg parts => uptoBulkAll parts + 1
  | .iface _ d => uptoBulk d + 1
  | .map entries => uptoBulkEntries entries + 1
  | .held _ => 1
def uptoBulkAll {H : Type} : List (DataW H) → Nat
  | [] => 0
  | d :: r => uptoBulk d + uptoBulkAll r
def uptoBulkEntries {H : Type} : List (Lit × DataW H) → Nat
  | [] => 0
  | x :: r => uptoBulkEntry x + uptoBulkEntries r
def uptoBulkEntry {H : Type} : Lit × DataW H → Nat
  | (.string bytes, d) => bytes.length + uptoBulk d + 1
  | (_, d) => uptoBulk d + 1
 end
def uptoSmall : (H : Type) → List (DataW H) → Bool := fun _ ds => decide (uptoBulkAll ds ≤ 1048576)
def OpenSpec.upto (s : _root_.Go.ChangeSpec) : _root_.Go.OpenSpec := { _root_.Go.OpenSpec.ofChange s with cond := some uptoSmall }

/-- 'figureheadlaw10.IncRounds', WHERE WHAT IT READS IS OF BULK AT MOST 1048576: true; the input reads as it did. -/
def incRoundsUptoRow : OpenClaim := { program := "ytekkpmoppihlaaadoor", sum := "3ee3a37eab9c42ce2b5d004e89eb6c5ca1c9dfaba7d683e41b80d577af80708c", func := "figurehead/figureheadlaw10.IncRounds", spec := "incRounds", inPlace := ["internal/bytealg.IndexByteString", "internal/bytealg.IndexString", "internal/abi.NoEscape"], unfollowed := true, recurses := true, named := ["figurehead/ten.powers", "unicode/utf8.first", "unicode/utf8.acceptRanges", "figurehead/mode.ways", "internal/bytealg.MaxLen"], apart := false, laid := [("figurehead/mode.ways", laid_figurehead_mode_ways), ("unicode/utf8.acceptRanges", laid_unicode_utf8_acceptRanges), ("figurehead/ten.powers", laid_figurehead_ten_powers), ("unicode/utf8.first", laid_unicode_utf8_first)], narrowed := true }
def IncRoundsUptoSaid : Prop := incRoundsUptoRow.holds Tryd.pinned (OpenSpec.upto incRoundsSpec)

/-- 'figureheadlaw10.IncNear', WHERE WHAT IT READS IS OF BULK AT MOST 1048576: true; the input reads as it did. -/
def incNearUptoRow : OpenClaim := { program := "ytekkpmoppihlaaadoor", sum := "3ee3a37eab9c42ce2b5d004e89eb6c5ca1c9dfaba7d683e41b80d577af80708c", func := "figurehead/figureheadlaw10.IncNear", spec := "incNear", inPlace := ["internal/bytealg.IndexByteString", "internal/bytealg.IndexString", "internal/abi.NoEscape"], unfollowed := true, recurses := true, named := ["figurehead/ten.powers", "unicode/utf8.first", "unicode/utf8.acceptRanges", "figurehead/mode.ways", "internal/bytealg.MaxLen"], apart := false, laid := [("figurehead/mode.ways", laid_figurehead_mode_ways), ("unicode/utf8.acceptRanges", laid_unicode_utf8_acceptRanges), ("figurehead/ten.powers", laid_figurehead_ten_powers), ("unicode/utf8.first", laid_unicode_utf8_first)], narrowed := true }
def IncNearUptoSaid : Prop := incNearUptoRow.holds Tryd.pinned (OpenSpec.upto incNearSpec)

/-- 'figureheadlaw10.IncOrders', WHERE WHAT IT READS IS OF BULK AT MOST 1048576: true; the input reads as it did. -/
def incOrdersUptoRow : OpenClaim := { program := "ytekkpmoppihlaaadoor", sum := "3ee3a37eab9c42ce2b5d004e89eb6c5ca1c9dfaba7d683e41b80d577af80708c", func := "figurehead/figureheadlaw10.IncOrders", spec := "incOrders", inPlace := ["internal/bytealg.IndexByteString", "internal/bytealg.IndexString", "internal/abi.NoEscape"], unfollowed := true, recurses := true, named := ["figurehead/ten.powers", "unicode/utf8.first", "unicode/utf8.acceptRanges", "figurehead/mode.ways", "internal/bytealg.MaxLen"], apart := false, laid := [("figurehead/mode.ways", laid_figurehead_mode_ways), ("unicode/utf8.acceptRanges", laid_unicode_utf8_acceptRanges), ("figurehead/ten.powers", laid_figurehead_ten_powers), ("unicode/utf8.first", laid_unicode_utf8_first)], narrowed := true }
def IncOrdersUptoSaid : Prop := incOrdersUptoRow.holds Tryd.pinned (OpenSpec.upto incOrdersSpec)

/-- 'figureheadlaw10.IncTens', WHERE WHAT IT READS IS OF BULK AT MOST 1048576: true; the input reads as it did. -/
def incTensUptoRow : OpenClaim := { program := "ytekkpmoppihlaaadoor", sum := "3ee3a37eab9c42ce2b5d004e89eb6c5ca1c9dfaba7d683e41b80d577af80708c", func := "figurehead/figureheadlaw10.IncTens", spec := "incTens", inPlace := ["internal/bytealg.IndexByteString", "internal/bytealg.IndexString", "internal/abi.NoEscape"], unfollowed := true, recurses := true, named := ["figurehead/ten.powers", "unicode/utf8.first", "unicode/utf8.acceptRanges", "figurehead/mode.ways", "internal/bytealg.MaxLen"], apart := false, laid := [("figurehead/mode.ways", laid_figurehead_mode_ways), ("unicode/utf8.acceptRanges", laid_unicode_utf8_acceptRanges), ("figurehead/ten.powers", laid_figurehead_ten_powers), ("unicode/utf8.first", laid_unicode_utf8_first)], narrowed := true }
def IncTensUptoSaid : Prop := incTensUptoRow.holds Tryd.pinned (OpenSpec.upto incTensSpec)

/-- 'figureheadlaw10.IncOnes', WHERE WHAT IT READS IS OF BULK AT MOST 1048576: true; the input reads as it did. -/
def incOnesUptoRow : OpenClaim := { program := "ytekkpmoppihlaaadoor", sum := "3ee3a37eab9c42ce2b5d004e89eb6c5ca1c9dfaba7d683e41b80d577af80708c", func := "figurehead/figureheadlaw10.IncOnes", spec := "incOnes", inPlace := ["internal/bytealg.IndexByteString", "internal/bytealg.IndexString", "internal/abi.NoEscape"], unfollowed := true, recurses := true, named := ["figurehead/ten.powers", "unicode/utf8.first", "unicode/utf8.acceptRanges", "figurehead/mode.ways", "internal/bytealg.MaxLen"], apart := false, laid := [("figurehead/mode.ways", laid_figurehead_mode_ways), ("unicode/utf8.acceptRanges", laid_unicode_utf8_acceptRanges), ("figurehead/ten.powers", laid_figurehead_ten_powers), ("unicode/utf8.first", laid_unicode_utf8_first)], narrowed := true }
def IncOnesUptoSaid : Prop := incOnesUptoRow.holds Tryd.pinned (OpenSpec.upto incOnesSpec)

end Rows
end Go.Proofs.YtekkpmoppihlaaaDoor
