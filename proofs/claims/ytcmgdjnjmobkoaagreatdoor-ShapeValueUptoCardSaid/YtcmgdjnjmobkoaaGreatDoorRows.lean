/-
  NARROWER THAN 'FOR EVERY INPUT', by the rows' own cells (each row's printed sentence says how): ShapeAgain: laid · ShapeSigned: laid · GridOrders: laid · GridWays: laid · GridZero: laid · ShapeRounds: laid · ShapeLays: laid · ShapeCounts: laid · ShapeValue: laid.
  DERIVED. THE GIVEN ROWS OF THIS SEAT. 9 by the template 'for every input the law returns true; each argument reads behind the call as it read before'; 0 by the template 'total and deterministic' (their statements: YtcmgdjnjmobkoaaGreatDoorTotals.lean).
  GIVEN WITH THE SEED: the statements are not yours to turn. If you find one false, say at which input.
  Laid BY PROGRAM, IN A SANDBOX (cutbox-rows.mjs): the forced cells as the released guide's own fill.sh prints them over the translation 50bb2f6c27141306… (all of the seat's roots in one cut). By AI agents, Wed Nov 11 2026. No macro, syntax, notation, axiom, sorry.
-/
import Derived.Test.YtcmgdjnjmobkoaaGreatDoorChecked
import GoSem.PinnedTables
import GoSem.Claim
import GoSem.ClaimJoined
import GoSem.ClaimMapViews
import Derived.JoinedTies
import Derived.KernelRfl
namespace Go.Proofs.YtcmgdjnjmobkoaaGreatDoor
/- THE CELL 'sum', in the pinned program and in every row, IS THE sha256 OF THE DUMP (.gsa) THAT YtcmgdjnjmobkoaaGreatDoorProg.lean LOADS. Nothing in Lean hashes anything: it is a label: what it is worth is what the hold of that sum in a sandbox is worth. -/
noncomputable def Tryz.pinned : Pinned := { name := "ytcmgdjnjmobkoaagreatdoor", sum := "50bb2f6c27141306497e3ba976410f661378ef67822541f48eac281c4174f23c", checked := Tryz.checked }
namespace Rows
def none {H : Type} : Left H := { results := [], args := [] }

/- WHAT THE LISTED PACKAGE-LEVEL VARIABLES READ AS WHEN THE CALL BEGINS. Each datum BY PROGRAM (the guide's laid-datum.mjs) off the statement by which the dump's own 'gosem.cut.vars' lays the variable. In a bare row this is a premise. The card (YtcmgdjnjmobkoaaGreatDoorCards.lean) ties it to the program's text. -/
def laid_figurehead_mode_ways {H : Type} : DataW H := .iface "func table" (.agg [.agg [.iface "func" (.lit (.string [102, 105, 103, 117, 114, 101, 104, 101, 97, 100, 47, 109, 111, 100, 101, 46, 119, 97, 121, 115, 36, 49]))], .agg [.iface "func" (.lit (.string [102, 105, 103, 117, 114, 101, 104, 101, 97, 100, 47, 109, 111, 100, 101, 46, 119, 97, 121, 115, 36, 50]))], .agg [.iface "func" (.lit (.string [102, 105, 103, 117, 114, 101, 104, 101, 97, 100, 47, 109, 111, 100, 101, 46, 119, 97, 121, 115, 36, 51]))], .agg [.iface "func" (.lit (.string [102, 105, 103, 117, 114, 101, 104, 101, 97, 100, 47, 109, 111, 100, 101, 46, 119, 97, 121, 115, 36, 52]))], .agg [.iface "func" (.lit (.string [102, 105, 103, 117, 114, 101, 104, 101, 97, 100, 47, 109, 111, 100, 101, 46, 119, 97, 121, 115, 36, 53]))], .agg [.iface "func" (.lit (.string [102, 105, 103, 117, 114, 101, 104, 101, 97, 100, 47, 109, 111, 100, 101, 46, 119, 97, 121, 115, 36, 54]))], .agg [.iface "func" (.lit (.string [102, 105, 103, 117, 114, 101, 104, 101, 97, 100, 47, 109, 111, 100, 101, 46, 119, 97, 121, 115, 36, 55]))], .agg [.iface "func" (.lit (.string [102, 105, 103, 117, 114, 101, 104, 101, 97, 100, 47, 109, 111, 100, 101, 46, 119, 97, 121, 115, 36, 56]))]])
def laid_unicode_utf8_acceptRanges {H : Type} : DataW H := .agg [.agg [.lit (.int .u8 128), .lit (.int .u8 191)], .agg [.lit (.int .u8 160), .lit (.int .u8 191)], .agg [.lit (.int .u8 128), .lit (.int .u8 159)], .agg [.lit (.int .u8 144), .lit (.int .u8 191)], .agg [.lit (.int .u8 128), .lit (.int .u8 143)], .agg [.lit (.int .u8 0), .lit (.int .u8 0)], .agg [.lit (.int .u8 0), .lit (.int .u8 0)], .agg [.lit (.int .u8 0), .lit (.int .u8 0)], .agg [.lit (.int .u8 0), .lit (.int .u8 0)], .agg [.lit (.int .u8 0), .lit (.int .u8 0)], .agg [.lit (.int .u8 0), .lit (.int .u8 0)], .agg [.lit (.int .u8 0), .lit (.int .u8 0)], .agg [.lit (.int .u8 0), .lit (.int .u8 0)], .agg [.lit (.int .u8 0), .lit (.int .u8 0)], .agg [.lit (.int .u8 0), .lit (.int .u8 0)], .agg [.lit (.int .u8 0), .lit (.int .u8 0)]]
def laid_figurehead_ten_powers {H : Type} : DataW H := .agg [.lit (.int .u32 1), .lit (.int .u32 10), .lit (.int .u32 100), .lit (.int .u32 1000), .lit (.int .u32 10000), .lit (.int .u32 100000), .lit (.int .u32 1000000), .lit (.int .u32 10000000), .lit (.int .u32 100000000)]
/-- One of Go's own tables, pinned by name: the form's constant. -/
def laid_unicode_utf8_first : DataW Unit := Go.Pinned.utf8First

/-- 'figureheadlaw19.ShapeAgain': WHATEVER THE INPUT: true; the input reads as it did. -/
def shapeAgainSpec : ChangeSpec := { name := "shapeAgain", fn := fun _ => fun
  | [d1, d2, d3, d4] => { results := [.lit (.bool true)], args := [d1, d2, d3, d4] }
  | _ => none }
def shapeAgainRow : OpenClaim := { program := "ytcmgdjnjmobkoaagreatdoor", sum := "50bb2f6c27141306497e3ba976410f661378ef67822541f48eac281c4174f23c", func := "figurehead/figureheadlaw19.ShapeAgain", spec := "shapeAgain", inPlace := ["internal/bytealg.IndexByteString", "internal/bytealg.IndexString", "internal/abi.NoEscape"], unfollowed := true, recurses := true, named := ["unicode/utf8.first", "unicode/utf8.acceptRanges", "figurehead/ten.powers", "figurehead/mode.ways", "internal/bytealg.MaxLen"], apart := false, laid := [("figurehead/mode.ways", laid_figurehead_mode_ways), ("unicode/utf8.acceptRanges", laid_unicode_utf8_acceptRanges), ("figurehead/ten.powers", laid_figurehead_ten_powers), ("unicode/utf8.first", laid_unicode_utf8_first)] }
def ShapeAgainSaid : Prop := shapeAgainRow.holds Tryz.pinned (OpenSpec.ofChange shapeAgainSpec)

/-- ITS FALSE NEIGHBOUR: 'it returns false'. Refute it at one input. -/
def shapeAgainWrong : ChangeSpec := { name := "shapeAgain", fn := fun _ => fun
  | [d1, d2, d3, d4] => { results := [.lit (.bool false)], args := [d1, d2, d3, d4] }
  | _ => none }
def ShapeAgainWrongFalsely : Prop := shapeAgainRow.holds Tryz.pinned (OpenSpec.ofChange shapeAgainWrong)

/-- 'figureheadlaw19.ShapeSigned': WHATEVER THE INPUT: true; the input reads as it did. -/
def shapeSignedSpec : ChangeSpec := { name := "shapeSigned", fn := fun _ => fun
  | [d1, d2, d3] => { results := [.lit (.bool true)], args := [d1, d2, d3] }
  | _ => none }
def shapeSignedRow : OpenClaim := { program := "ytcmgdjnjmobkoaagreatdoor", sum := "50bb2f6c27141306497e3ba976410f661378ef67822541f48eac281c4174f23c", func := "figurehead/figureheadlaw19.ShapeSigned", spec := "shapeSigned", inPlace := ["internal/bytealg.IndexByteString", "internal/bytealg.IndexString", "internal/abi.NoEscape"], unfollowed := true, recurses := true, named := ["unicode/utf8.first", "unicode/utf8.acceptRanges", "figurehead/ten.powers", "figurehead/mode.ways", "internal/bytealg.MaxLen"], apart := false, laid := [("figurehead/mode.ways", laid_figurehead_mode_ways), ("unicode/utf8.acceptRanges", laid_unicode_utf8_acceptRanges), ("figurehead/ten.powers", laid_figurehead_ten_powers), ("unicode/utf8.first", laid_unicode_utf8_first)] }
def ShapeSignedSaid : Prop := shapeSignedRow.holds Tryz.pinned (OpenSpec.ofChange shapeSignedSpec)

/-- ITS FALSE NEIGHBOUR: 'it returns false'. Refute it at one input. -/
def shapeSignedWrong : ChangeSpec := { name := "shapeSigned", fn := fun _ => fun
  | [d1, d2, d3] => { results := [.lit (.bool false)], args := [d1, d2, d3] }
  | _ => none }
def ShapeSignedWrongFalsely : Prop := shapeSignedRow.holds Tryz.pinned (OpenSpec.ofChange shapeSignedWrong)

/-- 'figureheadlaw24.GridOrders': WHATEVER THE INPUT: true; the input reads as it did. -/
def gridOrdersSpec : ChangeSpec := { name := "gridOrders", fn := fun _ => fun
  | [d1, d2, d3, d4] => { results := [.lit (.bool true)], args := [d1, d2, d3, d4] }
  | _ => none }
def gridOrdersRow : OpenClaim := { program := "ytcmgdjnjmobkoaagreatdoor", sum := "50bb2f6c27141306497e3ba976410f661378ef67822541f48eac281c4174f23c", func := "figurehead/figureheadlaw24.GridOrders", spec := "gridOrders", inPlace := ["internal/bytealg.IndexByteString", "internal/bytealg.IndexString", "internal/abi.NoEscape"], unfollowed := true, recurses := true, named := ["unicode/utf8.first", "unicode/utf8.acceptRanges", "figurehead/ten.powers", "figurehead/mode.ways", "internal/bytealg.MaxLen"], apart := false, laid := [("figurehead/mode.ways", laid_figurehead_mode_ways), ("unicode/utf8.acceptRanges", laid_unicode_utf8_acceptRanges), ("figurehead/ten.powers", laid_figurehead_ten_powers), ("unicode/utf8.first", laid_unicode_utf8_first)] }
def GridOrdersSaid : Prop := gridOrdersRow.holds Tryz.pinned (OpenSpec.ofChange gridOrdersSpec)

/-- ITS FALSE NEIGHBOUR: 'it returns false'. Refute it at one input. -/
def gridOrdersWrong : ChangeSpec := { name := "gridOrders", fn := fun _ => fun
  | [d1, d2, d3, d4] => { results := [.lit (.bool false)], args := [d1, d2, d3, d4] }
  | _ => none }
def GridOrdersWrongFalsely : Prop := gridOrdersRow.holds Tryz.pinned (OpenSpec.ofChange gridOrdersWrong)

/-- 'figureheadlaw24.GridWays': WHATEVER THE INPUT: true; the input reads as it did. -/
def gridWaysSpec : ChangeSpec := { name := "gridWays", fn := fun _ => fun
  | [d1, d2, d3] => { results := [.lit (.bool true)], args := [d1, d2, d3] }
  | _ => none }
def gridWaysRow : OpenClaim := { program := "ytcmgdjnjmobkoaagreatdoor", sum := "50bb2f6c27141306497e3ba976410f661378ef67822541f48eac281c4174f23c", func := "figurehead/figureheadlaw24.GridWays", spec := "gridWays", inPlace := ["internal/bytealg.IndexByteString", "internal/bytealg.IndexString", "internal/abi.NoEscape"], unfollowed := true, recurses := true, named := ["unicode/utf8.first", "unicode/utf8.acceptRanges", "figurehead/ten.powers", "figurehead/mode.ways", "internal/bytealg.MaxLen"], apart := false, laid := [("figurehead/mode.ways", laid_figurehead_mode_ways), ("unicode/utf8.acceptRanges", laid_unicode_utf8_acceptRanges), ("figurehead/ten.powers", laid_figurehead_ten_powers), ("unicode/utf8.first", laid_unicode_utf8_first)] }
def GridWaysSaid : Prop := gridWaysRow.holds Tryz.pinned (OpenSpec.ofChange gridWaysSpec)

/-- ITS FALSE NEIGHBOUR: 'it returns false'. Refute it at one input. -/
def gridWaysWrong : ChangeSpec := { name := "gridWays", fn := fun _ => fun
  | [d1, d2, d3] => { results := [.lit (.bool false)], args := [d1, d2, d3] }
  | _ => none }
def GridWaysWrongFalsely : Prop := gridWaysRow.holds Tryz.pinned (OpenSpec.ofChange gridWaysWrong)

/-- 'figureheadlaw24.GridZero': WHATEVER THE INPUT: true; the input reads as it did. -/
def gridZeroSpec : ChangeSpec := { name := "gridZero", fn := fun _ => fun
  | [d1, d2, d3] => { results := [.lit (.bool true)], args := [d1, d2, d3] }
  | _ => none }
def gridZeroRow : OpenClaim := { program := "ytcmgdjnjmobkoaagreatdoor", sum := "50bb2f6c27141306497e3ba976410f661378ef67822541f48eac281c4174f23c", func := "figurehead/figureheadlaw24.GridZero", spec := "gridZero", inPlace := ["internal/bytealg.IndexByteString", "internal/bytealg.IndexString", "internal/abi.NoEscape"], unfollowed := true, recurses := true, named := ["unicode/utf8.first", "unicode/utf8.acceptRanges", "figurehead/ten.powers", "figurehead/mode.ways", "internal/bytealg.MaxLen"], apart := false, laid := [("figurehead/mode.ways", laid_figurehead_mode_ways), ("unicode/utf8.acceptRanges", laid_unicode_utf8_acceptRanges), ("figurehead/ten.powers", laid_figurehead_ten_powers), ("unicode/utf8.first", laid_unicode_utf8_first)] }
def GridZeroSaid : Prop := gridZeroRow.holds Tryz.pinned (OpenSpec.ofChange gridZeroSpec)

/-- ITS FALSE NEIGHBOUR: 'it returns false'. Refute it at one input. -/
def gridZeroWrong : ChangeSpec := { name := "gridZero", fn := fun _ => fun
  | [d1, d2, d3] => { results := [.lit (.bool false)], args := [d1, d2, d3] }
  | _ => none }
def GridZeroWrongFalsely : Prop := gridZeroRow.holds Tryz.pinned (OpenSpec.ofChange gridZeroWrong)

/-- 'figureheadlaw19.ShapeRounds': WHATEVER THE INPUT: true; the input reads as it did. -/
def shapeRoundsSpec : ChangeSpec := { name := "shapeRounds", fn := fun _ => fun
  | [d1, d2, d3] => { results := [.lit (.bool true)], args := [d1, d2, d3] }
  | _ => none }
def shapeRoundsRow : OpenClaim := { program := "ytcmgdjnjmobkoaagreatdoor", sum := "50bb2f6c27141306497e3ba976410f661378ef67822541f48eac281c4174f23c", func := "figurehead/figureheadlaw19.ShapeRounds", spec := "shapeRounds", inPlace := ["internal/bytealg.IndexByteString", "internal/bytealg.IndexString", "internal/abi.NoEscape"], unfollowed := true, recurses := true, named := ["unicode/utf8.first", "unicode/utf8.acceptRanges", "figurehead/ten.powers", "figurehead/mode.ways", "internal/bytealg.MaxLen"], apart := false, laid := [("figurehead/mode.ways", laid_figurehead_mode_ways), ("unicode/utf8.acceptRanges", laid_unicode_utf8_acceptRanges), ("figurehead/ten.powers", laid_figurehead_ten_powers), ("unicode/utf8.first", laid_unicode_utf8_first)] }
def ShapeRoundsSaid : Prop := shapeRoundsRow.holds Tryz.pinned (OpenSpec.ofChange shapeRoundsSpec)

/-- ITS FALSE NEIGHBOUR: 'it returns false'. Refute it at one input. -/
def shapeRoundsWrong : ChangeSpec := { name := "shapeRounds", fn := fun _ => fun
  | [d1, d2, d3] => { results := [.lit (.bool false)], args := [d1, d2, d3] }
  | _ => none }
def ShapeRoundsWrongFalsely : Prop := shapeRoundsRow.holds Tryz.pinned (OpenSpec.ofChange shapeRoundsWrong)

/-- 'figureheadlaw19.ShapeLays': WHATEVER THE INPUT: true; the input reads as it did. -/
def shapeLaysSpec : ChangeSpec := { name := "shapeLays", fn := fun _ => fun
  | [d1, d2, d3] => { results := [.lit (.bool true)], args := [d1, d2, d3] }
  | _ => none }
def shapeLaysRow : OpenClaim := { program := "ytcmgdjnjmobkoaagreatdoor", sum := "50bb2f6c27141306497e3ba976410f661378ef67822541f48eac281c4174f23c", func := "figurehead/figureheadlaw19.ShapeLays", spec := "shapeLays", inPlace := ["internal/bytealg.IndexByteString", "internal/bytealg.IndexString", "internal/abi.NoEscape"], unfollowed := true, recurses := true, named := ["unicode/utf8.first", "unicode/utf8.acceptRanges", "figurehead/ten.powers", "figurehead/mode.ways", "internal/bytealg.MaxLen"], apart := false, laid := [("figurehead/mode.ways", laid_figurehead_mode_ways), ("unicode/utf8.acceptRanges", laid_unicode_utf8_acceptRanges), ("figurehead/ten.powers", laid_figurehead_ten_powers), ("unicode/utf8.first", laid_unicode_utf8_first)] }
def ShapeLaysSaid : Prop := shapeLaysRow.holds Tryz.pinned (OpenSpec.ofChange shapeLaysSpec)

/-- ITS FALSE NEIGHBOUR: 'it returns false'. Refute it at one input. -/
def shapeLaysWrong : ChangeSpec := { name := "shapeLays", fn := fun _ => fun
  | [d1, d2, d3] => { results := [.lit (.bool false)], args := [d1, d2, d3] }
  | _ => none }
def ShapeLaysWrongFalsely : Prop := shapeLaysRow.holds Tryz.pinned (OpenSpec.ofChange shapeLaysWrong)

/-- 'figureheadlaw19.ShapeCounts': WHATEVER THE INPUT: true; the input reads as it did. -/
def shapeCountsSpec : ChangeSpec := { name := "shapeCounts", fn := fun _ => fun
  | [d] => { results := [.lit (.bool true)], args := [d] }
  | _ => none }
def shapeCountsRow : OpenClaim := { program := "ytcmgdjnjmobkoaagreatdoor", sum := "50bb2f6c27141306497e3ba976410f661378ef67822541f48eac281c4174f23c", func := "figurehead/figureheadlaw19.ShapeCounts", spec := "shapeCounts", inPlace := ["internal/bytealg.IndexByteString", "internal/bytealg.IndexString", "internal/abi.NoEscape"], unfollowed := true, recurses := true, named := ["unicode/utf8.first", "unicode/utf8.acceptRanges", "figurehead/ten.powers", "figurehead/mode.ways", "internal/bytealg.MaxLen"], apart := false, laid := [("figurehead/mode.ways", laid_figurehead_mode_ways), ("unicode/utf8.acceptRanges", laid_unicode_utf8_acceptRanges), ("figurehead/ten.powers", laid_figurehead_ten_powers), ("unicode/utf8.first", laid_unicode_utf8_first)] }
def ShapeCountsSaid : Prop := shapeCountsRow.holds Tryz.pinned (OpenSpec.ofChange shapeCountsSpec)

/-- ITS FALSE NEIGHBOUR: 'it returns false'. Refute it at one input. -/
def shapeCountsWrong : ChangeSpec := { name := "shapeCounts", fn := fun _ => fun
  | [d] => { results := [.lit (.bool false)], args := [d] }
  | _ => none }
def ShapeCountsWrongFalsely : Prop := shapeCountsRow.holds Tryz.pinned (OpenSpec.ofChange shapeCountsWrong)

/-- 'figureheadlaw19.ShapeValue': WHATEVER THE INPUT: true; the input reads as it did. -/
def shapeValueSpec : ChangeSpec := { name := "shapeValue", fn := fun _ => fun
  | [d1, d2, d3] => { results := [.lit (.bool true)], args := [d1, d2, d3] }
  | _ => none }
def shapeValueRow : OpenClaim := { program := "ytcmgdjnjmobkoaagreatdoor", sum := "50bb2f6c27141306497e3ba976410f661378ef67822541f48eac281c4174f23c", func := "figurehead/figureheadlaw19.ShapeValue", spec := "shapeValue", inPlace := ["internal/bytealg.IndexByteString", "internal/bytealg.IndexString", "internal/abi.NoEscape"], unfollowed := true, recurses := true, named := ["unicode/utf8.first", "unicode/utf8.acceptRanges", "figurehead/ten.powers", "figurehead/mode.ways", "internal/bytealg.MaxLen"], apart := false, laid := [("figurehead/mode.ways", laid_figurehead_mode_ways), ("unicode/utf8.acceptRanges", laid_unicode_utf8_acceptRanges), ("figurehead/ten.powers", laid_figurehead_ten_powers), ("unicode/utf8.first", laid_unicode_utf8_first)] }
def ShapeValueSaid : Prop := shapeValueRow.holds Tryz.pinned (OpenSpec.ofChange shapeValueSpec)

/-- ITS FALSE NEIGHBOUR: 'it returns false'. Refute it at one input. -/
def shapeValueWrong : ChangeSpec := { name := "shapeValue", fn := fun _ => fun
  | [d1, d2, d3] => { results := [.lit (.bool false)], args := [d1, d2, d3] }
  | _ => none }
def ShapeValueWrongFalsely : Prop := shapeValueRow.holds Tryz.pinned (OpenSpec.ofChange shapeValueWrong)

/- THE SECOND FORM. 'bulk': how many values and letters a reading holds, each counted each time it is reached (what is shared counts as often as it is met; a slice's spare places count too). A statement '..UptoSaid' is the law's where the arguments, and the package variables that the reading takes, are together of bulk at most 1048576: NARROWER than '..Said'. Prove '..Said' where nothing that the law and all that it calls make is longer than what came in: it says more and counts as full. Else prove '..UptoSaid'. A law counts once. -/
mutual
def uptoBulk {H : Type} : DataW H → Nat
  | .lit (.string bytes) => bytes.length + 1
  | .lit _ => 1
  | .nil => 1
  | .ptr d => uptoBulk d + 1
  | .slice elems spare => uptoBulkAll elems + uptoBulkAll spare + 1
  | .agg parts => uptoBulkAll parts + 1
  | .iface _ d => uptoBulk d + 1
  | .map entries => uptoBulkEntries entries + 1
  | .held _ => 1
def uptoBulkAll {H : Type} : List (DataW H) → Nat
  | [] => 0
  | d :: r => uptoBulk d + uptoBulkAll r
def uptoBulkEntries {H : Type} : List (Lit × DataW H) → Nat
  | [] => 0
  | x :: r => uptoBulkEntry x + uptoBulkEntries r
def uptoBulkEntry {H : Type} : Lit × DataW H → Nat
  | (.string bytes, d) => bytes.length + uptoBulk d + 1
  | (_, d) => uptoBulk d + 1
 end
def uptoSmall : (H : Type) → List (DataW H) → Bool := fun _ ds => decide (uptoBulkAll ds ≤ 1048576)
def OpenSpec.upto (s : _root_.Go.ChangeSpec) : _root_.Go.OpenSpec := { _root_.Go.OpenSpec.ofChange s with cond := some uptoSmall }

/-- 'figureheadlaw19.ShapeAgain', WHERE WHAT IT READS IS OF BULK AT MOST 1048576: true; the input reads as it did. -/
def shapeAgainUptoRow : OpenClaim := { program := "ytcmgdjnjmobkoaagreatdoor", sum := "50bb2f6c27141306497e3ba976410f661378ef67822541f48eac281c4174f23c", func := "figurehead/figureheadlaw19.ShapeAgain", spec := "shapeAgain", inPlace := ["internal/bytealg.IndexByteString", "internal/bytealg.IndexString", "internal/abi.NoEscape"], unfollowed := true, recurses := true, named := ["unicode/utf8.first", "unicode/utf8.acceptRanges", "figurehead/ten.powers", "figurehead/mode.ways", "internal/bytealg.MaxLen"], apart := false, laid := [("figurehead/mode.ways", laid_figurehead_mode_ways), ("unicode/utf8.acceptRanges", laid_unicode_utf8_acceptRanges), ("figurehead/ten.powers", laid_figurehead_ten_powers), ("unicode/utf8.first", laid_unicode_utf8_first)], narrowed := true }
def ShapeAgainUptoSaid : Prop := shapeAgainUptoRow.holds Tryz.pinned (OpenSpec.upto shapeAgainSpec)

/-- 'figureheadlaw19.ShapeSigned', WHERE WHAT IT READS IS OF BULK AT MOST 1048576: true; the input reads as it did. -/
def shapeSignedUptoRow : OpenClaim := { program := "ytcmgdjnjmobkoaagreatdoor", sum := "50bb2f6c27141306497e3ba976410f661378ef67822541f48eac281c4174f23c", func := "figurehead/figureheadlaw19.ShapeSigned", spec := "shapeSigned", inPlace := ["internal/bytealg.IndexByteString", "internal/bytealg.IndexString", "internal/abi.NoEscape"], unfollowed := true, recurses := true, named := ["unicode/utf8.first", "unicode/utf8.acceptRanges", "figurehead/ten.powers", "figurehead/mode.ways", "internal/bytealg.MaxLen"], apart := false, laid := [("figurehead/mode.ways", laid_figurehead_mode_ways), ("unicode/utf8.acceptRanges", laid_unicode_utf8_acceptRanges), ("figurehead/ten.powers", laid_figurehead_ten_powers), ("unicode/utf8.first", laid_unicode_utf8_first)], narrowed := true }
def ShapeSignedUptoSaid : Prop := shapeSignedUptoRow.holds Tryz.pinned (OpenSpec.upto shapeSignedSpec)

/-- 'figureheadlaw24.GridOrders', WHERE WHAT IT READS IS OF BULK AT MOST 1048576: true; the input reads as it did. -/
def gridOrdersUptoRow : OpenClaim := { program := "ytcmgdjnjmobkoaagreatdoor", sum := "50bb2f6c27141306497e3ba976410f661378ef67822541f48eac281c4174f23c", func := "figurehead/figureheadlaw24.GridOrders", spec := "gridOrders", inPlace := ["internal/bytealg.IndexByteString", "internal/bytealg.IndexString", "internal/abi.NoEscape"], unfollowed := true, recurses := true, named := ["unicode/utf8.first", "unicode/utf8.acceptRanges", "figurehead/ten.powers", "figurehead/mode.ways", "internal/bytealg.MaxLen"], apart := false, laid := [("figurehead/mode.ways", laid_figurehead_mode_ways), ("unicode/utf8.acceptRanges", laid_unicode_utf8_acceptRanges), ("figurehead/ten.powers", laid_figurehead_ten_powers), ("unicode/utf8.first", laid_unicode_utf8_first)], narrowed := true }
def GridOrdersUptoSaid : Prop := gridOrdersUptoRow.holds Tryz.pinned (OpenSpec.upto gridOrdersSpec)

/-- 'figureheadlaw24.GridWays', WHERE WHAT IT READS IS OF BULK AT MOST 1048576: true; the input reads as it did. -/
def gridWaysUptoRow : OpenClaim := { program := "ytcmgdjnjmobkoaagreatdoor", sum := "50bb2f6c27141306497e3ba976410f661378ef67822541f48eac281c4174f23c", func := "figurehead/figureheadlaw24.GridWays", spec := "gridWays", inPlace := ["internal/bytealg.IndexByteString", "internal/bytealg.IndexString", "internal/abi.NoEscape"], unfollowed := true, recurses := true, named := ["unicode/utf8.first", "unicode/utf8.acceptRanges", "figurehead/ten.powers", "figurehead/mode.ways", "internal/bytealg.MaxLen"], apart := false, laid := [("figurehead/mode.ways", laid_figurehead_mode_ways), ("unicode/utf8.acceptRanges", laid_unicode_utf8_acceptRanges), ("figurehead/ten.powers", laid_figurehead_ten_powers), ("unicode/utf8.first", laid_unicode_utf8_first)], narrowed := true }
def GridWaysUptoSaid : Prop := gridWaysUptoRow.holds Tryz.pinned (OpenSpec.upto gridWaysSpec)

/-- 'figureheadlaw24.GridZero', WHERE WHAT IT READS IS OF BULK AT MOST 1048576: true; the input reads as it did. -/
def gridZeroUptoRow : OpenClaim := { program := "ytcmgdjnjmobkoaagreatdoor", sum := "50bb2f6c27141306497e3ba976410f661378ef67822541f48eac281c4174f23c", func := "figurehead/figureheadlaw24.GridZero", spec := "gridZero", inPlace := ["internal/bytealg.IndexByteString", "internal/bytealg.IndexString", "internal/abi.NoEscape"], unfollowed := true, recurses := true, named := ["unicode/utf8.first", "unicode/utf8.acceptRanges", "figurehead/ten.powers", "figurehead/mode.ways", "internal/bytealg.MaxLen"], apart := false, laid := [("figurehead/mode.ways", laid_figurehead_mode_ways), ("unicode/utf8.acceptRanges", laid_unicode_utf8_acceptRanges), ("figurehead/ten.powers", laid_figurehead_ten_powers), ("unicode/utf8.first", laid_unicode_utf8_first)], narrowed := true }
def GridZeroUptoSaid : Prop := gridZeroUptoRow.holds Tryz.pinned (OpenSpec.upto gridZeroSpec)

/-- 'figureheadlaw19.ShapeRounds', WHERE WHAT IT READS IS OF BULK AT MOST 1048576: true; the input reads as it did. -/
def shapeRoundsUptoRow : OpenClaim := { program := "ytcmgdjnjmobkoaagreatdoor", sum := "50bb2f6c27141306497e3ba976410f661378ef67822541f48eac281c4174f23c", func := "figurehead/figureheadlaw19.ShapeRounds", spec := "shapeRounds", inPlace := ["internal/bytealg.IndexByteString", "internal/bytealg.IndexString", "internal/abi.NoEscape"], unfollowed := true, recurses := true, named := ["unicode/utf8.first", "unicode/utf8.acceptRanges", "figurehead/ten.powers", "figurehead/mode.ways", "internal/bytealg.MaxLen"], apart := false, laid := [("figurehead/mode.ways", laid_figurehead_mode_ways), ("unicode/utf8.acceptRanges", laid_unicode_utf8_acceptRanges), ("figurehead/ten.powers", laid_figurehead_ten_powers), ("unicode/utf8.first", laid_unicode_utf8_first)], narrowed := true }
def ShapeRoundsUptoSaid : Prop := shapeRoundsUptoRow.holds Tryz.pinned (OpenSpec.upto shapeRoundsSpec)

/-- 'figureheadlaw19.ShapeLays', WHERE WHAT IT READS IS OF BULK AT MOST 1048576: true; the input reads as it did. -/
def shapeLaysUptoRow : OpenClaim := { program := "ytcmgdjnjmobkoaagreatdoor", sum := "50bb2f6c27141306497e3ba976410f661378ef67822541f48eac281c4174f23c", func := "figurehead/figureheadlaw19.ShapeLays", spec := "shapeLays", inPlace := ["internal/bytealg.IndexByteString", "internal/bytealg.IndexString", "internal/abi.NoEscape"], unfollowed := true, recurses := true, named := ["unicode/utf8.first", "unicode/utf8.acceptRanges", "figurehead/ten.powers", "figurehead/mode.ways", "internal/bytealg.MaxLen"], apart := false, laid := [("figurehead/mode.ways", laid_figurehead_mode_ways), ("unicode/utf8.acceptRanges", laid_unicode_utf8_acceptRanges), ("figurehead/ten.powers", laid_figurehead_ten_powers), ("unicode/utf8.first", laid_unicode_utf8_first)], narrowed := true }
def ShapeLaysUptoSaid : Prop := shapeLaysUptoRow.holds Tryz.pinned (OpenSpec.upto shapeLaysSpec)

/-- 'figureheadlaw19.ShapeCounts', WHERE WHAT IT READS IS OF BULK AT MOST 1048576: true; the input reads as it did. -/
def shapeCountsUptoRow : OpenClaim := { program := "ytcmgdjnjmobkoaagreatdoor", sum := "50bb2f6c27141306497e3ba976410f661378ef67822541f48eac281c4174f23c", func := "figurehead/figureheadlaw19.ShapeCounts", spec := "shapeCounts", inPlace := ["internal/bytealg.IndexByteString", "internal/bytealg.IndexString", "internal/abi.NoEscape"], unfollowed := true, recurses := true, named := ["unicode/utf8.first", "unicode/utf8.acceptRanges", "figurehead/ten.powers", "figurehead/mode.ways", "internal/bytealg.MaxLen"], apart := false, laid := [("figurehead/mode.ways", laid_figurehead_mode_ways), ("unicode/utf8.acceptRanges", laid_unicode_utf8_acceptRanges), ("figurehead/ten.powers", laid_figurehead_ten_powers), ("unicode/utf8.first", laid_unicode_utf8_first)], narrowed := true }
def ShapeCountsUptoSaid : Prop := shapeCountsUptoRow.holds Tryz.pinned (OpenSpec.upto shapeCountsSpec)

/-- 'figureheadlaw19.ShapeValue', WHERE WHAT IT READS IS OF BULK AT MOST 1048576: true; the input reads as it did. -/
def shapeValueUptoRow : OpenClaim := { program := "ytcmgdjnjmobkoaagreatdoor", sum := "50bb2f6c27141306497e3ba976410f661378ef67822541f48eac281c4174f23c", func := "figurehead/figureheadlaw19.ShapeValue", spec := "shapeValue", inPlace := ["internal/bytealg.IndexByteString", "internal/bytealg.IndexString", "internal/abi.NoEscape"], unfollowed := true, recurses := true, named := ["unicode/utf8.first", "unicode/utf8.acceptRanges", "figurehead/ten.powers", "figurehead/mode.ways", "internal/bytealg.MaxLen"], apart := false, laid := [("figurehead/mode.ways", laid_figurehead_mode_ways), ("unicode/utf8.acceptRanges", laid_unicode_utf8_acceptRanges), ("figurehead/ten.powers", laid_figurehead_ten_powers), ("unicode/utf8.first", laid_unicode_utf8_first)], narrowed := true }
def ShapeValueUptoSaid : Prop := shapeValueUptoRow.holds Tryz.pinned (OpenSpec.upto shapeValueSpec)

end Rows
end Go.Proofs.YtcmgdjnjmobkoaaGreatDoor
