/-
  NARROWER THAN 'FOR EVERY INPUT', by the rows' own cells (each row's printed sentence says how): PlaceRounds: laid · PlaceFits: laid · PlaceNear: laid · PlaceOrders: laid · PlaceTurned: laid · PlaceMoves: laid · SigRounds: laid · SigCounts: laid · SigOrders: laid · SigScales: laid · SigEnough: laid.
  DERIVED. THE GIVEN ROWS OF THIS SEAT. 11 by the template 'for every input the law returns true; each argument reads behind the call as it read before'; 0 by the template 'total and deterministic' (their statements: YtjpokifkbclkiaaDoorTotals.lean).
  GIVEN WITH THE SEED: the statements are not yours to turn. If you find one false, say at which input.
  Laid BY PROGRAM, IN A SANDBOX (cutbox-rows.mjs): the forced cells as the released guide's own fill.sh prints them over the translation ad04966e23bb9530… (all of the seat's roots in one cut). By AI agents, Wed Nov 11 2026. No macro, syntax, notation, axiom, sorry.
-/
import Derived.Test.YtjpokifkbclkiaaDoorChecked
import GoSem.PinnedTables
import GoSem.Claim
import GoSem.ClaimJoined
import GoSem.ClaimMapViews
import Derived.JoinedTies
import Derived.KernelRfl
namespace Go.Proofs.YtjpokifkbclkiaaDoor
/- THE CELL 'sum', in the pinned program and in every row, IS THE sha256 OF THE DUMP (.gsa) THAT YtjpokifkbclkiaaDoorProg.lean LOADS. Nothing in Lean hashes anything: it is a label: what it is worth is what the hold of that sum in a sandbox is worth. -/
noncomputable def Tryd.pinned : Pinned := { name := "ytjpokifkbclkiaadoor", sum := "ad04966e23bb9530254e79491c0be1c47035fa0878382f1e24e6c5b12a4a5441", checked := Tryd.checked }
namespace Rows
def none {H : Type} : Left H := { results := [], args := [] }

/- WHAT THE LISTED PACKAGE-LEVEL VARIABLES READ AS WHEN THE CALL BEGINS. Each datum BY PROGRAM (the guide's laid-datum.mjs) off the statement by which the dump's own 'gosem.cut.vars' lays the variable. In a bare row this is a premise. The card (YtjpokifkbclkiaaDoorCards.lean) ties it to the program's text. -/
def laid_figurehead_mode_ways {H : Type} : DataW H := .iface "func table" (.agg [.agg [.iface "func" (.lit (.string [102, 105, 103, 117, 114, 101, 104, 101, 97, 100, 47, 109, 111, 100, 101, 46, 119, 97, 121, 115, 36, 49]))], .agg [.iface "func" (.lit (.string [102, 105, 103, 117, 114, 101, 104, 101, 97, 100, 47, 109, 111, 100, 101, 46, 119, 97, 121, 115, 36, 50]))], .agg [.iface "func" (.lit (.string [102, 105, 103, 117, 114, 101, 104, 101, 97, 100, 47, 109, 111, 100, 101, 46, 119, 97, 121, 115, 36, 51]))], .agg [.iface "func" (.lit (.string [102, 105, 103, 117, 114, 101, 104, 101, 97, 100, 47, 109, 111, 100, 101, 46, 119, 97, 121, 115, 36, 52]))], .agg [.iface "func" (.lit (.string [102, 105, 103, 117, 114, 101, 104, 101, 97, 100, 47, 109, 111, 100, 101, 46, 119, 97, 121, 115, 36, 53]))], .agg [.iface "func" (.lit (.string [102, 105, 103, 117, 114, 101, 104, 101, 97, 100, 47, 109, 111, 100, 101, 46, 119, 97, 121, 115, 36, 54]))], .agg [.iface "func" (.lit (.string [102, 105, 103, 117, 114, 101, 104, 101, 97, 100, 47, 109, 111, 100, 101, 46, 119, 97, 121, 115, 36, 55]))], .agg [.iface "func" (.lit (.string [102, 105, 103, 117, 114, 101, 104, 101, 97, 100, 47, 109, 111, 100, 101, 46, 119, 97, 121, 115, 36, 56]))]])
def laid_unicode_utf8_acceptRanges {H : Type} : DataW H := .agg [.agg [.lit (.int .u8 128), .lit (.int .u8 191)], .agg [.lit (.int .u8 160), .lit (.int .u8 191)], .agg [.lit (.int .u8 128), .lit (.int .u8 159)], .agg [.lit (.int .u8 144), .lit (.int .u8 191)], .agg [.lit (.int .u8 128), .lit (.int .u8 143)], .agg [.lit (.int .u8 0), .lit (.int .u8 0)], .agg [.lit (.int .u8 0), .lit (.int .u8 0)], .agg [.lit (.int .u8 0), .lit (.int .u8 0)], .agg [.lit (.int .u8 0), .lit (.int .u8 0)], .agg [.lit (.int .u8 0), .lit (.int .u8 0)], .agg [.lit (.int .u8 0), .lit (.int .u8 0)], .agg [.lit (.int .u8 0), .lit (.int .u8 0)], .agg [.lit (.int .u8 0), .lit (.int .u8 0)], .agg [.lit (.int .u8 0), .lit (.int .u8 0)], .agg [.lit (.int .u8 0), .lit (.int .u8 0)], .agg [.lit (.int .u8 0), .lit (.int .u8 0)]]
def laid_figurehead_ten_powers {H : Type} : DataW H := .agg [.lit (.int .u32 1), .lit (.int .u32 10), .lit (.int .u32 100), .lit (.int .u32 1000), .lit (.int .u32 10000), .lit (.int .u32 100000), .lit (.int .u32 1000000), .lit (.int .u32 10000000), .lit (.int .u32 100000000)]
/-- One of Go's own tables, pinned by name: the form's constant. -/
def laid_unicode_utf8_first : DataW Unit := Go.Pinned.utf8First

/-- 'figureheadlaw08.PlaceRounds': WHATEVER THE INPUT: true; the input reads as it did. -/
def placeRoundsSpec : ChangeSpec := { name := "placeRounds", fn := fun _ => fun
  | [d1, d2, d3] => { results := [.lit (.bool true)], args := [d1, d2, d3] }
  | _ => none }
def placeRoundsRow : OpenClaim := { program := "ytjpokifkbclkiaadoor", sum := "ad04966e23bb9530254e79491c0be1c47035fa0878382f1e24e6c5b12a4a5441", func := "figurehead/figureheadlaw08.PlaceRounds", spec := "placeRounds", inPlace := ["internal/bytealg.IndexByteString", "internal/bytealg.IndexString", "internal/abi.NoEscape"], unfollowed := true, recurses := true, named := ["figurehead/ten.powers", "unicode/utf8.first", "unicode/utf8.acceptRanges", "figurehead/mode.ways", "internal/bytealg.MaxLen"], apart := false, laid := [("figurehead/mode.ways", laid_figurehead_mode_ways), ("unicode/utf8.acceptRanges", laid_unicode_utf8_acceptRanges), ("figurehead/ten.powers", laid_figurehead_ten_powers), ("unicode/utf8.first", laid_unicode_utf8_first)] }
def PlaceRoundsSaid : Prop := placeRoundsRow.holds Tryd.pinned (OpenSpec.ofChange placeRoundsSpec)

/-- ITS FALSE NEIGHBOUR: 'it returns false'. Refute it at one input. -/
def placeRoundsWrong : ChangeSpec := { name := "placeRounds", fn := fun _ => fun
  | [d1, d2, d3] => { results := [.lit (.bool false)], args := [d1, d2, d3] }
  | _ => none }
def PlaceRoundsWrongFalsely : Prop := placeRoundsRow.holds Tryd.pinned (OpenSpec.ofChange placeRoundsWrong)

/-- 'figureheadlaw08.PlaceFits': WHATEVER THE INPUT: true; the input reads as it did. -/
def placeFitsSpec : ChangeSpec := { name := "placeFits", fn := fun _ => fun
  | [d1, d2, d3] => { results := [.lit (.bool true)], args := [d1, d2, d3] }
  | _ => none }
def placeFitsRow : OpenClaim := { program := "ytjpokifkbclkiaadoor", sum := "ad04966e23bb9530254e79491c0be1c47035fa0878382f1e24e6c5b12a4a5441", func := "figurehead/figureheadlaw08.PlaceFits", spec := "placeFits", inPlace := ["internal/bytealg.IndexByteString", "internal/bytealg.IndexString", "internal/abi.NoEscape"], unfollowed := true, recurses := true, named := ["figurehead/ten.powers", "unicode/utf8.first", "unicode/utf8.acceptRanges", "figurehead/mode.ways", "internal/bytealg.MaxLen"], apart := false, laid := [("figurehead/mode.ways", laid_figurehead_mode_ways), ("unicode/utf8.acceptRanges", laid_unicode_utf8_acceptRanges), ("figurehead/ten.powers", laid_figurehead_ten_powers), ("unicode/utf8.first", laid_unicode_utf8_first)] }
def PlaceFitsSaid : Prop := placeFitsRow.holds Tryd.pinned (OpenSpec.ofChange placeFitsSpec)

/-- ITS FALSE NEIGHBOUR: 'it returns false'. Refute it at one input. -/
def placeFitsWrong : ChangeSpec := { name := "placeFits", fn := fun _ => fun
  | [d1, d2, d3] => { results := [.lit (.bool false)], args := [d1, d2, d3] }
  | _ => none }
def PlaceFitsWrongFalsely : Prop := placeFitsRow.holds Tryd.pinned (OpenSpec.ofChange placeFitsWrong)

/-- 'figureheadlaw08.PlaceNear': WHATEVER THE INPUT: true; the input reads as it did. -/
def placeNearSpec : ChangeSpec := { name := "placeNear", fn := fun _ => fun
  | [d1, d2, d3] => { results := [.lit (.bool true)], args := [d1, d2, d3] }
  | _ => none }
def placeNearRow : OpenClaim := { program := "ytjpokifkbclkiaadoor", sum := "ad04966e23bb9530254e79491c0be1c47035fa0878382f1e24e6c5b12a4a5441", func := "figurehead/figureheadlaw08.PlaceNear", spec := "placeNear", inPlace := ["internal/bytealg.IndexByteString", "internal/bytealg.IndexString", "internal/abi.NoEscape"], unfollowed := true, recurses := true, named := ["figurehead/ten.powers", "unicode/utf8.first", "unicode/utf8.acceptRanges", "figurehead/mode.ways", "internal/bytealg.MaxLen"], apart := false, laid := [("figurehead/mode.ways", laid_figurehead_mode_ways), ("unicode/utf8.acceptRanges", laid_unicode_utf8_acceptRanges), ("figurehead/ten.powers", laid_figurehead_ten_powers), ("unicode/utf8.first", laid_unicode_utf8_first)] }
def PlaceNearSaid : Prop := placeNearRow.holds Tryd.pinned (OpenSpec.ofChange placeNearSpec)

/-- ITS FALSE NEIGHBOUR: 'it returns false'. Refute it at one input. -/
def placeNearWrong : ChangeSpec := { name := "placeNear", fn := fun _ => fun
  | [d1, d2, d3] => { results := [.lit (.bool false)], args := [d1, d2, d3] }
  | _ => none }
def PlaceNearWrongFalsely : Prop := placeNearRow.holds Tryd.pinned (OpenSpec.ofChange placeNearWrong)

/-- 'figureheadlaw08.PlaceOrders': WHATEVER THE INPUT: true; the input reads as it did. -/
def placeOrdersSpec : ChangeSpec := { name := "placeOrders", fn := fun _ => fun
  | [d1, d2, d3, d4, d5] => { results := [.lit (.bool true)], args := [d1, d2, d3, d4, d5] }
  | _ => none }
def placeOrdersRow : OpenClaim := { program := "ytjpokifkbclkiaadoor", sum := "ad04966e23bb9530254e79491c0be1c47035fa0878382f1e24e6c5b12a4a5441", func := "figurehead/figureheadlaw08.PlaceOrders", spec := "placeOrders", inPlace := ["internal/bytealg.IndexByteString", "internal/bytealg.IndexString", "internal/abi.NoEscape"], unfollowed := true, recurses := true, named := ["figurehead/ten.powers", "unicode/utf8.first", "unicode/utf8.acceptRanges", "figurehead/mode.ways", "internal/bytealg.MaxLen"], apart := false, laid := [("figurehead/mode.ways", laid_figurehead_mode_ways), ("unicode/utf8.acceptRanges", laid_unicode_utf8_acceptRanges), ("figurehead/ten.powers", laid_figurehead_ten_powers), ("unicode/utf8.first", laid_unicode_utf8_first)] }
def PlaceOrdersSaid : Prop := placeOrdersRow.holds Tryd.pinned (OpenSpec.ofChange placeOrdersSpec)

/-- ITS FALSE NEIGHBOUR: 'it returns false'. Refute it at one input. -/
def placeOrdersWrong : ChangeSpec := { name := "placeOrders", fn := fun _ => fun
  | [d1, d2, d3, d4, d5] => { results := [.lit (.bool false)], args := [d1, d2, d3, d4, d5] }
  | _ => none }
def PlaceOrdersWrongFalsely : Prop := placeOrdersRow.holds Tryd.pinned (OpenSpec.ofChange placeOrdersWrong)

/-- 'figureheadlaw08.PlaceTurned': WHATEVER THE INPUT: true; the input reads as it did. -/
def placeTurnedSpec : ChangeSpec := { name := "placeTurned", fn := fun _ => fun
  | [d1, d2, d3] => { results := [.lit (.bool true)], args := [d1, d2, d3] }
  | _ => none }
def placeTurnedRow : OpenClaim := { program := "ytjpokifkbclkiaadoor", sum := "ad04966e23bb9530254e79491c0be1c47035fa0878382f1e24e6c5b12a4a5441", func := "figurehead/figureheadlaw08.PlaceTurned", spec := "placeTurned", inPlace := ["internal/bytealg.IndexByteString", "internal/bytealg.IndexString", "internal/abi.NoEscape"], unfollowed := true, recurses := true, named := ["figurehead/ten.powers", "unicode/utf8.first", "unicode/utf8.acceptRanges", "figurehead/mode.ways", "internal/bytealg.MaxLen"], apart := false, laid := [("figurehead/mode.ways", laid_figurehead_mode_ways), ("unicode/utf8.acceptRanges", laid_unicode_utf8_acceptRanges), ("figurehead/ten.powers", laid_figurehead_ten_powers), ("unicode/utf8.first", laid_unicode_utf8_first)] }
def PlaceTurnedSaid : Prop := placeTurnedRow.holds Tryd.pinned (OpenSpec.ofChange placeTurnedSpec)

/-- ITS FALSE NEIGHBOUR: 'it returns false'. Refute it at one input. -/
def placeTurnedWrong : ChangeSpec := { name := "placeTurned", fn := fun _ => fun
  | [d1, d2, d3] => { results := [.lit (.bool false)], args := [d1, d2, d3] }
  | _ => none }
def PlaceTurnedWrongFalsely : Prop := placeTurnedRow.holds Tryd.pinned (OpenSpec.ofChange placeTurnedWrong)

/-- 'figureheadlaw08.PlaceMoves': WHATEVER THE INPUT: true; the input reads as it did. -/
def placeMovesSpec : ChangeSpec := { name := "placeMoves", fn := fun _ => fun
  | [d1, d2, d3, d4] => { results := [.lit (.bool true)], args := [d1, d2, d3, d4] }
  | _ => none }
def placeMovesRow : OpenClaim := { program := "ytjpokifkbclkiaadoor", sum := "ad04966e23bb9530254e79491c0be1c47035fa0878382f1e24e6c5b12a4a5441", func := "figurehead/figureheadlaw08.PlaceMoves", spec := "placeMoves", inPlace := ["internal/bytealg.IndexByteString", "internal/bytealg.IndexString", "internal/abi.NoEscape"], unfollowed := true, recurses := true, named := ["figurehead/ten.powers", "unicode/utf8.first", "unicode/utf8.acceptRanges", "figurehead/mode.ways", "internal/bytealg.MaxLen"], apart := false, laid := [("figurehead/mode.ways", laid_figurehead_mode_ways), ("unicode/utf8.acceptRanges", laid_unicode_utf8_acceptRanges), ("figurehead/ten.powers", laid_figurehead_ten_powers), ("unicode/utf8.first", laid_unicode_utf8_first)] }
def PlaceMovesSaid : Prop := placeMovesRow.holds Tryd.pinned (OpenSpec.ofChange placeMovesSpec)

/-- ITS FALSE NEIGHBOUR: 'it returns false'. Refute it at one input. -/
def placeMovesWrong : ChangeSpec := { name := "placeMoves", fn := fun _ => fun
  | [d1, d2, d3, d4] => { results := [.lit (.bool false)], args := [d1, d2, d3, d4] }
  | _ => none }
def PlaceMovesWrongFalsely : Prop := placeMovesRow.holds Tryd.pinned (OpenSpec.ofChange placeMovesWrong)

/-- 'figureheadlaw09.SigRounds': WHATEVER THE INPUT: true; the input reads as it did. -/
def sigRoundsSpec : ChangeSpec := { name := "sigRounds", fn := fun _ => fun
  | [d1, d2, d3] => { results := [.lit (.bool true)], args := [d1, d2, d3] }
  | _ => none }
def sigRoundsRow : OpenClaim := { program := "ytjpokifkbclkiaadoor", sum := "ad04966e23bb9530254e79491c0be1c47035fa0878382f1e24e6c5b12a4a5441", func := "figurehead/figureheadlaw09.SigRounds", spec := "sigRounds", inPlace := ["internal/bytealg.IndexByteString", "internal/bytealg.IndexString", "internal/abi.NoEscape"], unfollowed := true, recurses := true, named := ["unicode/utf8.first", "unicode/utf8.acceptRanges", "figurehead/ten.powers", "figurehead/mode.ways", "internal/bytealg.MaxLen"], apart := false, laid := [("figurehead/mode.ways", laid_figurehead_mode_ways), ("unicode/utf8.acceptRanges", laid_unicode_utf8_acceptRanges), ("figurehead/ten.powers", laid_figurehead_ten_powers), ("unicode/utf8.first", laid_unicode_utf8_first)] }
def SigRoundsSaid : Prop := sigRoundsRow.holds Tryd.pinned (OpenSpec.ofChange sigRoundsSpec)

/-- ITS FALSE NEIGHBOUR: 'it returns false'. Refute it at one input. -/
def sigRoundsWrong : ChangeSpec := { name := "sigRounds", fn := fun _ => fun
  | [d1, d2, d3] => { results := [.lit (.bool false)], args := [d1, d2, d3] }
  | _ => none }
def SigRoundsWrongFalsely : Prop := sigRoundsRow.holds Tryd.pinned (OpenSpec.ofChange sigRoundsWrong)

/-- 'figureheadlaw09.SigCounts': WHATEVER THE INPUT: true; the input reads as it did. -/
def sigCountsSpec : ChangeSpec := { name := "sigCounts", fn := fun _ => fun
  | [d1, d2] => { results := [.lit (.bool true)], args := [d1, d2] }
  | _ => none }
def sigCountsRow : OpenClaim := { program := "ytjpokifkbclkiaadoor", sum := "ad04966e23bb9530254e79491c0be1c47035fa0878382f1e24e6c5b12a4a5441", func := "figurehead/figureheadlaw09.SigCounts", spec := "sigCounts", inPlace := ["internal/bytealg.IndexByteString", "internal/bytealg.IndexString", "internal/abi.NoEscape"], unfollowed := true, recurses := true, named := ["unicode/utf8.first", "unicode/utf8.acceptRanges", "figurehead/ten.powers", "figurehead/mode.ways", "internal/bytealg.MaxLen"], apart := false, laid := [("figurehead/mode.ways", laid_figurehead_mode_ways), ("unicode/utf8.acceptRanges", laid_unicode_utf8_acceptRanges), ("figurehead/ten.powers", laid_figurehead_ten_powers), ("unicode/utf8.first", laid_unicode_utf8_first)] }
def SigCountsSaid : Prop := sigCountsRow.holds Tryd.pinned (OpenSpec.ofChange sigCountsSpec)

/-- ITS FALSE NEIGHBOUR: 'it returns false'. Refute it at one input. -/
def sigCountsWrong : ChangeSpec := { name := "sigCounts", fn := fun _ => fun
  | [d1, d2] => { results := [.lit (.bool false)], args := [d1, d2] }
  | _ => none }
def SigCountsWrongFalsely : Prop := sigCountsRow.holds Tryd.pinned (OpenSpec.ofChange sigCountsWrong)

/-- 'figureheadlaw09.SigOrders': WHATEVER THE INPUT: true; the input reads as it did. -/
def sigOrdersSpec : ChangeSpec := { name := "sigOrders", fn := fun _ => fun
  | [d1, d2, d3, d4] => { results := [.lit (.bool true)], args := [d1, d2, d3, d4] }
  | _ => none }
def sigOrdersRow : OpenClaim := { program := "ytjpokifkbclkiaadoor", sum := "ad04966e23bb9530254e79491c0be1c47035fa0878382f1e24e6c5b12a4a5441", func := "figurehead/figureheadlaw09.SigOrders", spec := "sigOrders", inPlace := ["internal/bytealg.IndexByteString", "internal/bytealg.IndexString", "internal/abi.NoEscape"], unfollowed := true, recurses := true, named := ["unicode/utf8.first", "unicode/utf8.acceptRanges", "figurehead/ten.powers", "figurehead/mode.ways", "internal/bytealg.MaxLen"], apart := false, laid := [("figurehead/mode.ways", laid_figurehead_mode_ways), ("unicode/utf8.acceptRanges", laid_unicode_utf8_acceptRanges), ("figurehead/ten.powers", laid_figurehead_ten_powers), ("unicode/utf8.first", laid_unicode_utf8_first)] }
def SigOrdersSaid : Prop := sigOrdersRow.holds Tryd.pinned (OpenSpec.ofChange sigOrdersSpec)

/-- ITS FALSE NEIGHBOUR: 'it returns false'. Refute it at one input. -/
def sigOrdersWrong : ChangeSpec := { name := "sigOrders", fn := fun _ => fun
  | [d1, d2, d3, d4] => { results := [.lit (.bool false)], args := [d1, d2, d3, d4] }
  | _ => none }
def SigOrdersWrongFalsely : Prop := sigOrdersRow.holds Tryd.pinned (OpenSpec.ofChange sigOrdersWrong)

/-- 'figureheadlaw09.SigScales': WHATEVER THE INPUT: true; the input reads as it did. -/
def sigScalesSpec : ChangeSpec := { name := "sigScales", fn := fun _ => fun
  | [d1, d2, d3, d4] => { results := [.lit (.bool true)], args := [d1, d2, d3, d4] }
  | _ => none }
def sigScalesRow : OpenClaim := { program := "ytjpokifkbclkiaadoor", sum := "ad04966e23bb9530254e79491c0be1c47035fa0878382f1e24e6c5b12a4a5441", func := "figurehead/figureheadlaw09.SigScales", spec := "sigScales", inPlace := ["internal/bytealg.IndexByteString", "internal/bytealg.IndexString", "internal/abi.NoEscape"], unfollowed := true, recurses := true, named := ["unicode/utf8.first", "unicode/utf8.acceptRanges", "figurehead/ten.powers", "figurehead/mode.ways", "internal/bytealg.MaxLen"], apart := false, laid := [("figurehead/mode.ways", laid_figurehead_mode_ways), ("unicode/utf8.acceptRanges", laid_unicode_utf8_acceptRanges), ("figurehead/ten.powers", laid_figurehead_ten_powers), ("unicode/utf8.first", laid_unicode_utf8_first)] }
def SigScalesSaid : Prop := sigScalesRow.holds Tryd.pinned (OpenSpec.ofChange sigScalesSpec)

/-- ITS FALSE NEIGHBOUR: 'it returns false'. Refute it at one input. -/
def sigScalesWrong : ChangeSpec := { name := "sigScales", fn := fun _ => fun
  | [d1, d2, d3, d4] => { results := [.lit (.bool false)], args := [d1, d2, d3, d4] }
  | _ => none }
def SigScalesWrongFalsely : Prop := sigScalesRow.holds Tryd.pinned (OpenSpec.ofChange sigScalesWrong)

/-- 'figureheadlaw09.SigEnough': WHATEVER THE INPUT: true; the input reads as it did. -/
def sigEnoughSpec : ChangeSpec := { name := "sigEnough", fn := fun _ => fun
  | [d1, d2, d3] => { results := [.lit (.bool true)], args := [d1, d2, d3] }
  | _ => none }
def sigEnoughRow : OpenClaim := { program := "ytjpokifkbclkiaadoor", sum := "ad04966e23bb9530254e79491c0be1c47035fa0878382f1e24e6c5b12a4a5441", func := "figurehead/figureheadlaw09.SigEnough", spec := "sigEnough", inPlace := ["internal/bytealg.IndexByteString", "internal/bytealg.IndexString", "internal/abi.NoEscape"], unfollowed := true, recurses := true, named := ["unicode/utf8.first", "unicode/utf8.acceptRanges", "figurehead/ten.powers", "figurehead/mode.ways", "internal/bytealg.MaxLen"], apart := false, laid := [("figurehead/mode.ways", laid_figurehead_mode_ways), ("unicode/utf8.acceptRanges", laid_unicode_utf8_acceptRanges), ("figurehead/ten.powers", laid_figurehead_ten_powers), ("unicode/utf8.first", laid_unicode_utf8_first)] }
def SigEnoughSaid : Prop := sigEnoughRow.holds Tryd.pinned (OpenSpec.ofChange sigEnoughSpec)

/-- ITS FALSE NEIGHBOUR: 'it returns false'. Refute it at one input. -/
def sigEnoughWrong : ChangeSpec := { name := "sigEnough", fn := fun _ => fun
  | [d1, d2, d3] => { results := [.lit (.bool false)], args := [d1, d2, d3] }
  | _ => none }
def SigEnoughWrongFalsely : Prop := sigEnoughRow.holds Tryd.pinned (OpenSpec.ofChange sigEnoughWrong)

/- THE SECOND FORM. 'bulk': how many values and letters a reading holds, each counted each time it is reached (what is shared counts as often as it is met; a slice's spare places count too). A statement '..UptoSaid' is the law's where the arguments, and the package variables that the reading takes, are together of bulk at most 1048576: NARROWER than '..Said'. Prove '..Said' where nothing that the law and all that it calls make is longer than what came in: it says more and counts as full. Else prove '..UptoSaid'. A law counts once. -/
mutual
def uptoBulk {H : Type} : DataW H → Nat
  | .lit (.string bytes) => bytes.length + 1
  | .lit _ => 1
  | .nil => 1
  | .ptr d => uptoBulk d + 1
  | .slice elems spare => uptoBulkAll elems + uptoBulkAll spare + 1
  | .agg parts => uptoBulkAll parts + 1
  | .iface _ d => uptoBulk d + 1
  | .map entries => uptoBulkEntries entries + 1
  | .held _ => 1
def uptoBulkAll {H : Type} : List (DataW H) → Nat
  | [] => 0
  | d :: r => uptoBulk d + uptoBulkAll r
def uptoBulkEntries {H : Type} : List (Lit × DataW H) → Nat
  | [] => 0
  | x :: r => uptoBulkEntry x + uptoBulkEntries r
def uptoBulkEntry {H : Type} : Lit × DataW H → Nat
  | (.string bytes, d) => bytes.length + uptoBulk d + 1
  | (_, d) => uptoBulk d + 1
 end
def uptoSmall : (H : Type) → List (DataW H) → Bool := fun _ ds => decide (uptoBulkAll ds ≤ 1048576)
def OpenSpec.upto (s : _root_.Go.ChangeSpec) : _root_.Go.OpenSpec := { _root_.Go.OpenSpec.ofChange s with cond := some uptoSmall }

/-- 'figureheadlaw08.PlaceRounds', WHERE WHAT IT READS IS OF BULK AT MOST 1048576: true; the input reads as it did. -/
def placeRoundsUptoRow : OpenClaim := { program := "ytjpokifkbclkiaadoor", sum := "ad04966e23bb9530254e79491c0be1c47035fa0878382f1e24e6c5b12a4a5441", func := "figurehead/figureheadlaw08.PlaceRounds", spec := "placeRounds", inPlace := ["internal/bytealg.IndexByteString", "internal/bytealg.IndexString", "internal/abi.NoEscape"], unfollowed := true, recurses := true, named := ["figurehead/ten.powers", "unicode/utf8.first", "unicode/utf8.acceptRanges", "figurehead/mode.ways", "internal/bytealg.MaxLen"], apart := false, laid := [("figurehead/mode.ways", laid_figurehead_mode_ways), ("unicode/utf8.acceptRanges", laid_unicode_utf8_acceptRanges), ("figurehead/ten.powers", laid_figurehead_ten_powers), ("unicode/utf8.first", laid_unicode_utf8_first)], narrowed := true }
def PlaceRoundsUptoSaid : Prop := placeRoundsUptoRow.holds Tryd.pinned (OpenSpec.upto placeRoundsSpec)

/-- 'figureheadlaw08.PlaceFits', WHERE WHAT IT READS IS OF BULK AT MOST 1048576: true; the input reads as it did. -/
def placeFitsUptoRow : OpenClaim := { program := "ytjpokifkbclkiaadoor", sum := "ad04966e23bb9530254e79491c0be1c47035fa0878382f1e24e6c5b12a4a5441", func := "figurehead/figureheadlaw08.PlaceFits", spec := "placeFits", inPlace := ["internal/bytealg.IndexByteString", "internal/bytealg.IndexString", "internal/abi.NoEscape"], unfollowed := true, recurses := true, named := ["figurehead/ten.powers", "unicode/utf8.first", "unicode/utf8.acceptRanges", "figurehead/mode.ways", "internal/bytealg.MaxLen"], apart := false, laid := [("figurehead/mode.ways", laid_figurehead_mode_ways), ("unicode/utf8.acceptRanges", laid_unicode_utf8_acceptRanges), ("figurehead/ten.powers", laid_figurehead_ten_powers), ("unicode/utf8.first", laid_unicode_utf8_first)], narrowed := true }
def PlaceFitsUptoSaid : Prop := placeFitsUptoRow.holds Tryd.pinned (OpenSpec.upto placeFitsSpec)

/-- 'figureheadlaw08.PlaceNear', WHERE WHAT IT READS IS OF BULK AT MOST 1048576: true; the input reads as it did. -/
def placeNearUptoRow : OpenClaim := { program := "ytjpokifkbclkiaadoor", sum := "ad04966e23bb9530254e79491c0be1c47035fa0878382f1e24e6c5b12a4a5441", func := "figurehead/figureheadlaw08.PlaceNear", spec := "placeNear", inPlace := ["internal/bytealg.IndexByteString", "internal/bytealg.IndexString", "internal/abi.NoEscape"], unfollowed := true, recurses := true, named := ["figurehead/ten.powers", "unicode/utf8.first", "unicode/utf8.acceptRanges", "figurehead/mode.ways", "internal/bytealg.MaxLen"], apart := false, laid := [("figurehead/mode.ways", laid_figurehead_mode_ways), ("unicode/utf8.acceptRanges", laid_unicode_utf8_acceptRanges), ("figurehead/ten.powers", laid_figurehead_ten_powers), ("unicode/utf8.first", laid_unicode_utf8_first)], narrowed := true }
def PlaceNearUptoSaid : Prop := placeNearUptoRow.holds Tryd.pinned (OpenSpec.upto placeNearSpec)

/-- 'figureheadlaw08.PlaceOrders', WHERE WHAT IT READS IS OF BULK AT MOST 1048576: true; the input reads as it did. -/
def placeOrdersUptoRow : OpenClaim := { program := "ytjpokifkbclkiaadoor", sum := "ad04966e23bb9530254e79491c0be1c47035fa0878382f1e24e6c5b12a4a5441", func := "figurehead/figureheadlaw08.PlaceOrders", spec := "placeOrders", inPlace := ["internal/bytealg.IndexByteString", "internal/bytealg.IndexString", "internal/abi.NoEscape"], unfollowed := true, recurses := true, named := ["figurehead/ten.powers", "unicode/utf8.first", "unicode/utf8.acceptRanges", "figurehead/mode.ways", "internal/bytealg.MaxLen"], apart := false, laid := [("figurehead/mode.ways", laid_figurehead_mode_ways), ("unicode/utf8.acceptRanges", laid_unicode_utf8_acceptRanges), ("figurehead/ten.powers", laid_figurehead_ten_powers), ("unicode/utf8.first", laid_unicode_utf8_first)], narrowed := true }
def PlaceOrdersUptoSaid : Prop := placeOrdersUptoRow.holds Tryd.pinned (OpenSpec.upto placeOrdersSpec)

/-- 'figureheadlaw08.PlaceTurned', WHERE WHAT IT READS IS OF BULK AT MOST 1048576: true; the input reads as it did. -/
def placeTurnedUptoRow : OpenClaim := { program := "ytjpokifkbclkiaadoor", sum := "ad04966e23bb9530254e79491c0be1c47035fa0878382f1e24e6c5b12a4a5441", func := "figurehead/figureheadlaw08.PlaceTurned", spec := "placeTurned", inPlace := ["internal/bytealg.IndexByteString", "internal/bytealg.IndexString", "internal/abi.NoEscape"], unfollowed := true, recurses := true, named := ["figurehead/ten.powers", "unicode/utf8.first", "unicode/utf8.acceptRanges", "figurehead/mode.ways", "internal/bytealg.MaxLen"], apart := false, laid := [("figurehead/mode.ways", laid_figurehead_mode_ways), ("unicode/utf8.acceptRanges", laid_unicode_utf8_acceptRanges), ("figurehead/ten.powers", laid_figurehead_ten_powers), ("unicode/utf8.first", laid_unicode_utf8_first)], narrowed := true }
def PlaceTurnedUptoSaid : Prop := placeTurnedUptoRow.holds Tryd.pinned (OpenSpec.upto placeTurnedSpec)

/-- 'figureheadlaw08.PlaceMoves', WHERE WHAT IT READS IS OF BULK AT MOST 1048576: true; the input reads as it did. -/
def placeMovesUptoRow : OpenClaim := { program := "ytjpokifkbclkiaadoor", sum := "ad04966e23bb9530254e79491c0be1c47035fa0878382f1e24e6c5b12a4a5441", func := "figurehead/figureheadlaw08.PlaceMoves", spec := "placeMoves", inPlace := ["internal/bytealg.IndexByteString", "internal/bytealg.IndexString", "internal/abi.NoEscape"], unfollowed := true, recurses := true, named := ["figurehead/ten.powers", "unicode/utf8.first", "unicode/utf8.acceptRanges", "figurehead/mode.ways", "internal/bytealg.MaxLen"], apart := false, laid := [("figurehead/mode.ways", laid_figurehead_mode_ways), ("unicode/utf8.acceptRanges", laid_unicode_utf8_acceptRanges), ("figurehead/ten.powers", laid_figurehead_ten_powers), ("unicode/utf8.first", laid_unicode_utf8_first)], narrowed := true }
def PlaceMovesUptoSaid : Prop := placeMovesUptoRow.holds Tryd.pinned (OpenSpec.upto placeMovesSpec)

/-- 'figureheadlaw09.SigRounds', WHERE WHAT IT READS IS OF BULK AT MOST 1048576: true; the input reads as it did. -/
def sigRoundsUptoRow : OpenClaim := { program := "ytjpokifkbclkiaadoor", sum := "ad04966e23bb9530254e79491c0be1c47035fa0878382f1e24e6c5b12a4a5441", func := "figurehead/figureheadlaw09.SigRounds", spec := "sigRounds", inPlace := ["internal/bytealg.IndexByteString", "internal/bytealg.IndexString", "internal/abi.NoEscape"], unfollowed := true, recurses := true, named := ["unicode/utf8.first", "unicode/utf8.acceptRanges", "figurehead/ten.powers", "figurehead/mode.ways", "internal/bytealg.MaxLen"], apart := false, laid := [("figurehead/mode.ways", laid_figurehead_mode_ways), ("unicode/utf8.acceptRanges", laid_unicode_utf8_acceptRanges), ("figurehead/ten.powers", laid_figurehead_ten_powers), ("unicode/utf8.first", laid_unicode_utf8_first)], narrowed := true }
def SigRoundsUptoSaid : Prop := sigRoundsUptoRow.holds Tryd.pinned (OpenSpec.upto sigRoundsSpec)

/-- 'figureheadlaw09.SigCounts', WHERE WHAT IT READS IS OF BULK AT MOST 1048576: true; the input reads as it did. -/
def sigCountsUptoRow : OpenClaim := { program := "ytjpokifkbclkiaadoor", sum := "ad04966e23bb9530254e79491c0be1c47035fa0878382f1e24e6c5b12a4a5441", func := "figurehead/figureheadlaw09.SigCounts", spec := "sigCounts", inPlace := ["internal/bytealg.IndexByteString", "internal/bytealg.IndexString", "internal/abi.NoEscape"], unfollowed := true, recurses := true, named := ["unicode/utf8.first", "unicode/utf8.acceptRanges", "figurehead/ten.powers", "figurehead/mode.ways", "internal/bytealg.MaxLen"], apart := false, laid := [("figurehead/mode.ways", laid_figurehead_mode_ways), ("unicode/utf8.acceptRanges", laid_unicode_utf8_acceptRanges), ("figurehead/ten.powers", laid_figurehead_ten_powers), ("unicode/utf8.first", laid_unicode_utf8_first)], narrowed := true }
def SigCountsUptoSaid : Prop := sigCountsUptoRow.holds Tryd.pinned (OpenSpec.upto sigCountsSpec)

/-- 'figureheadlaw09.SigOrders', WHERE WHAT IT READS IS OF BULK AT MOST 1048576: true; the input reads as it did. -/
def sigOrdersUptoRow : OpenClaim := { program := "ytjpokifkbclkiaadoor", sum := "ad04966e23bb9530254e79491c0be1c47035fa0878382f1e24e6c5b12a4a5441", func := "figurehead/figureheadlaw09.SigOrders", spec := "sigOrders", inPlace := ["internal/bytealg.IndexByteString", "internal/bytealg.IndexString", "internal/abi.NoEscape"], unfollowed := true, recurses := true, named := ["unicode/utf8.first", "unicode/utf8.acceptRanges", "figurehead/ten.powers", "figurehead/mode.ways", "internal/bytealg.MaxLen"], apart := false, laid := [("figurehead/mode.ways", laid_figurehead_mode_ways), ("unicode/utf8.acceptRanges", laid_unicode_utf8_acceptRanges), ("figurehead/ten.powers", laid_figurehead_ten_powers), ("unicode/utf8.first", laid_unicode_utf8_first)], narrowed := true }
def SigOrdersUptoSaid : Prop := sigOrdersUptoRow.holds Tryd.pinned (OpenSpec.upto sigOrdersSpec)

/-- 'figureheadlaw09.SigScales', WHERE WHAT IT READS IS OF BULK AT MOST 1048576: true; the input reads as it did. -/
def sigScalesUptoRow : OpenClaim := { program := "ytjpokifkbclkiaadoor", sum := "ad04966e23bb9530254e79491c0be1c47035fa0878382f1e24e6c5b12a4a5441", func := "figurehead/figureheadlaw09.SigScales", spec := "sigScales", inPlace := ["internal/bytealg.IndexByteString", "internal/bytealg.IndexString", "internal/abi.NoEscape"], unfollowed := true, recurses := true, named := ["unicode/utf8.first", "unicode/utf8.acceptRanges", "figurehead/ten.powers", "figurehead/mode.ways", "internal/bytealg.MaxLen"], apart := false, laid := [("figurehead/mode.ways", laid_figurehead_mode_ways), ("unicode/utf8.acceptRanges", laid_unicode_utf8_acceptRanges), ("figurehead/ten.powers", laid_figurehead_ten_powers), ("unicode/utf8.first", laid_unicode_utf8_first)], narrowed := true }
def SigScalesUptoSaid : Prop := sigScalesUptoRow.holds Tryd.pinned (OpenSpec.upto sigScalesSpec)

/-- 'figureheadlaw09.SigEnough', WHERE WHAT IT READS IS OF BULK AT MOST 1048576: true; the input reads as it did. -/
def sigEnoughUptoRow : OpenClaim := { program := "ytjpokifkbclkiaadoor", sum := "ad04966e23bb9530254e79491c0be1c47035fa0878382f1e24e6c5b12a4a5441", func := "figurehead/figureheadlaw09.SigEnough", spec := "sigEnough", inPlace := ["internal/bytealg.IndexByteString", "internal/bytealg.IndexString", "internal/abi.NoEscape"], unfollowed := true, recurses := true, named := ["unicode/utf8.first", "unicode/utf8.acceptRanges", "figurehead/ten.powers", "figurehead/mode.ways", "internal/bytealg.MaxLen"], apart := false, laid := [("figurehead/mode.ways", laid_figurehead_mode_ways), ("unicode/utf8.acceptRanges", laid_unicode_utf8_acceptRanges), ("figurehead/ten.powers", laid_figurehead_ten_powers), ("unicode/utf8.first", laid_unicode_utf8_first)], narrowed := true }
def SigEnoughUptoSaid : Prop := sigEnoughUptoRow.holds Tryd.pinned (OpenSpec.upto sigEnoughSpec)

end Rows
end Go.Proofs.YtjpokifkbclkiaaDoor
