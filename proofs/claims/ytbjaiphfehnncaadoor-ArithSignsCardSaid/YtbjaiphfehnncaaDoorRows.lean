/-
  NARROWER THAN 'FOR EVERY INPUT', by the rows' own cells (each row's printed sentence says how): DecGood: laid · DecDigits: laid · DecOrders: laid · DecRanges: laid · DecAlike: laid · DecThree: laid · DecPlaces: laid · ArithAdds: laid · ArithMuls: laid · ArithLaws: laid · ArithOrders: laid · ArithSigns: laid.
  DERIVED. THE GIVEN ROWS OF THIS SEAT. 12 by the template 'for every input the law returns true; each argument reads behind the call as it read before'; 0 by the template 'total and deterministic' (their statements: YtbjaiphfehnncaaDoorTotals.lean).
  GIVEN WITH THE SEED: the statements are not yours to turn. If you find one false, say at which input.
  Laid BY PROGRAM, IN A SANDBOX (cutbox-rows.mjs): the forced cells as the released guide's own fill.sh prints them over the translation 8a04f81e8bc511e5… (all of the seat's roots in one cut). By AI agents, Wed Nov 11 2026. No macro, syntax, notation, axiom, sorry.
-/
import Derived.Test.YtbjaiphfehnncaaDoorChecked
import GoSem.PinnedTables
import GoSem.Claim
import GoSem.ClaimJoined
import GoSem.ClaimMapViews
import Derived.JoinedTies
import Derived.KernelRfl
namespace Go.Proofs.YtbjaiphfehnncaaDoor
/- THE CELL 'sum', in the pinned program and in every row, IS THE sha256 OF THE DUMP (.gsa) THAT YtbjaiphfehnncaaDoorProg.lean LOADS. Nothing in Lean hashes anything: it is a label: what it is worth is what the hold of that sum in a sandbox is worth. -/
noncomputable def Tryd.pinned : Pinned := { name := "ytbjaiphfehnncaadoor", sum := "8a04f81e8bc511e5a0a35e70c0ae561afbc2c0cc9571493285c2bd216da38d90", checked := Tryd.checked }
namespace Rows
def none {H : Type} : Left H := { results := [], args := [] }

/- WHAT THE LISTED PACKAGE-LEVEL VARIABLES READ AS WHEN THE CALL BEGINS. Each datum BY PROGRAM (the guide's laid-datum.mjs) off the statement by which the dump's own 'gosem.cut.vars' lays the variable. In a bare row this is a premise. The card (YtbjaiphfehnncaaDoorCards.lean) ties it to the program's text. -/
def laid_unicode_utf8_acceptRanges {H : Type} : DataW H := .agg [.agg [.lit (.int .u8 128), .lit (.int .u8 191)], .agg [.lit (.int .u8 160), .lit (.int .u8 191)], .agg [.lit (.int .u8 128), .lit (.int .u8 159)], .agg [.lit (.int .u8 144), .lit (.int .u8 191)], .agg [.lit (.int .u8 128), .lit (.int .u8 143)], .agg [.lit (.int .u8 0), .lit (.int .u8 0)], .agg [.lit (.int .u8 0), .lit (.int .u8 0)], .agg [.lit (.int .u8 0), .lit (.int .u8 0)], .agg [.lit (.int .u8 0), .lit (.int .u8 0)], .agg [.lit (.int .u8 0), .lit (.int .u8 0)], .agg [.lit (.int .u8 0), .lit (.int .u8 0)], .agg [.lit (.int .u8 0), .lit (.int .u8 0)], .agg [.lit (.int .u8 0), .lit (.int .u8 0)], .agg [.lit (.int .u8 0), .lit (.int .u8 0)], .agg [.lit (.int .u8 0), .lit (.int .u8 0)], .agg [.lit (.int .u8 0), .lit (.int .u8 0)]]
def laid_figurehead_ten_powers {H : Type} : DataW H := .agg [.lit (.int .u32 1), .lit (.int .u32 10), .lit (.int .u32 100), .lit (.int .u32 1000), .lit (.int .u32 10000), .lit (.int .u32 100000), .lit (.int .u32 1000000), .lit (.int .u32 10000000), .lit (.int .u32 100000000)]
/-- One of Go's own tables, pinned by name: the form's constant. -/
def laid_unicode_utf8_first : DataW Unit := Go.Pinned.utf8First

/-- 'figureheadlaw05.DecGood': WHATEVER THE INPUT: true; the input reads as it did. -/
def decGoodSpec : ChangeSpec := { name := "decGood", fn := fun _ => fun
  | [d] => { results := [.lit (.bool true)], args := [d] }
  | _ => none }
def decGoodRow : OpenClaim := { program := "ytbjaiphfehnncaadoor", sum := "8a04f81e8bc511e5a0a35e70c0ae561afbc2c0cc9571493285c2bd216da38d90", func := "figurehead/figureheadlaw05.DecGood", spec := "decGood", inPlace := ["internal/bytealg.IndexByteString", "internal/bytealg.IndexString"], named := ["unicode/utf8.first", "unicode/utf8.acceptRanges", "figurehead/ten.powers", "internal/bytealg.MaxLen"], apart := false, laid := [("unicode/utf8.acceptRanges", laid_unicode_utf8_acceptRanges), ("figurehead/ten.powers", laid_figurehead_ten_powers), ("unicode/utf8.first", laid_unicode_utf8_first)] }
def DecGoodSaid : Prop := decGoodRow.holds Tryd.pinned (OpenSpec.ofChange decGoodSpec)

/-- ITS FALSE NEIGHBOUR: 'it returns false'. Refute it at one input. -/
def decGoodWrong : ChangeSpec := { name := "decGood", fn := fun _ => fun
  | [d] => { results := [.lit (.bool false)], args := [d] }
  | _ => none }
def DecGoodWrongFalsely : Prop := decGoodRow.holds Tryd.pinned (OpenSpec.ofChange decGoodWrong)

/-- 'figureheadlaw05.DecDigits': WHATEVER THE INPUT: true; the input reads as it did. -/
def decDigitsSpec : ChangeSpec := { name := "decDigits", fn := fun _ => fun
  | [d1, d2] => { results := [.lit (.bool true)], args := [d1, d2] }
  | _ => none }
def decDigitsRow : OpenClaim := { program := "ytbjaiphfehnncaadoor", sum := "8a04f81e8bc511e5a0a35e70c0ae561afbc2c0cc9571493285c2bd216da38d90", func := "figurehead/figureheadlaw05.DecDigits", spec := "decDigits", inPlace := ["internal/bytealg.IndexByteString", "internal/bytealg.IndexString"], named := ["unicode/utf8.first", "unicode/utf8.acceptRanges", "figurehead/ten.powers", "internal/bytealg.MaxLen"], apart := false, laid := [("unicode/utf8.acceptRanges", laid_unicode_utf8_acceptRanges), ("figurehead/ten.powers", laid_figurehead_ten_powers), ("unicode/utf8.first", laid_unicode_utf8_first)] }
def DecDigitsSaid : Prop := decDigitsRow.holds Tryd.pinned (OpenSpec.ofChange decDigitsSpec)

/-- ITS FALSE NEIGHBOUR: 'it returns false'. Refute it at one input. -/
def decDigitsWrong : ChangeSpec := { name := "decDigits", fn := fun _ => fun
  | [d1, d2] => { results := [.lit (.bool false)], args := [d1, d2] }
  | _ => none }
def DecDigitsWrongFalsely : Prop := decDigitsRow.holds Tryd.pinned (OpenSpec.ofChange decDigitsWrong)

/-- 'figureheadlaw05.DecOrders': WHATEVER THE INPUT: true; the input reads as it did. -/
def decOrdersSpec : ChangeSpec := { name := "decOrders", fn := fun _ => fun
  | [d1, d2] => { results := [.lit (.bool true)], args := [d1, d2] }
  | _ => none }
def decOrdersRow : OpenClaim := { program := "ytbjaiphfehnncaadoor", sum := "8a04f81e8bc511e5a0a35e70c0ae561afbc2c0cc9571493285c2bd216da38d90", func := "figurehead/figureheadlaw05.DecOrders", spec := "decOrders", inPlace := ["internal/bytealg.IndexByteString", "internal/bytealg.IndexString"], named := ["unicode/utf8.first", "unicode/utf8.acceptRanges", "figurehead/ten.powers", "internal/bytealg.MaxLen"], apart := false, laid := [("unicode/utf8.acceptRanges", laid_unicode_utf8_acceptRanges), ("figurehead/ten.powers", laid_figurehead_ten_powers), ("unicode/utf8.first", laid_unicode_utf8_first)] }
def DecOrdersSaid : Prop := decOrdersRow.holds Tryd.pinned (OpenSpec.ofChange decOrdersSpec)

/-- ITS FALSE NEIGHBOUR: 'it returns false'. Refute it at one input. -/
def decOrdersWrong : ChangeSpec := { name := "decOrders", fn := fun _ => fun
  | [d1, d2] => { results := [.lit (.bool false)], args := [d1, d2] }
  | _ => none }
def DecOrdersWrongFalsely : Prop := decOrdersRow.holds Tryd.pinned (OpenSpec.ofChange decOrdersWrong)

/-- 'figureheadlaw05.DecRanges': WHATEVER THE INPUT: true; the input reads as it did. -/
def decRangesSpec : ChangeSpec := { name := "decRanges", fn := fun _ => fun
  | [d] => { results := [.lit (.bool true)], args := [d] }
  | _ => none }
def decRangesRow : OpenClaim := { program := "ytbjaiphfehnncaadoor", sum := "8a04f81e8bc511e5a0a35e70c0ae561afbc2c0cc9571493285c2bd216da38d90", func := "figurehead/figureheadlaw05.DecRanges", spec := "decRanges", inPlace := ["internal/bytealg.IndexByteString", "internal/bytealg.IndexString"], named := ["unicode/utf8.first", "unicode/utf8.acceptRanges", "figurehead/ten.powers", "internal/bytealg.MaxLen"], apart := false, laid := [("unicode/utf8.acceptRanges", laid_unicode_utf8_acceptRanges), ("figurehead/ten.powers", laid_figurehead_ten_powers), ("unicode/utf8.first", laid_unicode_utf8_first)] }
def DecRangesSaid : Prop := decRangesRow.holds Tryd.pinned (OpenSpec.ofChange decRangesSpec)

/-- ITS FALSE NEIGHBOUR: 'it returns false'. Refute it at one input. -/
def decRangesWrong : ChangeSpec := { name := "decRanges", fn := fun _ => fun
  | [d] => { results := [.lit (.bool false)], args := [d] }
  | _ => none }
def DecRangesWrongFalsely : Prop := decRangesRow.holds Tryd.pinned (OpenSpec.ofChange decRangesWrong)

/-- 'figureheadlaw05.DecAlike': WHATEVER THE INPUT: true; the input reads as it did. -/
def decAlikeSpec : ChangeSpec := { name := "decAlike", fn := fun _ => fun
  | [d1, d2] => { results := [.lit (.bool true)], args := [d1, d2] }
  | _ => none }
def decAlikeRow : OpenClaim := { program := "ytbjaiphfehnncaadoor", sum := "8a04f81e8bc511e5a0a35e70c0ae561afbc2c0cc9571493285c2bd216da38d90", func := "figurehead/figureheadlaw05.DecAlike", spec := "decAlike", inPlace := ["internal/bytealg.IndexByteString", "internal/bytealg.IndexString"], named := ["unicode/utf8.first", "unicode/utf8.acceptRanges", "figurehead/ten.powers", "internal/bytealg.MaxLen"], apart := false, laid := [("unicode/utf8.acceptRanges", laid_unicode_utf8_acceptRanges), ("figurehead/ten.powers", laid_figurehead_ten_powers), ("unicode/utf8.first", laid_unicode_utf8_first)] }
def DecAlikeSaid : Prop := decAlikeRow.holds Tryd.pinned (OpenSpec.ofChange decAlikeSpec)

/-- ITS FALSE NEIGHBOUR: 'it returns false'. Refute it at one input. -/
def decAlikeWrong : ChangeSpec := { name := "decAlike", fn := fun _ => fun
  | [d1, d2] => { results := [.lit (.bool false)], args := [d1, d2] }
  | _ => none }
def DecAlikeWrongFalsely : Prop := decAlikeRow.holds Tryd.pinned (OpenSpec.ofChange decAlikeWrong)

/-- 'figureheadlaw05.DecThree': WHATEVER THE INPUT: true; the input reads as it did. -/
def decThreeSpec : ChangeSpec := { name := "decThree", fn := fun _ => fun
  | [d1, d2, d3] => { results := [.lit (.bool true)], args := [d1, d2, d3] }
  | _ => none }
def decThreeRow : OpenClaim := { program := "ytbjaiphfehnncaadoor", sum := "8a04f81e8bc511e5a0a35e70c0ae561afbc2c0cc9571493285c2bd216da38d90", func := "figurehead/figureheadlaw05.DecThree", spec := "decThree", inPlace := ["internal/bytealg.IndexByteString", "internal/bytealg.IndexString"], named := ["figurehead/ten.powers", "unicode/utf8.first", "unicode/utf8.acceptRanges", "internal/bytealg.MaxLen"], apart := false, laid := [("unicode/utf8.acceptRanges", laid_unicode_utf8_acceptRanges), ("figurehead/ten.powers", laid_figurehead_ten_powers), ("unicode/utf8.first", laid_unicode_utf8_first)] }
def DecThreeSaid : Prop := decThreeRow.holds Tryd.pinned (OpenSpec.ofChange decThreeSpec)

/-- ITS FALSE NEIGHBOUR: 'it returns false'. Refute it at one input. -/
def decThreeWrong : ChangeSpec := { name := "decThree", fn := fun _ => fun
  | [d1, d2, d3] => { results := [.lit (.bool false)], args := [d1, d2, d3] }
  | _ => none }
def DecThreeWrongFalsely : Prop := decThreeRow.holds Tryd.pinned (OpenSpec.ofChange decThreeWrong)

/-- 'figureheadlaw05.DecPlaces': WHATEVER THE INPUT: true; the input reads as it did. -/
def decPlacesSpec : ChangeSpec := { name := "decPlaces", fn := fun _ => fun
  | [d1, d2, d3, d4] => { results := [.lit (.bool true)], args := [d1, d2, d3, d4] }
  | _ => none }
def decPlacesRow : OpenClaim := { program := "ytbjaiphfehnncaadoor", sum := "8a04f81e8bc511e5a0a35e70c0ae561afbc2c0cc9571493285c2bd216da38d90", func := "figurehead/figureheadlaw05.DecPlaces", spec := "decPlaces", inPlace := ["internal/bytealg.IndexByteString", "internal/bytealg.IndexString"], named := ["unicode/utf8.first", "unicode/utf8.acceptRanges", "figurehead/ten.powers", "internal/bytealg.MaxLen"], apart := false, laid := [("unicode/utf8.acceptRanges", laid_unicode_utf8_acceptRanges), ("figurehead/ten.powers", laid_figurehead_ten_powers), ("unicode/utf8.first", laid_unicode_utf8_first)] }
def DecPlacesSaid : Prop := decPlacesRow.holds Tryd.pinned (OpenSpec.ofChange decPlacesSpec)

/-- ITS FALSE NEIGHBOUR: 'it returns false'. Refute it at one input. -/
def decPlacesWrong : ChangeSpec := { name := "decPlaces", fn := fun _ => fun
  | [d1, d2, d3, d4] => { results := [.lit (.bool false)], args := [d1, d2, d3, d4] }
  | _ => none }
def DecPlacesWrongFalsely : Prop := decPlacesRow.holds Tryd.pinned (OpenSpec.ofChange decPlacesWrong)

/-- 'figureheadlaw06.ArithAdds': WHATEVER THE INPUT: true; the input reads as it did. -/
def arithAddsSpec : ChangeSpec := { name := "arithAdds", fn := fun _ => fun
  | [d1, d2] => { results := [.lit (.bool true)], args := [d1, d2] }
  | _ => none }
def arithAddsRow : OpenClaim := { program := "ytbjaiphfehnncaadoor", sum := "8a04f81e8bc511e5a0a35e70c0ae561afbc2c0cc9571493285c2bd216da38d90", func := "figurehead/figureheadlaw06.ArithAdds", spec := "arithAdds", inPlace := ["internal/abi.NoEscape", "internal/bytealg.IndexByteString", "internal/bytealg.IndexString"], unfollowed := true, recurses := true, named := ["figurehead/ten.powers", "unicode/utf8.first", "unicode/utf8.acceptRanges", "internal/bytealg.MaxLen"], apart := false, laid := [("unicode/utf8.acceptRanges", laid_unicode_utf8_acceptRanges), ("figurehead/ten.powers", laid_figurehead_ten_powers), ("unicode/utf8.first", laid_unicode_utf8_first)] }
def ArithAddsSaid : Prop := arithAddsRow.holds Tryd.pinned (OpenSpec.ofChange arithAddsSpec)

/-- ITS FALSE NEIGHBOUR: 'it returns false'. Refute it at one input. -/
def arithAddsWrong : ChangeSpec := { name := "arithAdds", fn := fun _ => fun
  | [d1, d2] => { results := [.lit (.bool false)], args := [d1, d2] }
  | _ => none }
def ArithAddsWrongFalsely : Prop := arithAddsRow.holds Tryd.pinned (OpenSpec.ofChange arithAddsWrong)

/-- 'figureheadlaw06.ArithMuls': WHATEVER THE INPUT: true; the input reads as it did. -/
def arithMulsSpec : ChangeSpec := { name := "arithMuls", fn := fun _ => fun
  | [d1, d2] => { results := [.lit (.bool true)], args := [d1, d2] }
  | _ => none }
def arithMulsRow : OpenClaim := { program := "ytbjaiphfehnncaadoor", sum := "8a04f81e8bc511e5a0a35e70c0ae561afbc2c0cc9571493285c2bd216da38d90", func := "figurehead/figureheadlaw06.ArithMuls", spec := "arithMuls", inPlace := ["internal/abi.NoEscape", "internal/bytealg.IndexByteString", "internal/bytealg.IndexString"], unfollowed := true, recurses := true, named := ["figurehead/ten.powers", "unicode/utf8.first", "unicode/utf8.acceptRanges", "internal/bytealg.MaxLen"], apart := false, laid := [("unicode/utf8.acceptRanges", laid_unicode_utf8_acceptRanges), ("figurehead/ten.powers", laid_figurehead_ten_powers), ("unicode/utf8.first", laid_unicode_utf8_first)] }
def ArithMulsSaid : Prop := arithMulsRow.holds Tryd.pinned (OpenSpec.ofChange arithMulsSpec)

/-- ITS FALSE NEIGHBOUR: 'it returns false'. Refute it at one input. -/
def arithMulsWrong : ChangeSpec := { name := "arithMuls", fn := fun _ => fun
  | [d1, d2] => { results := [.lit (.bool false)], args := [d1, d2] }
  | _ => none }
def ArithMulsWrongFalsely : Prop := arithMulsRow.holds Tryd.pinned (OpenSpec.ofChange arithMulsWrong)

/-- 'figureheadlaw06.ArithLaws': WHATEVER THE INPUT: true; the input reads as it did. -/
def arithLawsSpec : ChangeSpec := { name := "arithLaws", fn := fun _ => fun
  | [d1, d2, d3] => { results := [.lit (.bool true)], args := [d1, d2, d3] }
  | _ => none }
def arithLawsRow : OpenClaim := { program := "ytbjaiphfehnncaadoor", sum := "8a04f81e8bc511e5a0a35e70c0ae561afbc2c0cc9571493285c2bd216da38d90", func := "figurehead/figureheadlaw06.ArithLaws", spec := "arithLaws", inPlace := ["internal/abi.NoEscape", "internal/bytealg.IndexByteString", "internal/bytealg.IndexString"], unfollowed := true, recurses := true, named := ["figurehead/ten.powers", "unicode/utf8.first", "unicode/utf8.acceptRanges", "internal/bytealg.MaxLen"], apart := false, laid := [("unicode/utf8.acceptRanges", laid_unicode_utf8_acceptRanges), ("figurehead/ten.powers", laid_figurehead_ten_powers), ("unicode/utf8.first", laid_unicode_utf8_first)] }
def ArithLawsSaid : Prop := arithLawsRow.holds Tryd.pinned (OpenSpec.ofChange arithLawsSpec)

/-- ITS FALSE NEIGHBOUR: 'it returns false'. Refute it at one input. -/
def arithLawsWrong : ChangeSpec := { name := "arithLaws", fn := fun _ => fun
  | [d1, d2, d3] => { results := [.lit (.bool false)], args := [d1, d2, d3] }
  | _ => none }
def ArithLawsWrongFalsely : Prop := arithLawsRow.holds Tryd.pinned (OpenSpec.ofChange arithLawsWrong)

/-- 'figureheadlaw06.ArithOrders': WHATEVER THE INPUT: true; the input reads as it did. -/
def arithOrdersSpec : ChangeSpec := { name := "arithOrders", fn := fun _ => fun
  | [d1, d2] => { results := [.lit (.bool true)], args := [d1, d2] }
  | _ => none }
def arithOrdersRow : OpenClaim := { program := "ytbjaiphfehnncaadoor", sum := "8a04f81e8bc511e5a0a35e70c0ae561afbc2c0cc9571493285c2bd216da38d90", func := "figurehead/figureheadlaw06.ArithOrders", spec := "arithOrders", inPlace := ["internal/abi.NoEscape", "internal/bytealg.IndexByteString", "internal/bytealg.IndexString"], unfollowed := true, recurses := true, named := ["figurehead/ten.powers", "unicode/utf8.first", "unicode/utf8.acceptRanges", "internal/bytealg.MaxLen"], apart := false, laid := [("unicode/utf8.acceptRanges", laid_unicode_utf8_acceptRanges), ("figurehead/ten.powers", laid_figurehead_ten_powers), ("unicode/utf8.first", laid_unicode_utf8_first)] }
def ArithOrdersSaid : Prop := arithOrdersRow.holds Tryd.pinned (OpenSpec.ofChange arithOrdersSpec)

/-- ITS FALSE NEIGHBOUR: 'it returns false'. Refute it at one input. -/
def arithOrdersWrong : ChangeSpec := { name := "arithOrders", fn := fun _ => fun
  | [d1, d2] => { results := [.lit (.bool false)], args := [d1, d2] }
  | _ => none }
def ArithOrdersWrongFalsely : Prop := arithOrdersRow.holds Tryd.pinned (OpenSpec.ofChange arithOrdersWrong)

/-- 'figureheadlaw06.ArithSigns': WHATEVER THE INPUT: true; the input reads as it did. -/
def arithSignsSpec : ChangeSpec := { name := "arithSigns", fn := fun _ => fun
  | [d1, d2] => { results := [.lit (.bool true)], args := [d1, d2] }
  | _ => none }
def arithSignsRow : OpenClaim := { program := "ytbjaiphfehnncaadoor", sum := "8a04f81e8bc511e5a0a35e70c0ae561afbc2c0cc9571493285c2bd216da38d90", func := "figurehead/figureheadlaw06.ArithSigns", spec := "arithSigns", inPlace := ["internal/abi.NoEscape", "internal/bytealg.IndexByteString", "internal/bytealg.IndexString"], unfollowed := true, recurses := true, named := ["figurehead/ten.powers", "unicode/utf8.first", "unicode/utf8.acceptRanges", "internal/bytealg.MaxLen"], apart := false, laid := [("unicode/utf8.acceptRanges", laid_unicode_utf8_acceptRanges), ("figurehead/ten.powers", laid_figurehead_ten_powers), ("unicode/utf8.first", laid_unicode_utf8_first)] }
def ArithSignsSaid : Prop := arithSignsRow.holds Tryd.pinned (OpenSpec.ofChange arithSignsSpec)

/-- ITS FALSE NEIGHBOUR: 'it returns false'. Refute it at one input. -/
def arithSignsWrong : ChangeSpec := { name := "arithSigns", fn := fun _ => fun
  | [d1, d2] => { results := [.lit (.bool false)], args := [d1, d2] }
  | _ => none }
def ArithSignsWrongFalsely : Prop := arithSignsRow.holds Tryd.pinned (OpenSpec.ofChange arithSignsWrong)

/- THE SECOND FORM. 'bulk': how many values and letters a reading holds, each counted each time it is reached (what is shared counts as often as it is met; a slice's spare places count too). A statement '..UptoSaid' is the law's where the arguments, and the package variables that the reading takes, are together of bulk at most 1048576: NARROWER than '..Said'. Prove '..Said' where nothing that the law and all that it calls make is longer than what came in: it says more and counts as full. Else prove '..UptoSaid'. A law counts once. -/
mutual
def uptoBulk {H : Type} : DataW H → Nat
  | .lit (.string bytes) => bytes.length + 1
  | .lit _ => 1
  | .nil => 1
  | .ptr d => uptoBulk d + 1
  | .slice elems spare => uptoBulkAll elems + uptoBulkAll spare + 1
  | .agg parts => uptoBulkAll parts + 1
  | .iface _ d => uptoBulk d + 1
  | .map entries => uptoBulkEntries entries + 1
  | .held _ => 1
def uptoBulkAll {H : Type} : List (DataW H) → Nat
  | [] => 0
  | d :: r => uptoBulk d + uptoBulkAll r
def uptoBulkEntries {H : Type} : List (Lit × DataW H) → Nat
  | [] => 0
  | x :: r => uptoBulkEntry x + uptoBulkEntries r
def uptoBulkEntry {H : Type} : Lit × DataW H → Nat
  | (.string bytes, d) => bytes.length + uptoBulk d + 1
  | (_, d) => uptoBulk d + 1
 end
def uptoSmall : (H : Type) → List (DataW H) → Bool := fun _ ds => decide (uptoBulkAll ds ≤ 1048576)
def OpenSpec.upto (s : _root_.Go.ChangeSpec) : _root_.Go.OpenSpec := { _root_.Go.OpenSpec.ofChange s with cond := some uptoSmall }

/-- 'figureheadlaw05.DecGood', WHERE WHAT IT READS IS OF BULK AT MOST 1048576: true; the input reads as it did. -/
def decGoodUptoRow : OpenClaim := { program := "ytbjaiphfehnncaadoor", sum := "8a04f81e8bc511e5a0a35e70c0ae561afbc2c0cc9571493285c2bd216da38d90", func := "figurehead/figureheadlaw05.DecGood", spec := "decGood", inPlace := ["internal/bytealg.IndexByteString", "internal/bytealg.IndexString"], named := ["unicode/utf8.first", "unicode/utf8.acceptRanges", "figurehead/ten.powers", "internal/bytealg.MaxLen"], apart := false, laid := [("unicode/utf8.acceptRanges", laid_unicode_utf8_acceptRanges), ("figurehead/ten.powers", laid_figurehead_ten_powers), ("unicode/utf8.first", laid_unicode_utf8_first)], narrowed := true }
def DecGoodUptoSaid : Prop := decGoodUptoRow.holds Tryd.pinned (OpenSpec.upto decGoodSpec)

/-- 'figureheadlaw05.DecDigits', WHERE WHAT IT READS IS OF BULK AT MOST 1048576: true; the input reads as it did. -/
def decDigitsUptoRow : OpenClaim := { program := "ytbjaiphfehnncaadoor", sum := "8a04f81e8bc511e5a0a35e70c0ae561afbc2c0cc9571493285c2bd216da38d90", func := "figurehead/figureheadlaw05.DecDigits", spec := "decDigits", inPlace := ["internal/bytealg.IndexByteString", "internal/bytealg.IndexString"], named := ["unicode/utf8.first", "unicode/utf8.acceptRanges", "figurehead/ten.powers", "internal/bytealg.MaxLen"], apart := false, laid := [("unicode/utf8.acceptRanges", laid_unicode_utf8_acceptRanges), ("figurehead/ten.powers", laid_figurehead_ten_powers), ("unicode/utf8.first", laid_unicode_utf8_first)], narrowed := true }
def DecDigitsUptoSaid : Prop := decDigitsUptoRow.holds Tryd.pinned (OpenSpec.upto decDigitsSpec)

/-- 'figureheadlaw05.DecOrders', WHERE WHAT IT READS IS OF BULK AT MOST 1048576: true; the input reads as it did. -/
def decOrdersUptoRow : OpenClaim := { program := "ytbjaiphfehnncaadoor", sum := "8a04f81e8bc511e5a0a35e70c0ae561afbc2c0cc9571493285c2bd216da38d90", func := "figurehead/figureheadlaw05.DecOrders", spec := "decOrders", inPlace := ["internal/bytealg.IndexByteString", "internal/bytealg.IndexString"], named := ["unicode/utf8.first", "unicode/utf8.acceptRanges", "figurehead/ten.powers", "internal/bytealg.MaxLen"], apart := false, laid := [("unicode/utf8.acceptRanges", laid_unicode_utf8_acceptRanges), ("figurehead/ten.powers", laid_figurehead_ten_powers), ("unicode/utf8.first", laid_unicode_utf8_first)], narrowed := true }
def DecOrdersUptoSaid : Prop := decOrdersUptoRow.holds Tryd.pinned (OpenSpec.upto decOrdersSpec)

/-- 'figureheadlaw05.DecRanges', WHERE WHAT IT READS IS OF BULK AT MOST 1048576: true; the input reads as it did. -/
def decRangesUptoRow : OpenClaim := { program := "ytbjaiphfehnncaadoor", sum := "8a04f81e8bc511e5a0a35e70c0ae561afbc2c0cc9571493285c2bd216da38d90", func := "figurehead/figureheadlaw05.DecRanges", spec := "decRanges", inPlace := ["internal/bytealg.IndexByteString", "internal/bytealg.IndexString"], named := ["unicode/utf8.first", "unicode/utf8.acceptRanges", "figurehead/ten.powers", "internal/bytealg.MaxLen"], apart := false, laid := [("unicode/utf8.acceptRanges", laid_unicode_utf8_acceptRanges), ("figurehead/ten.powers", laid_figurehead_ten_powers), ("unicode/utf8.first", laid_unicode_utf8_first)], narrowed := true }
def DecRangesUptoSaid : Prop := decRangesUptoRow.holds Tryd.pinned (OpenSpec.upto decRangesSpec)

/-- 'figureheadlaw05.DecAlike', WHERE WHAT IT READS IS OF BULK AT MOST 1048576: true; the input reads as it did. -/
def decAlikeUptoRow : OpenClaim := { program := "ytbjaiphfehnncaadoor", sum := "8a04f81e8bc511e5a0a35e70c0ae561afbc2c0cc9571493285c2bd216da38d90", func := "figurehead/figureheadlaw05.DecAlike", spec := "decAlike", inPlace := ["internal/bytealg.IndexByteString", "internal/bytealg.IndexString"], named := ["unicode/utf8.first", "unicode/utf8.acceptRanges", "figurehead/ten.powers", "internal/bytealg.MaxLen"], apart := false, laid := [("unicode/utf8.acceptRanges", laid_unicode_utf8_acceptRanges), ("figurehead/ten.powers", laid_figurehead_ten_powers), ("unicode/utf8.first", laid_unicode_utf8_first)], narrowed := true }
def DecAlikeUptoSaid : Prop := decAlikeUptoRow.holds Tryd.pinned (OpenSpec.upto decAlikeSpec)

/-- 'figureheadlaw05.DecThree', WHERE WHAT IT READS IS OF BULK AT MOST 1048576: true; the input reads as it did. -/
def decThreeUptoRow : OpenClaim := { program := "ytbjaiphfehnncaadoor", sum := "8a04f81e8bc511e5a0a35e70c0ae561afbc2c0cc9571493285c2bd216da38d90", func := "figurehead/figureheadlaw05.DecThree", spec := "decThree", inPlace := ["internal/bytealg.IndexByteString", "internal/bytealg.IndexString"], named := ["figurehead/ten.powers", "unicode/utf8.first", "unicode/utf8.acceptRanges", "internal/bytealg.MaxLen"], apart := false, laid := [("unicode/utf8.acceptRanges", laid_unicode_utf8_acceptRanges), ("figurehead/ten.powers", laid_figurehead_ten_powers), ("unicode/utf8.first", laid_unicode_utf8_first)], narrowed := true }
def DecThreeUptoSaid : Prop := decThreeUptoRow.holds Tryd.pinned (OpenSpec.upto decThreeSpec)

/-- 'figureheadlaw05.DecPlaces', WHERE WHAT IT READS IS OF BULK AT MOST 1048576: true; the input reads as it did. -/
def decPlacesUptoRow : OpenClaim := { program := "ytbjaiphfehnncaadoor", sum := "8a04f81e8bc511e5a0a35e70c0ae561afbc2c0cc9571493285c2bd216da38d90", func := "figurehead/figureheadlaw05.DecPlaces", spec := "decPlaces", inPlace := ["internal/bytealg.IndexByteString", "internal/bytealg.IndexString"], named := ["unicode/utf8.first", "unicode/utf8.acceptRanges", "figurehead/ten.powers", "internal/bytealg.MaxLen"], apart := false, laid := [("unicode/utf8.acceptRanges", laid_unicode_utf8_acceptRanges), ("figurehead/ten.powers", laid_figurehead_ten_powers), ("unicode/utf8.first", laid_unicode_utf8_first)], narrowed := true }
def DecPlacesUptoSaid : Prop := decPlacesUptoRow.holds Tryd.pinned (OpenSpec.upto decPlacesSpec)

/-- 'figureheadlaw06.ArithAdds', WHERE WHAT IT READS IS OF BULK AT MOST 1048576: true; the input reads as it did. -/
def arithAddsUptoRow : OpenClaim := { program := "ytbjaiphfehnncaadoor", sum := "8a04f81e8bc511e5a0a35e70c0ae561afbc2c0cc9571493285c2bd216da38d90", func := "figurehead/figureheadlaw06.ArithAdds", spec := "arithAdds", inPlace := ["internal/abi.NoEscape", "internal/bytealg.IndexByteString", "internal/bytealg.IndexString"], unfollowed := true, recurses := true, named := ["figurehead/ten.powers", "unicode/utf8.first", "unicode/utf8.acceptRanges", "internal/bytealg.MaxLen"], apart := false, laid := [("unicode/utf8.acceptRanges", laid_unicode_utf8_acceptRanges), ("figurehead/ten.powers", laid_figurehead_ten_powers), ("unicode/utf8.first", laid_unicode_utf8_first)], narrowed := true }
def ArithAddsUptoSaid : Prop := arithAddsUptoRow.holds Tryd.pinned (OpenSpec.upto arithAddsSpec)

/-- 'figureheadlaw06.ArithMuls', WHERE WHAT IT READS IS OF BULK AT MOST 1048576: true; the input reads as it did. -/
def arithMulsUptoRow : OpenClaim := { program := "ytbjaiphfehnncaadoor", sum := "8a04f81e8bc511e5a0a35e70c0ae561afbc2c0cc9571493285c2bd216da38d90", func := "figurehead/figureheadlaw06.ArithMuls", spec := "arithMuls", inPlace := ["internal/abi.NoEscape", "internal/bytealg.IndexByteString", "internal/bytealg.IndexString"], unfollowed := true, recurses := true, named := ["figurehead/ten.powers", "unicode/utf8.first", "unicode/utf8.acceptRanges", "internal/bytealg.MaxLen"], apart := false, laid := [("unicode/utf8.acceptRanges", laid_unicode_utf8_acceptRanges), ("figurehead/ten.powers", laid_figurehead_ten_powers), ("unicode/utf8.first", laid_unicode_utf8_first)], narrowed := true }
def ArithMulsUptoSaid : Prop := arithMulsUptoRow.holds Tryd.pinned (OpenSpec.upto arithMulsSpec)

/-- 'figureheadlaw06.ArithLaws', WHERE WHAT IT READS IS OF BULK AT MOST 1048576: true; the input reads as it did. -/
def arithLawsUptoRow : OpenClaim := { program := "ytbjaiphfehnncaadoor", sum := "8a04f81e8bc511e5a0a35e70c0ae561afbc2c0cc9571493285c2bd216da38d90", func := "figurehead/figureheadlaw06.ArithLaws", spec := "arithLaws", inPlace := ["internal/abi.NoEscape", "internal/bytealg.IndexByteString", "internal/bytealg.IndexString"], unfollowed := true, recurses := true, named := ["figurehead/ten.powers", "unicode/utf8.first", "unicode/utf8.acceptRanges", "internal/bytealg.MaxLen"], apart := false, laid := [("unicode/utf8.acceptRanges", laid_unicode_utf8_acceptRanges), ("figurehead/ten.powers", laid_figurehead_ten_powers), ("unicode/utf8.first", laid_unicode_utf8_first)], narrowed := true }
def ArithLawsUptoSaid : Prop := arithLawsUptoRow.holds Tryd.pinned (OpenSpec.upto arithLawsSpec)

/-- 'figureheadlaw06.ArithOrders', WHERE WHAT IT READS IS OF BULK AT MOST 1048576: true; the input reads as it did. -/
def arithOrdersUptoRow : OpenClaim := { program := "ytbjaiphfehnncaadoor", sum := "8a04f81e8bc511e5a0a35e70c0ae561afbc2c0cc9571493285c2bd216da38d90", func := "figurehead/figureheadlaw06.ArithOrders", spec := "arithOrders", inPlace := ["internal/abi.NoEscape", "internal/bytealg.IndexByteString", "internal/bytealg.IndexString"], unfollowed := true, recurses := true, named := ["figurehead/ten.powers", "unicode/utf8.first", "unicode/utf8.acceptRanges", "internal/bytealg.MaxLen"], apart := false, laid := [("unicode/utf8.acceptRanges", laid_unicode_utf8_acceptRanges), ("figurehead/ten.powers", laid_figurehead_ten_powers), ("unicode/utf8.first", laid_unicode_utf8_first)], narrowed := true }
def ArithOrdersUptoSaid : Prop := arithOrdersUptoRow.holds Tryd.pinned (OpenSpec.upto arithOrdersSpec)

/-- 'figureheadlaw06.ArithSigns', WHERE WHAT IT READS IS OF BULK AT MOST 1048576: true; the input reads as it did. -/
def arithSignsUptoRow : OpenClaim := { program := "ytbjaiphfehnncaadoor", sum := "8a04f81e8bc511e5a0a35e70c0ae561afbc2c0cc9571493285c2bd216da38d90", func := "figurehead/figureheadlaw06.ArithSigns", spec := "arithSigns", inPlace := ["internal/abi.NoEscape", "internal/bytealg.IndexByteString", "internal/bytealg.IndexString"], unfollowed := true, recurses := true, named := ["figurehead/ten.powers", "unicode/utf8.first", "unicode/utf8.acceptRanges", "internal/bytealg.MaxLen"], apart := false, laid := [("unicode/utf8.acceptRanges", laid_unicode_utf8_acceptRanges), ("figurehead/ten.powers", laid_figurehead_ten_powers), ("unicode/utf8.first", laid_unicode_utf8_first)], narrowed := true }
def ArithSignsUptoSaid : Prop := arithSignsUptoRow.holds Tryd.pinned (OpenSpec.upto arithSignsSpec)

end Rows
end Go.Proofs.YtbjaiphfehnncaaDoor
