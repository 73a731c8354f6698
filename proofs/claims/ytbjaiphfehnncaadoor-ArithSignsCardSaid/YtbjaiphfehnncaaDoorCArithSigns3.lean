/- The functions that the law ArithSigns reaches, told as plain functions, with what is proved of them, and the words they need (part 3). -/
import Derived.Test.YtbjaiphfehnncaaDoorCArithSigns0
import Derived.Test.YtbjaiphfehnncaaDoorCArithSigns2
import Derived.Test.YtbjaiphfehnncaaDoorCArithSigns1
import Derived.SizedLaws
import Derived.ChangeSlices
import Derived.LaidMore
import Derived.LaidHandle
import Derived.LaidSub
import Derived.OpenShut
import Derived.ChangeSame
import Derived.Lay
import Derived.Lib.LaidTab
import Derived.Test.YtbjaiphfehnncaaDoorRows
import Derived.Stop.LaidErr
import Derived.Lib.SmallJoins
import Derived.ChangeMaps5
set_option linter.unusedVariables false
set_option linter.unusedSimpArgs false
section
namespace Go.Proofs.YtbjaiphfehnncaaDoor.Px
open Fig Go.RowKit Go.Proofs.YtbjaiphfehnncaaDoorW.PrintWords Go.Proofs.YtbjaiphfehnncaaDoorW.PrintLast Go.Proofs.YtbjaiphfehnncaaDoorW.PrintMore
attribute [local go_sem] max2_int min2_int max_two min_two max_three min_three max_four min_four   -- for this text's walks alone
attribute [local go_sem high] eqA23
attribute [local go_sem] fieldA23_0 fieldA23_1 fieldA23_2
def figureheadlaw06_ArithSigns.f (k : Nat) (a0_0 : Bool) (a0_1 : ByteArray) (a0_2 : Int) (a1_0 : Bool) (a1_1 : ByteArray) (a1_2 : Int) : Option (Bool) := (figureheadlaw06_good.f k (([(⟨a0_0, a0_1, a0_2⟩ : S23), (⟨a1_0, a1_1, a1_2⟩ : S23)] : List (S23)))).bind fun t581 => (if t581 = true then ((arith_Sub.f a0_0 a0_1 a0_2 a1_0 a1_1 a1_2).bind fun bt583 => ((arith_Sub.f a1_0 a1_1 a1_2 a0_0 a0_1 a0_2).bind fun bt586 => ((arith_Mul.f k a0_0 a0_1 a0_2 a1_0 a1_1 a1_2).bind fun bt591 => ((figureheadlaw06_answers.f k).bind fun t595 => (if t595 = true then ((arith_Neg.f a0_0 a0_1 a0_2).bind fun bt596 => ((arith_Neg.f bt596.1 bt596.2.1 bt596.2.2).bind fun bt599 => ((figureheadref05_Norm.f k a0_0 a0_1 a0_2).bind fun bt602 => (if (bt599.1 == bt602.1 && (bt599.2.1.toList == bt602.2.1.toList && (bt599.2.2 == bt602.2.2))) = true then (if bt583.2.1.toList = ([48] : List UInt8) then (if (bt583.1 == bt586.1 && (bt583.2.1.toList == bt586.2.1.toList && (bt583.2.2 == bt586.2.2))) = true then ((arith_Abs.f bt583.1 bt583.2.1 bt583.2.2).bind fun bt605 => ((arith_Abs.f bt586.1 bt586.2.1 bt586.2.2).bind fun bt608 => (if (bt605.1 == bt608.1 && (bt605.2.1.toList == bt608.2.1.toList && (bt605.2.2 == bt608.2.2))) = true then (if bt591.2.1.toList = ([48] : List UInt8) then ((arith_Abs.f a0_0 a0_1 a0_2).bind fun bt611 => ((arith_Abs.f a1_0 a1_1 a1_2).bind fun bt614 => ((arith_Mul.f k bt611.1 bt611.2.1 bt611.2.2 bt614.1 bt614.2.1 bt614.2.2).bind fun bt617 => ((arith_Abs.f bt591.1 bt591.2.1 bt591.2.2).bind fun bt620 => (some (bt617.1 == bt620.1 && (bt617.2.1.toList == bt620.2.1.toList && (bt617.2.2 == bt620.2.2)))))))) else (if (bt591.1 == (a0_0 != a1_0)) = true then ((arith_Abs.f a0_0 a0_1 a0_2).bind fun bt623 => ((arith_Abs.f a1_0 a1_1 a1_2).bind fun bt626 => ((arith_Mul.f k bt623.1 bt623.2.1 bt623.2.2 bt626.1 bt626.2.1 bt626.2.2).bind fun bt629 => ((arith_Abs.f bt591.1 bt591.2.1 bt591.2.2).bind fun bt632 => (some (bt629.1 == bt632.1 && (bt629.2.1.toList == bt632.2.1.toList && (bt629.2.2 == bt632.2.2)))))))) else (some false))) else (some false)))) else ((arith_Neg.f bt586.1 bt586.2.1 bt586.2.2).bind fun bt635 => (if (bt583.1 == bt635.1 && (bt583.2.1.toList == bt635.2.1.toList && (bt583.2.2 == bt635.2.2))) = true then ((arith_Abs.f bt583.1 bt583.2.1 bt583.2.2).bind fun bt638 => ((arith_Abs.f bt586.1 bt586.2.1 bt586.2.2).bind fun bt641 => (if (bt638.1 == bt641.1 && (bt638.2.1.toList == bt641.2.1.toList && (bt638.2.2 == bt641.2.2))) = true then (if bt591.2.1.toList = ([48] : List UInt8) then ((arith_Abs.f a0_0 a0_1 a0_2).bind fun bt644 => ((arith_Abs.f a1_0 a1_1 a1_2).bind fun bt647 => ((arith_Mul.f k bt644.1 bt644.2.1 bt644.2.2 bt647.1 bt647.2.1 bt647.2.2).bind fun bt650 => ((arith_Abs.f bt591.1 bt591.2.1 bt591.2.2).bind fun bt653 => (some (bt650.1 == bt653.1 && (bt650.2.1.toList == bt653.2.1.toList && (bt650.2.2 == bt653.2.2)))))))) else (if (bt591.1 == (a0_0 != a1_0)) = true then ((arith_Abs.f a0_0 a0_1 a0_2).bind fun bt656 => ((arith_Abs.f a1_0 a1_1 a1_2).bind fun bt659 => ((arith_Mul.f k bt656.1 bt656.2.1 bt656.2.2 bt659.1 bt659.2.1 bt659.2.2).bind fun bt662 => ((arith_Abs.f bt591.1 bt591.2.1 bt591.2.2).bind fun bt665 => (some (bt662.1 == bt665.1 && (bt662.2.1.toList == bt665.2.1.toList && (bt662.2.2 == bt665.2.2)))))))) else (some false))) else (some false)))) else (some false)))) else ((arith_Neg.f bt586.1 bt586.2.1 bt586.2.2).bind fun bt668 => (if (bt583.1 == bt668.1 && (bt583.2.1.toList == bt668.2.1.toList && (bt583.2.2 == bt668.2.2))) = true then ((arith_Abs.f bt583.1 bt583.2.1 bt583.2.2).bind fun bt671 => ((arith_Abs.f bt586.1 bt586.2.1 bt586.2.2).bind fun bt674 => (if (bt671.1 == bt674.1 && (bt671.2.1.toList == bt674.2.1.toList && (bt671.2.2 == bt674.2.2))) = true then (if bt591.2.1.toList = ([48] : List UInt8) then ((arith_Abs.f a0_0 a0_1 a0_2).bind fun bt677 => ((arith_Abs.f a1_0 a1_1 a1_2).bind fun bt680 => ((arith_Mul.f k bt677.1 bt677.2.1 bt677.2.2 bt680.1 bt680.2.1 bt680.2.2).bind fun bt683 => ((arith_Abs.f bt591.1 bt591.2.1 bt591.2.2).bind fun bt686 => (some (bt683.1 == bt686.1 && (bt683.2.1.toList == bt686.2.1.toList && (bt683.2.2 == bt686.2.2)))))))) else (if (bt591.1 == (a0_0 != a1_0)) = true then ((arith_Abs.f a0_0 a0_1 a0_2).bind fun bt689 => ((arith_Abs.f a1_0 a1_1 a1_2).bind fun bt692 => ((arith_Mul.f k bt689.1 bt689.2.1 bt689.2.2 bt692.1 bt692.2.1 bt692.2.2).bind fun bt695 => ((arith_Abs.f bt591.1 bt591.2.1 bt591.2.2).bind fun bt698 => (some (bt695.1 == bt698.1 && (bt695.2.1.toList == bt698.2.1.toList && (bt695.2.2 == bt698.2.2)))))))) else (some false))) else (some false)))) else (some false)))) else (some false))))) else (some false)))))) else ((figureheadlaw06_answers.f k).bind fun t582 => (some t582)))
theorem figureheadlaw06_ArithSigns.mono : ∀ a0 a1 a2 a3 a4 a5 k, LeO (figureheadlaw06_ArithSigns.f k a0 a1 a2 a3 a4 a5) (figureheadlaw06_ArithSigns.f (k + 1) a0 a1 a2 a3 a4 a5) := by
  intro a0 a1 a2 a3 a4 a5 k
  unfold figureheadlaw06_ArithSigns.f
  repeat' first
      | (with_reducible exact arith_Mul.mono _ _ _ _ _ _ _)
      | (with_reducible exact figureheadlaw06_answers.mono _)
      | (with_reducible exact figureheadlaw06_good.mono _ _)
      | (with_reducible exact figureheadref05_Norm.mono _ _ _ _)
      | (with_reducible exact LeO.refl _)
      | (with_reducible exact LeO.none _)
      | (with_reducible refine LeO.ite ?_ ?_)
      | (with_reducible refine LeO.bind ?_ (fun _ => ?_))
      | exact arith_Mul.mono _ _ _ _ _ _ _
      | exact figureheadlaw06_answers.mono _
      | exact figureheadlaw06_good.mono _ _
      | exact figureheadref05_Norm.mono _ _ _ _
      | exact LeO.none _
      | refine LeO.ite ?_ ?_
      | refine LeO.bind ?_ (fun _ => ?_)
def figureheadlaw06_ArithSigns.T3 : Bool × List (List Nat × List Nat) := (true, [([], []), ([], []), ([0, 1], [0, 1]), ([], []), ([], []), ([3, 4, 2], [3, 4]), ([], []), ([], []), ([6, 2, 5, 0, 1, 2, 6, 7], [2, 6]), ([7, 5, 8, 0, 1, 2, 3, 4, 5, 6, 7, 8], [5, 7])])
def figureheadlaw06_ArithSigns.B3 : List Nat := [0, 0, 3, 0, 0, 31, 0, 0, 255, 511]
theorem figureheadlaw06_ArithSigns.tab3 : rtab .any (opsOf Tryd.f14 3) = figureheadlaw06_ArithSigns.T3 := by kernel_rfl
theorem figureheadlaw06_ArithSigns.bits3 : waitsOk figureheadlaw06_ArithSigns.T3.2 figureheadlaw06_ArithSigns.B3 = true := by kernel_rfl
def figureheadlaw06_ArithSigns.T5 : Bool × List (List Nat × List Nat) := (true, [([], []), ([0, 0], [0]), ([1], [1]), ([2, 1, 1], [1, 2]), ([3, 3, 1], [1, 3]), ([1], [1]), ([5, 4, 1], [1, 5]), ([4, 6, 1], [1, 4, 6]), ([1, 7], [1, 7]), ([8, 6], [8]), ([9], [9]), ([10, 9], [9, 10]), ([11, 9], [9, 11]), ([12, 9, 9], [9, 12]), ([13], [13]), ([13], [13]), ([14, 15, 13], [13, 14, 15]), ([13, 16, 9], [9, 13, 16]), ([17, 13, 9], [9, 17]), ([18], [18]), ([18], [18]), ([20, 18, 18], [18, 20]), ([19, 21, 18], [18, 19, 21]), ([18, 22, 9], [9, 18, 22]), ([9, 23], [9, 23]), ([24, 21], [24]), ([25], [25]), ([26, 25, 25], [25, 26]), ([25], [25]), ([28, 27, 25], [25, 28]), ([27, 29, 25], [25, 27, 29]), ([25, 30], [25, 30]), ([31, 29], [31]), ([32], [32]), ([33, 32], [32, 33]), ([34, 32], [32, 34]), ([35, 32, 32], [32, 35]), ([36], [36]), ([37, 36], [36, 37]), ([36], [36]), ([39, 36], [36, 39]), ([36], [36]), ([41, 36], [36, 41]), ([40, 42, 36], [36, 40, 42]), ([38, 43, 36], [36, 38, 43]), ([36, 44, 32], [32, 36, 44]), ([32, 45], [32, 45]), ([46, 36], [46]), ([47], [47]), ([48, 47, 47], [47, 48]), ([47], [47]), ([50, 49, 47], [47, 50]), ([49, 51, 51, 47], [47, 49, 51]), ([47], [47]), ([53, 52, 47], [47, 53]), ([52, 54, 47], [47, 52, 54]), ([47, 55], [47, 55]), ([56, 54, 0, 1, 2, 3, 4, 5, 6, 7, 8, 9, 10, 11, 12, 13, 14, 15, 16, 17, 18, 19, 20, 21, 22, 23, 24, 25, 26, 27, 28, 29, 30, 31, 32, 33, 34, 35, 36, 37, 38, 39, 40, 41, 42, 43, 44, 45, 46, 47, 48, 49, 50, 51, 52, 53, 54, 55, 56], [56])])
def figureheadlaw06_ArithSigns.B5 : List Nat := [0, 1, 3, 7, 15, 3, 63, 127, 255, 511, 1023, 2047, 4095, 8191, 16383, 16383, 65535, 131071, 262143, 524287, 524287, 1572863, 4194303, 8388607, 16777215, 33554431, 67108863, 134217727, 67108863, 536870911, 1073741823, 2147483647, 4294967295, 8589934591, 17179869183, 34359738367, 68719476735, 137438953471, 274877906943, 137438953471, 687194767359, 137438953471, 2336462209023, 8383776161791, 17592186044415, 35184372088831, 70368744177663, 140737488355327, 281474976710655, 562949953421311, 281474976710655, 2251799813685247, 4503599627370495, 281474976710655, 18014398509481983, 36028797018963967, 72057594037927935, 144115188075855871]
theorem figureheadlaw06_ArithSigns.tab5 : rtab .any (opsOf Tryd.f14 5) = figureheadlaw06_ArithSigns.T5 := by kernel_rfl
theorem figureheadlaw06_ArithSigns.bits5 : waitsOk figureheadlaw06_ArithSigns.T5.2 figureheadlaw06_ArithSigns.B5 = true := by kernel_rfl
set_option maxHeartbeats 8000000 in
set_option maxRecDepth 100000 in
theorem figureheadlaw06_ArithSigns.calls (k : Nat) (a0_0 : Bool) (a0_1 : ByteArray) (a0_2 : Int) (a1_0 : Bool) (a1_1 : ByteArray) (a1_2 : Int) (r : Bool) (w : World) (hG : Fig.Glob w) (HT : Aside0 (r = true)) (h : figureheadlaw06_ArithSigns.f k a0_0 a0_1 a0_2 a1_0 a1_1 a1_2 = some r) :
    Calls Tryd.prog 14 #[.agg #[.bool a0_0, .string a0_1, .int .i64 a0_2], .agg #[.bool a1_0, .string a1_1, .int .i64 a1_2]] w fun e w' => e = .returned (.bool r) ∧ Below w.heap.size w w' := by
  have hu23 := Tryd.underlying23
  have HG := Aside0.mk hG
  clear hG
  have HB := Aside0.mk (Below.refl w.heap.size w)
  have H : ((figureheadlaw06_good.f k (([(⟨a0_0, a0_1, a0_2⟩ : S23), (⟨a1_0, a1_1, a1_2⟩ : S23)] : List (S23)))).bind fun t581 => (if t581 = true then ((arith_Sub.f a0_0 a0_1 a0_2 a1_0 a1_1 a1_2).bind fun bt583 => ((arith_Sub.f a1_0 a1_1 a1_2 a0_0 a0_1 a0_2).bind fun bt586 => ((arith_Mul.f k a0_0 a0_1 a0_2 a1_0 a1_1 a1_2).bind fun bt591 => ((figureheadlaw06_answers.f k).bind fun t595 => (if t595 = true then ((arith_Neg.f a0_0 a0_1 a0_2).bind fun bt596 => ((arith_Neg.f bt596.1 bt596.2.1 bt596.2.2).bind fun bt599 => ((figureheadref05_Norm.f k a0_0 a0_1 a0_2).bind fun bt602 => (if (bt599.1 == bt602.1 && (bt599.2.1.toList == bt602.2.1.toList && (bt599.2.2 == bt602.2.2))) = true then (if bt583.2.1.toList = ([48] : List UInt8) then (if (bt583.1 == bt586.1 && (bt583.2.1.toList == bt586.2.1.toList && (bt583.2.2 == bt586.2.2))) = true then ((arith_Abs.f bt583.1 bt583.2.1 bt583.2.2).bind fun bt605 => ((arith_Abs.f bt586.1 bt586.2.1 bt586.2.2).bind fun bt608 => (if (bt605.1 == bt608.1 && (bt605.2.1.toList == bt608.2.1.toList && (bt605.2.2 == bt608.2.2))) = true then (if bt591.2.1.toList = ([48] : List UInt8) then ((arith_Abs.f a0_0 a0_1 a0_2).bind fun bt611 => ((arith_Abs.f a1_0 a1_1 a1_2).bind fun bt614 => ((arith_Mul.f k bt611.1 bt611.2.1 bt611.2.2 bt614.1 bt614.2.1 bt614.2.2).bind fun bt617 => ((arith_Abs.f bt591.1 bt591.2.1 bt591.2.2).bind fun bt620 => (some (bt617.1 == bt620.1 && (bt617.2.1.toList == bt620.2.1.toList && (bt617.2.2 == bt620.2.2)))))))) else (if (bt591.1 == (a0_0 != a1_0)) = true then ((arith_Abs.f a0_0 a0_1 a0_2).bind fun bt623 => ((arith_Abs.f a1_0 a1_1 a1_2).bind fun bt626 => ((arith_Mul.f k bt623.1 bt623.2.1 bt623.2.2 bt626.1 bt626.2.1 bt626.2.2).bind fun bt629 => ((arith_Abs.f bt591.1 bt591.2.1 bt591.2.2).bind fun bt632 => (some (bt629.1 == bt632.1 && (bt629.2.1.toList == bt632.2.1.toList && (bt629.2.2 == bt632.2.2)))))))) else (some false))) else (some false)))) else ((arith_Neg.f bt586.1 bt586.2.1 bt586.2.2).bind fun bt635 => (if (bt583.1 == bt635.1 && (bt583.2.1.toList == bt635.2.1.toList && (bt583.2.2 == bt635.2.2))) = true then ((arith_Abs.f bt583.1 bt583.2.1 bt583.2.2).bind fun bt638 => ((arith_Abs.f bt586.1 bt586.2.1 bt586.2.2).bind fun bt641 => (if (bt638.1 == bt641.1 && (bt638.2.1.toList == bt641.2.1.toList && (bt638.2.2 == bt641.2.2))) = true then (if bt591.2.1.toList = ([48] : List UInt8) then ((arith_Abs.f a0_0 a0_1 a0_2).bind fun bt644 => ((arith_Abs.f a1_0 a1_1 a1_2).bind fun bt647 => ((arith_Mul.f k bt644.1 bt644.2.1 bt644.2.2 bt647.1 bt647.2.1 bt647.2.2).bind fun bt650 => ((arith_Abs.f bt591.1 bt591.2.1 bt591.2.2).bind fun bt653 => (some (bt650.1 == bt653.1 && (bt650.2.1.toList == bt653.2.1.toList && (bt650.2.2 == bt653.2.2)))))))) else (if (bt591.1 == (a0_0 != a1_0)) = true then ((arith_Abs.f a0_0 a0_1 a0_2).bind fun bt656 => ((arith_Abs.f a1_0 a1_1 a1_2).bind fun bt659 => ((arith_Mul.f k bt656.1 bt656.2.1 bt656.2.2 bt659.1 bt659.2.1 bt659.2.2).bind fun bt662 => ((arith_Abs.f bt591.1 bt591.2.1 bt591.2.2).bind fun bt665 => (some (bt662.1 == bt665.1 && (bt662.2.1.toList == bt665.2.1.toList && (bt662.2.2 == bt665.2.2)))))))) else (some false))) else (some false)))) else (some false)))) else ((arith_Neg.f bt586.1 bt586.2.1 bt586.2.2).bind fun bt668 => (if (bt583.1 == bt668.1 && (bt583.2.1.toList == bt668.2.1.toList && (bt583.2.2 == bt668.2.2))) = true then ((arith_Abs.f bt583.1 bt583.2.1 bt583.2.2).bind fun bt671 => ((arith_Abs.f bt586.1 bt586.2.1 bt586.2.2).bind fun bt674 => (if (bt671.1 == bt674.1 && (bt671.2.1.toList == bt674.2.1.toList && (bt671.2.2 == bt674.2.2))) = true then (if bt591.2.1.toList = ([48] : List UInt8) then ((arith_Abs.f a0_0 a0_1 a0_2).bind fun bt677 => ((arith_Abs.f a1_0 a1_1 a1_2).bind fun bt680 => ((arith_Mul.f k bt677.1 bt677.2.1 bt677.2.2 bt680.1 bt680.2.1 bt680.2.2).bind fun bt683 => ((arith_Abs.f bt591.1 bt591.2.1 bt591.2.2).bind fun bt686 => (some (bt683.1 == bt686.1 && (bt683.2.1.toList == bt686.2.1.toList && (bt683.2.2 == bt686.2.2)))))))) else (if (bt591.1 == (a0_0 != a1_0)) = true then ((arith_Abs.f a0_0 a0_1 a0_2).bind fun bt689 => ((arith_Abs.f a1_0 a1_1 a1_2).bind fun bt692 => ((arith_Mul.f k bt689.1 bt689.2.1 bt689.2.2 bt692.1 bt692.2.1 bt692.2.2).bind fun bt695 => ((arith_Abs.f bt591.1 bt591.2.1 bt591.2.2).bind fun bt698 => (some (bt695.1 == bt698.1 && (bt695.2.1.toList == bt698.2.1.toList && (bt695.2.2 == bt698.2.2)))))))) else (some false))) else (some false)))) else (some false)))) else (some false))))) else (some false)))))) else ((figureheadlaw06_answers.f k).bind fun t582 => (some t582)))) = some r := h
  clear h
  obtain ⟨y578, hy578⟩ : ∃ y_ : List (S23), y_ = (([(⟨a0_0, a0_1, a0_2⟩ : S23), (⟨a1_0, a1_1, a1_2⟩ : S23)] : List (S23))) := ⟨_, rfl⟩
  replace H : ((figureheadlaw06_good.f k y578).bind fun t581 => (if t581 = true then ((arith_Sub.f a0_0 a0_1 a0_2 a1_0 a1_1 a1_2).bind fun bt583 => ((arith_Sub.f a1_0 a1_1 a1_2 a0_0 a0_1 a0_2).bind fun bt586 => ((arith_Mul.f k a0_0 a0_1 a0_2 a1_0 a1_1 a1_2).bind fun bt591 => ((figureheadlaw06_answers.f k).bind fun t595 => (if t595 = true then ((arith_Neg.f a0_0 a0_1 a0_2).bind fun bt596 => ((arith_Neg.f bt596.1 bt596.2.1 bt596.2.2).bind fun bt599 => ((figureheadref05_Norm.f k a0_0 a0_1 a0_2).bind fun bt602 => (if (bt599.1 == bt602.1 && (bt599.2.1.toList == bt602.2.1.toList && (bt599.2.2 == bt602.2.2))) = true then (if bt583.2.1.toList = ([48] : List UInt8) then (if (bt583.1 == bt586.1 && (bt583.2.1.toList == bt586.2.1.toList && (bt583.2.2 == bt586.2.2))) = true then ((arith_Abs.f bt583.1 bt583.2.1 bt583.2.2).bind fun bt605 => ((arith_Abs.f bt586.1 bt586.2.1 bt586.2.2).bind fun bt608 => (if (bt605.1 == bt608.1 && (bt605.2.1.toList == bt608.2.1.toList && (bt605.2.2 == bt608.2.2))) = true then (if bt591.2.1.toList = ([48] : List UInt8) then ((arith_Abs.f a0_0 a0_1 a0_2).bind fun bt611 => ((arith_Abs.f a1_0 a1_1 a1_2).bind fun bt614 => ((arith_Mul.f k bt611.1 bt611.2.1 bt611.2.2 bt614.1 bt614.2.1 bt614.2.2).bind fun bt617 => ((arith_Abs.f bt591.1 bt591.2.1 bt591.2.2).bind fun bt620 => (some (bt617.1 == bt620.1 && (bt617.2.1.toList == bt620.2.1.toList && (bt617.2.2 == bt620.2.2)))))))) else (if (bt591.1 == (a0_0 != a1_0)) = true then ((arith_Abs.f a0_0 a0_1 a0_2).bind fun bt623 => ((arith_Abs.f a1_0 a1_1 a1_2).bind fun bt626 => ((arith_Mul.f k bt623.1 bt623.2.1 bt623.2.2 bt626.1 bt626.2.1 bt626.2.2).bind fun bt629 => ((arith_Abs.f bt591.1 bt591.2.1 bt591.2.2).bind fun bt632 => (some (bt629.1 == bt632.1 && (bt629.2.1.toList == bt632.2.1.toList && (bt629.2.2 == bt632.2.2)))))))) else (some false))) else (some false)))) else ((arith_Neg.f bt586.1 bt586.2.1 bt586.2.2).bind fun bt635 => (if (bt583.1 == bt635.1 && (bt583.2.1.toList == bt635.2.1.toList && (bt583.2.2 == bt635.2.2))) = true then ((arith_Abs.f bt583.1 bt583.2.1 bt583.2.2).bind fun bt638 => ((arith_Abs.f bt586.1 bt586.2.1 bt586.2.2).bind fun bt641 => (if (bt638.1 == bt641.1 && (bt638.2.1.toList == bt641.2.1.toList && (bt638.2.2 == bt641.2.2))) = true then (if bt591.2.1.toList = ([48] : List UInt8) then ((arith_Abs.f a0_0 a0_1 a0_2).bind fun bt644 => ((arith_Abs.f a1_0 a1_1 a1_2).bind fun bt647 => ((arith_Mul.f k bt644.1 bt644.2.1 bt644.2.2 bt647.1 bt647.2.1 bt647.2.2).bind fun bt650 => ((arith_Abs.f bt591.1 bt591.2.1 bt591.2.2).bind fun bt653 => (some (bt650.1 == bt653.1 && (bt650.2.1.toList == bt653.2.1.toList && (bt650.2.2 == bt653.2.2)))))))) else (if (bt591.1 == (a0_0 != a1_0)) = true then ((arith_Abs.f a0_0 a0_1 a0_2).bind fun bt656 => ((arith_Abs.f a1_0 a1_1 a1_2).bind fun bt659 => ((arith_Mul.f k bt656.1 bt656.2.1 bt656.2.2 bt659.1 bt659.2.1 bt659.2.2).bind fun bt662 => ((arith_Abs.f bt591.1 bt591.2.1 bt591.2.2).bind fun bt665 => (some (bt662.1 == bt665.1 && (bt662.2.1.toList == bt665.2.1.toList && (bt662.2.2 == bt665.2.2)))))))) else (some false))) else (some false)))) else (some false)))) else ((arith_Neg.f bt586.1 bt586.2.1 bt586.2.2).bind fun bt668 => (if (bt583.1 == bt668.1 && (bt583.2.1.toList == bt668.2.1.toList && (bt583.2.2 == bt668.2.2))) = true then ((arith_Abs.f bt583.1 bt583.2.1 bt583.2.2).bind fun bt671 => ((arith_Abs.f bt586.1 bt586.2.1 bt586.2.2).bind fun bt674 => (if (bt671.1 == bt674.1 && (bt671.2.1.toList == bt674.2.1.toList && (bt671.2.2 == bt674.2.2))) = true then (if bt591.2.1.toList = ([48] : List UInt8) then ((arith_Abs.f a0_0 a0_1 a0_2).bind fun bt677 => ((arith_Abs.f a1_0 a1_1 a1_2).bind fun bt680 => ((arith_Mul.f k bt677.1 bt677.2.1 bt677.2.2 bt680.1 bt680.2.1 bt680.2.2).bind fun bt683 => ((arith_Abs.f bt591.1 bt591.2.1 bt591.2.2).bind fun bt686 => (some (bt683.1 == bt686.1 && (bt683.2.1.toList == bt686.2.1.toList && (bt683.2.2 == bt686.2.2)))))))) else (if (bt591.1 == (a0_0 != a1_0)) = true then ((arith_Abs.f a0_0 a0_1 a0_2).bind fun bt689 => ((arith_Abs.f a1_0 a1_1 a1_2).bind fun bt692 => ((arith_Mul.f k bt689.1 bt689.2.1 bt689.2.2 bt692.1 bt692.2.1 bt692.2.2).bind fun bt695 => ((arith_Abs.f bt591.1 bt591.2.1 bt591.2.2).bind fun bt698 => (some (bt695.1 == bt698.1 && (bt695.2.1.toList == bt698.2.1.toList && (bt695.2.2 == bt698.2.2)))))))) else (some false))) else (some false)))) else (some false)))) else (some false))))) else (some false)))))) else ((figureheadlaw06_answers.f k).bind fun t582 => (some t582)))) = some r := by first | (rw [hy578]; with_reducible exact H) | (have H2_ := (Option.bind_some _ _).symm.trans H; rw [hy578]; with_reducible exact H2_) | (have H2_ := (Option.bind_some _ _).symm.trans H; with_reducible exact H2_) | with_reducible exact H | (rw [hy578]; exact H) | exact H
  have Ny578 := Aside0.mk hy578
  clear hy578
  obtain ⟨t581, A30, H⟩ := Option.bind_eq_some_iff.mp H
  (try dsimp -simprocs only at H)
  have A3 := Aside0.mk A30
  clear A30
  by_cases c4 : t581 = true
  · subst c4
    rw [if_pos rfl] at H
    obtain ⟨⟨t583, t584, t585⟩, A50, H⟩ := Option.bind_eq_some_iff.mp H
    (try dsimp -simprocs only at H)
    have A5 := Aside0.mk A50
    clear A50
    obtain ⟨⟨t586, t587, t588⟩, A60, H⟩ := Option.bind_eq_some_iff.mp H
    (try dsimp -simprocs only at H)
    have A6 := Aside0.mk A60
    clear A60
    obtain ⟨⟨t591, t592, t593⟩, A70, H⟩ := Option.bind_eq_some_iff.mp H
    (try dsimp -simprocs only at H)
    have A7 := Aside0.mk A70
    clear A70
    obtain ⟨t595, A80, H⟩ := Option.bind_eq_some_iff.mp H
    (try dsimp -simprocs only at H)
    have A8 := Aside0.mk A80
    clear A80
    by_cases c9 : t595 = true
    · subst c9
      rw [if_pos rfl] at H
      obtain ⟨⟨t596, t597, t598⟩, A100, H⟩ := Option.bind_eq_some_iff.mp H
      (try dsimp -simprocs only at H)
      have A10 := Aside0.mk A100
      clear A100
      obtain ⟨⟨t599, t600, t601⟩, A110, H⟩ := Option.bind_eq_some_iff.mp H
      (try dsimp -simprocs only at H)
      have A11 := Aside0.mk A110
      clear A110
      obtain ⟨⟨t602, t603, t604⟩, A120, H⟩ := Option.bind_eq_some_iff.mp H
      (try dsimp -simprocs only at H)
      have A12 := Aside0.mk A120
      clear A120
      by_cases c13 : (t599 == t602 && (t600.toList == t603.toList && (t601 == t604))) = true
      · rw [if_pos c13] at H
        have c13b0 : (t599 == t602 && (t600.toList == t603.toList && (t601 == t604))) = true := c13
        (try (have c13b1 : decide (t599 = t602 && (t600.toList == t603.toList && (t601 == t604))) = true := by simpa using c13))
        (try (have c13b2 : (t599 == t602 && (t600.toList == t603.toList && (t601 == t604))) = true := by simpa using c13))
        clear c13
        (try have HS5_ := Aside0.mk H)
        (try clear H)
        go_enter Tryd.func14, Tryd.ntmps14
        try go_wp2_with (first | (refine be_ 2 #[.bool a0_0, .string a0_1, .int .i64 a0_2] 23 ?_; intro gb576 hg w24 hbox hb; have BK576 := Aside0.mk (hbox); have GW576 := ge_ hg HB; have GE576 := ge_ hg HB; replace HB := hbs_ HB hb; clear hb hbox hg) | (refine be_ 3 #[.bool a1_0, .string a1_1, .int .i64 a1_2] 23 ?_; intro gb577 hg w25 hbox hb; have BK577 := Aside0.mk (hbox); have GW577 := ge_ hg HB; have GE577 := ge_ hg HB; replace HB := hbs_ HB hb; have NB576_577 := nb_ hg BK576; have NB577_576 := nc_ hg BK576; replace BK576 := bkb_ BK576 hb; clear hb hbox hg; have hnb26 := NB576_577.out; have hnc26 := NB577_576.out; obtain ⟨⟨hcz27_0, hcz27_1, hcz27_2⟩, hfz27_0, hfz27_1, hfz27_2⟩ := ce3 BK576; obtain ⟨⟨hcz28_0, hcz28_1, hcz28_2⟩, hfz28_0, hfz28_1, hfz28_2⟩ := ce3 BK577) | ((with_reducible refine gate_dst (N := 10) rfl ?_); refine Kd.R_lit k23 _ 23 ?hg (N := 10) ?hd (xs := ([(⟨a0_0, a0_1, a0_2⟩ : S23), (⟨a1_0, a1_1, a1_2⟩ : S23)] : List (S23))) (inner := [.bool a0_0, .string a0_1, .int .i64 a0_2, .bool a1_0, .string a1_1, .int .i64 a1_2]) (ok := fun _ => True) (okp := fun _ => True) ?hr ?hp (fun _ hk => hk) trivial (Below.refl _ _) (Nat.le_refl _) (by simp) ?_; (case hd => rfl); (case hg => rfl); (case hr => first | (go_simp; done) | (go_simp; rfl)); (case hp => exact (Reps.c3 (show Kd.M k23 _ _ _ (⟨a0_0, a0_1, a0_2⟩ : S23) [.bool a0_0, .string a0_1, .int .i64 a0_2] from (k23_mkM _ _ _ (⟨a0_0, a0_1, a0_2⟩ : S23) )) (Reps.c3 (show Kd.M k23 _ _ _ (⟨a1_0, a1_1, a1_2⟩ : S23) [.bool a1_0, .string a1_1, .int .i64 a1_2] from (k23_mkM _ _ _ (⟨a1_0, a1_1, a1_2⟩ : S23) )) (Reps.none _ _)))); intro v579 w29 ho30 hb hg_ hnew_; clear hg_ hnew_; (first | rw [← Ny578.out] at ho30 | (simp only [Int.reduceToNat] at ho30; rw [← Ny578.out] at ho30)); have HO580 := Aside0.mk (Kd.R_lower (Kd.R_newB (Kd.R_newB ho30 (g := gb576) (o := .cells #[.bool a0_0, .string a0_1, .int .i64 a0_2] 23 (0, 0)) (BK BK576)) (g := gb577) (o := .cells #[.bool a1_0, .string a1_1, .int .i64 a1_2] 23 (0, 0)) (BK BK577)) (below_size (BL HB))); replace BK576 := bkb_ BK576 hb; replace BK577 := bkb_ BK577 hb; replace HB := hbs_ HB hb; clear hb ho30; obtain ⟨Ao31, co31, eo31⟩ := Kd.R_slice HO580.out; subst eo31) | ((with_reducible refine gate_callee (f := 32) rfl ?_); refine goesL_ (some 11) rfl rfl Tryd.func32 (by kernel_rfl) rfl #[.slice Ao31 y578.length co31] rfl MP ?_; (with_reducible refine (figureheadlaw06_good.calls k _ _ y578 true _ ?side1 ?side2 A3.out).mono ?_); (case side1 => exact CB ((Kd.R_reads' HO580.out).2.2)); (case side2 => exact (Kd.R_reads' HO580.out).2.1); rintro e w32 ⟨rfl, hb⟩; refine ⟨_, rfl, ?_⟩; replace HO580 := Aside0.mk (Kd.R_below (RB HO580.out) hb); replace BK576 := bkb_ BK576 hb; replace BK577 := bkb_ BK577 hb; replace HB := hbs_ HB hb; (try clear hb); (try clear hb2); (try clear hk); (try clear hi)))
        (try (rw [drewN_self w32]; generalize hq_ : World.drewN w32 _ = w32; replace HO580 : Aside0 (Kd.R k23 23 w32 w.heap.size (fun k_ => k_ ≠ gb576 ∧ k_ ≠ gb577) (.slice Ao31 y578.length co31) y578) := ⟨by rw [← hq_]; exact (by (with_reducible repeat (first | apply Kd.R_alloc | apply Kd.R_drewN | apply Kd.R_drew)); exact Kd.R_mono HO580.out (fun _ hk => ⟨hk.1.2, hk.2⟩))⟩; replace BK576 := bkq_ BK576 hq_; replace BK577 := bkq_ BK577 hq_; replace HB := hbq_ HB hq_; clear hq_))
        replace HO580 := Aside0.mk (Kd.R_drew HO580.out)
        replace BK576 := Aside0.mk (blk_drew BK576.out)
        replace BK577 := Aside0.mk (blk_drew BK577.out)
        replace HB := Aside0.mk (below_drew1 HB.out)
        refine start_ (n := 10) (S := fun w' => w'.cell? ⟨gb576, 0, none⟩ = some (.bool a0_0) ∧ w'.cell? ⟨gb576, 1, none⟩ = some (.string a0_1) ∧ w'.cell? ⟨gb576, 2, none⟩ = some (.int .i64 a0_2) ∧ w'.cell? ⟨gb577, 0, none⟩ = some (.bool a1_0) ∧ w'.cell? ⟨gb577, 1, none⟩ = some (.string a1_1) ∧ w'.cell? ⟨gb577, 2, none⟩ = some (.int .i64 a1_2)) (ds := []) #[false, false, false, false, false, false, false, false, false, false] (by kernel_rfl) rfl rfl CE (fun hHeld => ?_); refine with_tabW figureheadlaw06_ArithSigns.tab3 figureheadlaw06_ArithSigns.bits3 (fun HT_ HW_ => ?_)
        generalize w32.drew = w33 at HO580 BK576 BK577 HB hHeld ⊢
        refine tk_ 0 (some 14) (bb 10 1) (take_ofW HT_.out HW_.out (by kernel_rfl)) hHeld ?_
        refine tk_ 1 (some 15) (bb 10 3) (take_ofW HT_.out HW_.out (by kernel_rfl)) hHeld ?_
        refine tk_ 3 (some 17) (bb 10 11) (take_ofW HT_.out HW_.out (by kernel_rfl)) hHeld ?_
        refine tk_ 4 (some 18) (bb 10 27) (take_ofW HT_.out HW_.out (by kernel_rfl)) hHeld ?_
        refine join_ (σ := Nat × Nat) 2 (bb 10 255) (fun s_ => [(16, .agg #[.bool t583, .string t584, .int .i64 t585]), (19, .agg #[.bool t586, .string t587, .int .i64 t588]), (5, .pointer (some ⟨s_.1, 0, none⟩)), (6, .pointer (some ⟨s_.2, 0, none⟩))]) (fun s_ w' => (w'.cell? ⟨gb576, 0, none⟩ = some (.bool a0_0) ∧ w'.cell? ⟨gb576, 1, none⟩ = some (.string a0_1) ∧ w'.cell? ⟨gb576, 2, none⟩ = some (.int .i64 a0_2) ∧ w'.cell? ⟨gb577, 0, none⟩ = some (.bool a1_0) ∧ w'.cell? ⟨gb577, 1, none⟩ = some (.string a1_1) ∧ w'.cell? ⟨gb577, 2, none⟩ = some (.int .i64 a1_2)) ∧ (Kd.R k23 23 w' w.heap.size (fun k_ => k_ ≠ gb576 ∧ k_ ≠ gb577 ∧ k_ ≠ s_.1 ∧ k_ ≠ s_.2) (.slice Ao31 y578.length co31) y578) ∧ (w'.heap[gb576]? = some (.cells #[.bool a0_0, .string a0_1, .int .i64 a0_2] 23 (0, 0))) ∧ (w'.heap[gb577]? = some (.cells #[.bool a1_0, .string a1_1, .int .i64 a1_2] 23 (0, 0))) ∧ (w'.heap[s_.1]? = some (.cells #[.bool false, .string (⟨#[]⟩ : ByteArray), .int .i64 0] 23 (0, 0))) ∧ (w'.heap[s_.2]? = some (.cells #[.bool false, .string (⟨#[]⟩ : ByteArray), .int .i64 0] 23 (0, 0))) ∧ (w.heap.size ≤ s_.1) ∧ (w.heap.size ≤ s_.1) ∧ (gb576 ≠ s_.1) ∧ (s_.1 ≠ gb576) ∧ (gb577 ≠ s_.1) ∧ (s_.1 ≠ gb577) ∧ (s_.2 ≠ s_.1) ∧ (s_.1 ≠ s_.2) ∧ (w.heap.size ≤ s_.2) ∧ (w.heap.size ≤ s_.2) ∧ (gb576 ≠ s_.2) ∧ (s_.2 ≠ gb576) ∧ (gb577 ≠ s_.2) ∧ (s_.2 ≠ gb577) ∧ (Below w.heap.size w w')) ?_ ?_
        rotate_left
        · intro hJ2_5_6_7
          refine join_ (σ := Nat) 3 (bb 10 127) (fun s_ => [(16, .agg #[.bool t583, .string t584, .int .i64 t585]), (19, .agg #[.bool t586, .string t587, .int .i64 t588]), (5, .pointer (some ⟨s_, 0, none⟩))]) (fun s_ w' => (w'.cell? ⟨gb576, 0, none⟩ = some (.bool a0_0) ∧ w'.cell? ⟨gb576, 1, none⟩ = some (.string a0_1) ∧ w'.cell? ⟨gb576, 2, none⟩ = some (.int .i64 a0_2) ∧ w'.cell? ⟨gb577, 0, none⟩ = some (.bool a1_0) ∧ w'.cell? ⟨gb577, 1, none⟩ = some (.string a1_1) ∧ w'.cell? ⟨gb577, 2, none⟩ = some (.int .i64 a1_2)) ∧ (Kd.R k23 23 w' w.heap.size (fun k_ => k_ ≠ gb576 ∧ k_ ≠ gb577 ∧ k_ ≠ s_) (.slice Ao31 y578.length co31) y578) ∧ (w'.heap[gb576]? = some (.cells #[.bool a0_0, .string a0_1, .int .i64 a0_2] 23 (0, 0))) ∧ (w'.heap[gb577]? = some (.cells #[.bool a1_0, .string a1_1, .int .i64 a1_2] 23 (0, 0))) ∧ (w'.heap[s_]? = some (.cells #[.bool false, .string (⟨#[]⟩ : ByteArray), .int .i64 0] 23 (0, 0))) ∧ (w.heap.size ≤ s_) ∧ (w.heap.size ≤ s_) ∧ (gb576 ≠ s_) ∧ (s_ ≠ gb576) ∧ (gb577 ≠ s_) ∧ (s_ ≠ gb577) ∧ (Below w.heap.size w w')) ?_ ?_
          rotate_left
          · intro hJ2_5_6
            refine join_ (σ := Nat) 3 (bb 10 191) (fun s_ => [(16, .agg #[.bool t583, .string t584, .int .i64 t585]), (19, .agg #[.bool t586, .string t587, .int .i64 t588]), (6, .pointer (some ⟨s_, 0, none⟩))]) (fun s_ w' => (w'.cell? ⟨gb576, 0, none⟩ = some (.bool a0_0) ∧ w'.cell? ⟨gb576, 1, none⟩ = some (.string a0_1) ∧ w'.cell? ⟨gb576, 2, none⟩ = some (.int .i64 a0_2) ∧ w'.cell? ⟨gb577, 0, none⟩ = some (.bool a1_0) ∧ w'.cell? ⟨gb577, 1, none⟩ = some (.string a1_1) ∧ w'.cell? ⟨gb577, 2, none⟩ = some (.int .i64 a1_2)) ∧ (Kd.R k23 23 w' w.heap.size (fun k_ => k_ ≠ gb576 ∧ k_ ≠ gb577 ∧ k_ ≠ s_) (.slice Ao31 y578.length co31) y578) ∧ (w'.heap[gb576]? = some (.cells #[.bool a0_0, .string a0_1, .int .i64 a0_2] 23 (0, 0))) ∧ (w'.heap[gb577]? = some (.cells #[.bool a1_0, .string a1_1, .int .i64 a1_2] 23 (0, 0))) ∧ (w'.heap[s_]? = some (.cells #[.bool false, .string (⟨#[]⟩ : ByteArray), .int .i64 0] 23 (0, 0))) ∧ (w.heap.size ≤ s_) ∧ (w.heap.size ≤ s_) ∧ (gb576 ≠ s_) ∧ (s_ ≠ gb576) ∧ (gb577 ≠ s_) ∧ (s_ ≠ gb577) ∧ (Below w.heap.size w w')) ?_ ?_
            rotate_left
            · intro hJ2_5_7
              refine join_ (σ := Nat × Nat) 3 (bb 10 223) (fun s_ => [(16, .agg #[.bool t583, .string t584, .int .i64 t585]), (5, .pointer (some ⟨s_.1, 0, none⟩)), (6, .pointer (some ⟨s_.2, 0, none⟩))]) (fun s_ w' => (w'.cell? ⟨gb576, 0, none⟩ = some (.bool a0_0) ∧ w'.cell? ⟨gb576, 1, none⟩ = some (.string a0_1) ∧ w'.cell? ⟨gb576, 2, none⟩ = some (.int .i64 a0_2) ∧ w'.cell? ⟨gb577, 0, none⟩ = some (.bool a1_0) ∧ w'.cell? ⟨gb577, 1, none⟩ = some (.string a1_1) ∧ w'.cell? ⟨gb577, 2, none⟩ = some (.int .i64 a1_2)) ∧ (Kd.R k23 23 w' w.heap.size (fun k_ => k_ ≠ gb576 ∧ k_ ≠ gb577 ∧ k_ ≠ s_.1 ∧ k_ ≠ s_.2) (.slice Ao31 y578.length co31) y578) ∧ (w'.heap[gb576]? = some (.cells #[.bool a0_0, .string a0_1, .int .i64 a0_2] 23 (0, 0))) ∧ (w'.heap[gb577]? = some (.cells #[.bool a1_0, .string a1_1, .int .i64 a1_2] 23 (0, 0))) ∧ (w'.heap[s_.1]? = some (.cells #[.bool false, .string (⟨#[]⟩ : ByteArray), .int .i64 0] 23 (0, 0))) ∧ (w'.heap[s_.2]? = some (.cells #[.bool false, .string (⟨#[]⟩ : ByteArray), .int .i64 0] 23 (0, 0))) ∧ (w.heap.size ≤ s_.1) ∧ (w.heap.size ≤ s_.1) ∧ (gb576 ≠ s_.1) ∧ (s_.1 ≠ gb576) ∧ (gb577 ≠ s_.1) ∧ (s_.1 ≠ gb577) ∧ (s_.2 ≠ s_.1) ∧ (s_.1 ≠ s_.2) ∧ (w.heap.size ≤ s_.2) ∧ (w.heap.size ≤ s_.2) ∧ (gb576 ≠ s_.2) ∧ (s_.2 ≠ gb576) ∧ (gb577 ≠ s_.2) ∧ (s_.2 ≠ gb577) ∧ (Below w.heap.size w w')) ?_ ?_
              rotate_left
              · intro hJ2_6_7
                refine join_ (σ := Unit) 4 (bb 10 63) (fun s_ => [(16, .agg #[.bool t583, .string t584, .int .i64 t585]), (19, .agg #[.bool t586, .string t587, .int .i64 t588])]) (fun s_ w' => (w'.cell? ⟨gb576, 0, none⟩ = some (.bool a0_0) ∧ w'.cell? ⟨gb576, 1, none⟩ = some (.string a0_1) ∧ w'.cell? ⟨gb576, 2, none⟩ = some (.int .i64 a0_2) ∧ w'.cell? ⟨gb577, 0, none⟩ = some (.bool a1_0) ∧ w'.cell? ⟨gb577, 1, none⟩ = some (.string a1_1) ∧ w'.cell? ⟨gb577, 2, none⟩ = some (.int .i64 a1_2)) ∧ (Kd.R k23 23 w' w.heap.size (fun k_ => k_ ≠ gb576 ∧ k_ ≠ gb577) (.slice Ao31 y578.length co31) y578) ∧ (w'.heap[gb576]? = some (.cells #[.bool a0_0, .string a0_1, .int .i64 a0_2] 23 (0, 0))) ∧ (w'.heap[gb577]? = some (.cells #[.bool a1_0, .string a1_1, .int .i64 a1_2] 23 (0, 0))) ∧ (Below w.heap.size w w')) ?_ ?_
                rotate_left
                · intro hJ2_5
                  refine join_ (σ := Nat) 4 (bb 10 95) (fun s_ => [(16, .agg #[.bool t583, .string t584, .int .i64 t585]), (5, .pointer (some ⟨s_, 0, none⟩))]) (fun s_ w' => (w'.cell? ⟨gb576, 0, none⟩ = some (.bool a0_0) ∧ w'.cell? ⟨gb576, 1, none⟩ = some (.string a0_1) ∧ w'.cell? ⟨gb576, 2, none⟩ = some (.int .i64 a0_2) ∧ w'.cell? ⟨gb577, 0, none⟩ = some (.bool a1_0) ∧ w'.cell? ⟨gb577, 1, none⟩ = some (.string a1_1) ∧ w'.cell? ⟨gb577, 2, none⟩ = some (.int .i64 a1_2)) ∧ (Kd.R k23 23 w' w.heap.size (fun k_ => k_ ≠ gb576 ∧ k_ ≠ gb577 ∧ k_ ≠ s_) (.slice Ao31 y578.length co31) y578) ∧ (w'.heap[gb576]? = some (.cells #[.bool a0_0, .string a0_1, .int .i64 a0_2] 23 (0, 0))) ∧ (w'.heap[gb577]? = some (.cells #[.bool a1_0, .string a1_1, .int .i64 a1_2] 23 (0, 0))) ∧ (w'.heap[s_]? = some (.cells #[.bool false, .string (⟨#[]⟩ : ByteArray), .int .i64 0] 23 (0, 0))) ∧ (w.heap.size ≤ s_) ∧ (w.heap.size ≤ s_) ∧ (gb576 ≠ s_) ∧ (s_ ≠ gb576) ∧ (gb577 ≠ s_) ∧ (s_ ≠ gb577) ∧ (Below w.heap.size w w')) ?_ ?_
                  rotate_left
                  · intro hJ2_6
                    refine join_ (σ := Nat) 4 (bb 10 159) (fun s_ => [(16, .agg #[.bool t583, .string t584, .int .i64 t585]), (6, .pointer (some ⟨s_, 0, none⟩))]) (fun s_ w' => (w'.cell? ⟨gb576, 0, none⟩ = some (.bool a0_0) ∧ w'.cell? ⟨gb576, 1, none⟩ = some (.string a0_1) ∧ w'.cell? ⟨gb576, 2, none⟩ = some (.int .i64 a0_2) ∧ w'.cell? ⟨gb577, 0, none⟩ = some (.bool a1_0) ∧ w'.cell? ⟨gb577, 1, none⟩ = some (.string a1_1) ∧ w'.cell? ⟨gb577, 2, none⟩ = some (.int .i64 a1_2)) ∧ (Kd.R k23 23 w' w.heap.size (fun k_ => k_ ≠ gb576 ∧ k_ ≠ gb577 ∧ k_ ≠ s_) (.slice Ao31 y578.length co31) y578) ∧ (w'.heap[gb576]? = some (.cells #[.bool a0_0, .string a0_1, .int .i64 a0_2] 23 (0, 0))) ∧ (w'.heap[gb577]? = some (.cells #[.bool a1_0, .string a1_1, .int .i64 a1_2] 23 (0, 0))) ∧ (w'.heap[s_]? = some (.cells #[.bool false, .string (⟨#[]⟩ : ByteArray), .int .i64 0] 23 (0, 0))) ∧ (w.heap.size ≤ s_) ∧ (w.heap.size ≤ s_) ∧ (gb576 ≠ s_) ∧ (s_ ≠ gb576) ∧ (gb577 ≠ s_) ∧ (s_ ≠ gb577) ∧ (Below w.heap.size w w')) ?_ ?_
                    rotate_left
                    · intro hJ2_7
                      refine join_ (σ := Nat × Nat) 4 (bb 10 219) (fun s_ => [(5, .pointer (some ⟨s_.1, 0, none⟩)), (6, .pointer (some ⟨s_.2, 0, none⟩))]) (fun s_ w' => (w'.cell? ⟨gb576, 0, none⟩ = some (.bool a0_0) ∧ w'.cell? ⟨gb576, 1, none⟩ = some (.string a0_1) ∧ w'.cell? ⟨gb576, 2, none⟩ = some (.int .i64 a0_2) ∧ w'.cell? ⟨gb577, 0, none⟩ = some (.bool a1_0) ∧ w'.cell? ⟨gb577, 1, none⟩ = some (.string a1_1) ∧ w'.cell? ⟨gb577, 2, none⟩ = some (.int .i64 a1_2)) ∧ (Kd.R k23 23 w' w.heap.size (fun k_ => k_ ≠ gb576 ∧ k_ ≠ gb577 ∧ k_ ≠ s_.1 ∧ k_ ≠ s_.2) (.slice Ao31 y578.length co31) y578) ∧ (w'.heap[gb576]? = some (.cells #[.bool a0_0, .string a0_1, .int .i64 a0_2] 23 (0, 0))) ∧ (w'.heap[gb577]? = some (.cells #[.bool a1_0, .string a1_1, .int .i64 a1_2] 23 (0, 0))) ∧ (w'.heap[s_.1]? = some (.cells #[.bool false, .string (⟨#[]⟩ : ByteArray), .int .i64 0] 23 (0, 0))) ∧ (w'.heap[s_.2]? = some (.cells #[.bool false, .string (⟨#[]⟩ : ByteArray), .int .i64 0] 23 (0, 0))) ∧ (w.heap.size ≤ s_.1) ∧ (w.heap.size ≤ s_.1) ∧ (gb576 ≠ s_.1) ∧ (s_.1 ≠ gb576) ∧ (gb577 ≠ s_.1) ∧ (s_.1 ≠ gb577) ∧ (s_.2 ≠ s_.1) ∧ (s_.1 ≠ s_.2) ∧ (w.heap.size ≤ s_.2) ∧ (w.heap.size ≤ s_.2) ∧ (gb576 ≠ s_.2) ∧ (s_.2 ≠ gb576) ∧ (gb577 ≠ s_.2) ∧ (s_.2 ≠ gb577) ∧ (Below w.heap.size w w')) ?_ ?_
                      rotate_left
                      · intro hJ6_7
                        refine join_ (σ := Unit) 5 (bb 10 31) (fun s_ => [(16, .agg #[.bool t583, .string t584, .int .i64 t585])]) (fun s_ w' => (w'.cell? ⟨gb576, 0, none⟩ = some (.bool a0_0) ∧ w'.cell? ⟨gb576, 1, none⟩ = some (.string a0_1) ∧ w'.cell? ⟨gb576, 2, none⟩ = some (.int .i64 a0_2) ∧ w'.cell? ⟨gb577, 0, none⟩ = some (.bool a1_0) ∧ w'.cell? ⟨gb577, 1, none⟩ = some (.string a1_1) ∧ w'.cell? ⟨gb577, 2, none⟩ = some (.int .i64 a1_2)) ∧ (Kd.R k23 23 w' w.heap.size (fun k_ => k_ ≠ gb576 ∧ k_ ≠ gb577) (.slice Ao31 y578.length co31) y578) ∧ (w'.heap[gb576]? = some (.cells #[.bool a0_0, .string a0_1, .int .i64 a0_2] 23 (0, 0))) ∧ (w'.heap[gb577]? = some (.cells #[.bool a1_0, .string a1_1, .int .i64 a1_2] 23 (0, 0))) ∧ (Below w.heap.size w w')) ?_ ?_
                        rotate_left
                        · intro hJ2
                          refine join_ (σ := Nat) 5 (bb 10 91) (fun s_ => [(5, .pointer (some ⟨s_, 0, none⟩))]) (fun s_ w' => (w'.cell? ⟨gb576, 0, none⟩ = some (.bool a0_0) ∧ w'.cell? ⟨gb576, 1, none⟩ = some (.string a0_1) ∧ w'.cell? ⟨gb576, 2, none⟩ = some (.int .i64 a0_2) ∧ w'.cell? ⟨gb577, 0, none⟩ = some (.bool a1_0) ∧ w'.cell? ⟨gb577, 1, none⟩ = some (.string a1_1) ∧ w'.cell? ⟨gb577, 2, none⟩ = some (.int .i64 a1_2)) ∧ (Kd.R k23 23 w' w.heap.size (fun k_ => k_ ≠ gb576 ∧ k_ ≠ gb577 ∧ k_ ≠ s_) (.slice Ao31 y578.length co31) y578) ∧ (w'.heap[gb576]? = some (.cells #[.bool a0_0, .string a0_1, .int .i64 a0_2] 23 (0, 0))) ∧ (w'.heap[gb577]? = some (.cells #[.bool a1_0, .string a1_1, .int .i64 a1_2] 23 (0, 0))) ∧ (w'.heap[s_]? = some (.cells #[.bool false, .string (⟨#[]⟩ : ByteArray), .int .i64 0] 23 (0, 0))) ∧ (w.heap.size ≤ s_) ∧ (w.heap.size ≤ s_) ∧ (gb576 ≠ s_) ∧ (s_ ≠ gb576) ∧ (gb577 ≠ s_) ∧ (s_ ≠ gb577) ∧ (Below w.heap.size w w')) ?_ ?_
                          rotate_left
                          · intro hJ6
                            refine join_ (σ := Nat) 5 (bb 10 155) (fun s_ => [(6, .pointer (some ⟨s_, 0, none⟩))]) (fun s_ w' => (w'.cell? ⟨gb576, 0, none⟩ = some (.bool a0_0) ∧ w'.cell? ⟨gb576, 1, none⟩ = some (.string a0_1) ∧ w'.cell? ⟨gb576, 2, none⟩ = some (.int .i64 a0_2) ∧ w'.cell? ⟨gb577, 0, none⟩ = some (.bool a1_0) ∧ w'.cell? ⟨gb577, 1, none⟩ = some (.string a1_1) ∧ w'.cell? ⟨gb577, 2, none⟩ = some (.int .i64 a1_2)) ∧ (Kd.R k23 23 w' w.heap.size (fun k_ => k_ ≠ gb576 ∧ k_ ≠ gb577 ∧ k_ ≠ s_) (.slice Ao31 y578.length co31) y578) ∧ (w'.heap[gb576]? = some (.cells #[.bool a0_0, .string a0_1, .int .i64 a0_2] 23 (0, 0))) ∧ (w'.heap[gb577]? = some (.cells #[.bool a1_0, .string a1_1, .int .i64 a1_2] 23 (0, 0))) ∧ (w'.heap[s_]? = some (.cells #[.bool false, .string (⟨#[]⟩ : ByteArray), .int .i64 0] 23 (0, 0))) ∧ (w.heap.size ≤ s_) ∧ (w.heap.size ≤ s_) ∧ (gb576 ≠ s_) ∧ (s_ ≠ gb576) ∧ (gb577 ≠ s_) ∧ (s_ ≠ gb577) ∧ (Below w.heap.size w w')) ?_ ?_
                            rotate_left
                            · intro hJ7
                              refine three_ (i := 2) (j := 6) (k := 7) (Ni := some 16) (Nj := some 5) (Nk := some 6) (bb 10 31) (bb 10 91) (bb 10 155) rfl rfl rfl rfl rfl rfl (three_of HT_.out (by kernel_rfl)) (by decide) (by decide) (by decide) (fun K hK => ?_) (fun K hK => ?_) (fun K hK => ?_)
                              · skip
                                refine goes_ Tryd.func36 (by kernel_rfl) rfl #[.agg #[.bool a0_0, .string a0_1, .int .i64 a0_2], .agg #[.bool a1_0, .string a1_1, .int .i64 a1_2]] (by rfl) rfl rfl MP ?_
                                with_reducible refine (arith_Sub.calls a0_0 a0_1 a0_2 a1_0 a1_1 a1_2 t583 t584 t585 _ ?side1 A5.out).mono ?_
                                (case side1 => exact Fig.Glob.below HG.out (BL HB))
                                rintro e w34 ⟨rfl, hb⟩
                                refine ⟨_, rfl, ?_⟩
                                replace HO580 := Aside0.mk (Kd.R_below (RB HO580.out) hb)
                                replace BK576 := bkb_ BK576 hb
                                replace BK577 := bkb_ BK577 hb
                                replace HB := hbs_ HB hb
                                (try clear hb)
                                (try clear hb2)
                                (try clear hk)
                                (try clear hi)
                                refine hK.out _ _ CE (fun hHeld => ?_)
                                clear hK K
                                refine no_ (some 16) ?_
                                exact norm_ (by first | (simp only [putAll, Act.put, List.setIfInBounds_toArray, List.set_cons_zero, List.set_cons_succ]; done) | (simp only [putAll, Act.put, List.setIfInBounds_toArray, List.set_cons_zero, List.set_cons_succ]; rfl)) (hJ2 () _ ⟨hHeld, (by (with_reducible repeat (first | apply Kd.R_alloc | apply Kd.R_drewN | apply Kd.R_drew)); exact Kd.R_mono HO580.out (fun _ hk => ⟨hk.1.2, hk.2⟩)), (BK BK576), (BK BK577), (BL HB)⟩)
                              · skip
                                refine box_step ?hg (N := 5) ?hd (cs := #[.bool false, .string (⟨#[]⟩ : ByteArray), .int .i64 0]) (t := 23) ?hr ?_; (case hd => rfl); (case hg => rfl); (case hr => first | (go_simp; done) | (go_simp; rfl))
                                intro gb589 hg w34 hbox hb
                                replace HO580 := Aside0.mk (Kd.R_below (Kd.R_elderB (RB HO580.out) gb589 (Nat.le_of_eq hg.symm)) hb)
                                have BK589 := Aside0.mk (hbox)
                                have GW589 := ge_ hg HB
                                have GE589 := ge_ hg HB
                                replace HB := hbs_ HB hb
                                have NB576_589 := nb_ hg BK576
                                have NB589_576 := nc_ hg BK576
                                replace BK576 := bkb_ BK576 hb
                                have NB577_589 := nb_ hg BK577
                                have NB589_577 := nc_ hg BK577
                                replace BK577 := bkb_ BK577 hb
                                clear hb hbox hg
                                refine hK.out _ _ CE (fun hHeld => ?_)
                                clear hK K
                                refine no_ (some 5) ?_
                                exact norm_ (by first | (simp only [putAll, Act.put, List.setIfInBounds_toArray, List.set_cons_zero, List.set_cons_succ]; done) | (simp only [putAll, Act.put, List.setIfInBounds_toArray, List.set_cons_zero, List.set_cons_succ]; rfl)) (hJ6 (gb589) _ ⟨hHeld, (by (with_reducible repeat (first | apply Kd.R_alloc | apply Kd.R_drewN | apply Kd.R_drew)); exact Kd.R_mono HO580.out (fun _ hk => ⟨hk.1.1.2, ⟨hk.1.2, hk.2⟩⟩)), (BK BK576), (BK BK577), (BK BK589), GW589.out, GE589.out, NB576_589.out, NB589_576.out, NB577_589.out, NB589_577.out, (BL HB)⟩)
                              skip
                              refine box_step ?hg (N := 6) ?hd (cs := #[.bool false, .string (⟨#[]⟩ : ByteArray), .int .i64 0]) (t := 23) ?hr ?_; (case hd => rfl); (case hg => rfl); (case hr => first | (go_simp; done) | (go_simp; rfl))
                              intro gb590 hg w34 hbox hb
                              replace HO580 := Aside0.mk (Kd.R_below (Kd.R_elderB (RB HO580.out) gb590 (Nat.le_of_eq hg.symm)) hb)
                              have BK590 := Aside0.mk (hbox)
                              have GW590 := ge_ hg HB
                              have GE590 := ge_ hg HB
                              replace HB := hbs_ HB hb
                              have NB576_590 := nb_ hg BK576
                              have NB590_576 := nc_ hg BK576
                              replace BK576 := bkb_ BK576 hb
                              have NB577_590 := nb_ hg BK577
                              have NB590_577 := nc_ hg BK577
                              replace BK577 := bkb_ BK577 hb
                              clear hb hbox hg
                              refine hK.out _ _ CE (fun hHeld => ?_)
                              clear hK K
                              refine no_ (some 6) ?_
                              exact norm_ (by first | (simp only [putAll, Act.put, List.setIfInBounds_toArray, List.set_cons_zero, List.set_cons_succ]; done) | (simp only [putAll, Act.put, List.setIfInBounds_toArray, List.set_cons_zero, List.set_cons_succ]; rfl)) (hJ7 (gb590) _ ⟨hHeld, (by (with_reducible repeat (first | apply Kd.R_alloc | apply Kd.R_drewN | apply Kd.R_drew)); exact Kd.R_mono HO580.out (fun _ hk => ⟨hk.1.1.2, ⟨hk.1.2, hk.2⟩⟩)), (BK BK576), (BK BK577), (BK BK590), GW590.out, GE590.out, NB576_590.out, NB590_576.out, NB577_590.out, NB590_577.out, (BL HB)⟩)
                            skip
                            rintro gb590 w35 ⟨hS_, h0_, h1_, h2_, h3_, h4_, h5_, h6_, h7_, h8_, h9_, h10_⟩
                            replace HO580 : Aside0 (Kd.R k23 23 w35 w.heap.size (fun k_ => k_ ≠ gb576 ∧ k_ ≠ gb577 ∧ k_ ≠ gb590) (.slice Ao31 y578.length co31) y578) := ⟨h0_⟩
                            replace BK576 : Aside0 (w35.heap[gb576]? = some (.cells #[.bool a0_0, .string a0_1, .int .i64 a0_2] 23 (0, 0))) := ⟨h1_⟩
                            replace BK577 : Aside0 (w35.heap[gb577]? = some (.cells #[.bool a1_0, .string a1_1, .int .i64 a1_2] 23 (0, 0))) := ⟨h2_⟩
                            have BK590 : Aside0 (w35.heap[gb590]? = some (.cells #[.bool false, .string (⟨#[]⟩ : ByteArray), .int .i64 0] 23 (0, 0))) := ⟨h3_⟩
                            have GW590 : Aside0 (w.heap.size ≤ gb590) := ⟨h4_⟩
                            have GE590 : Aside0 (w.heap.size ≤ gb590) := ⟨h5_⟩
                            have NB576_590 : Aside0 (gb576 ≠ gb590) := ⟨h6_⟩
                            have NB590_576 : Aside0 (gb590 ≠ gb576) := ⟨h7_⟩
                            have NB577_590 : Aside0 (gb577 ≠ gb590) := ⟨h8_⟩
                            have NB590_577 : Aside0 (gb590 ≠ gb577) := ⟨h9_⟩
                            replace HB : Aside0 (Below w.heap.size w w35) := ⟨h10_⟩
                            clear h0_ h1_ h2_ h3_ h4_ h5_ h6_ h7_ h8_ h9_ h10_
                            have hHeld : w35.cell? ⟨gb576, 0, none⟩ = some (.bool a0_0) ∧ w35.cell? ⟨gb576, 1, none⟩ = some (.string a0_1) ∧ w35.cell? ⟨gb576, 2, none⟩ = some (.int .i64 a0_2) ∧ w35.cell? ⟨gb577, 0, none⟩ = some (.bool a1_0) ∧ w35.cell? ⟨gb577, 1, none⟩ = some (.string a1_1) ∧ w35.cell? ⟨gb577, 2, none⟩ = some (.int .i64 a1_2) := hS_
                            refine norm_ (a' := ?_) ?_ ?_
                            rotate_left
                            · simp only [putAll, Act.put, List.setIfInBounds_toArray, List.set_cons_zero, List.set_cons_succ]
                              rfl
                            refine two_ (i := 2) (j := 6) (Ni := some 16) (Nj := some 5) (bb 10 159) (bb 10 219) rfl rfl rfl rfl (two_of HT_.out (by kernel_rfl)) (by decide) (by decide) (fun K hK => ?_) (fun K hK => ?_)
                            · skip
                              refine goes_ Tryd.func36 (by kernel_rfl) rfl #[.agg #[.bool a0_0, .string a0_1, .int .i64 a0_2], .agg #[.bool a1_0, .string a1_1, .int .i64 a1_2]] (by rfl) rfl rfl MP ?_
                              with_reducible refine (arith_Sub.calls a0_0 a0_1 a0_2 a1_0 a1_1 a1_2 t583 t584 t585 _ ?side1 A5.out).mono ?_
                              (case side1 => exact Fig.Glob.below HG.out (BL HB))
                              rintro e w36 ⟨rfl, hb⟩
                              refine ⟨_, rfl, ?_⟩
                              replace HO580 := Aside0.mk (Kd.R_below (RB HO580.out) hb)
                              replace BK576 := bkb_ BK576 hb
                              replace BK577 := bkb_ BK577 hb
                              replace BK590 := bkb_ BK590 hb
                              replace HB := hbs_ HB hb
                              (try clear hb)
                              (try clear hb2)
                              (try clear hk)
                              (try clear hi)
                              refine hK.out _ _ CE (fun hHeld => ?_)
                              clear hK K
                              refine no_ (some 16) ?_
                              exact norm_ (by first | (simp only [putAll, Act.put, List.setIfInBounds_toArray, List.set_cons_zero, List.set_cons_succ]; done) | (simp only [putAll, Act.put, List.setIfInBounds_toArray, List.set_cons_zero, List.set_cons_succ]; rfl)) (hJ2_7 (gb590) _ ⟨hHeld, (RB HO580.out), (BK BK576), (BK BK577), (BK BK590), GW590.out, GE590.out, NB576_590.out, NB590_576.out, NB577_590.out, NB590_577.out, (BL HB)⟩)
                            skip
                            refine box_step ?hg (N := 5) ?hd (cs := #[.bool false, .string (⟨#[]⟩ : ByteArray), .int .i64 0]) (t := 23) ?hr ?_; (case hd => rfl); (case hg => rfl); (case hr => first | (go_simp; done) | (go_simp; rfl))
                            intro gb589 hg w36 hbox hb
                            replace HO580 := Aside0.mk (Kd.R_below (Kd.R_elderB (RB HO580.out) gb589 (Nat.le_of_eq hg.symm)) hb)
                            have BK589 := Aside0.mk (hbox)
                            have GW589 := ge_ hg HB
                            have GE589 := ge_ hg HB
                            replace HB := hbs_ HB hb
                            have NB576_589 := nb_ hg BK576
                            have NB589_576 := nc_ hg BK576
                            replace BK576 := bkb_ BK576 hb
                            have NB577_589 := nb_ hg BK577
                            have NB589_577 := nc_ hg BK577
                            replace BK577 := bkb_ BK577 hb
                            have NB590_589 := nb_ hg BK590
                            have NB589_590 := nc_ hg BK590
                            replace BK590 := bkb_ BK590 hb
                            clear hb hbox hg
                            refine hK.out _ _ CE (fun hHeld => ?_)
                            clear hK K
                            refine no_ (some 5) ?_
                            exact norm_ (by first | (simp only [putAll, Act.put, List.setIfInBounds_toArray, List.set_cons_zero, List.set_cons_succ]; done) | (simp only [putAll, Act.put, List.setIfInBounds_toArray, List.set_cons_zero, List.set_cons_succ]; rfl)) (hJ6_7 (gb589, gb590) _ ⟨hHeld, (by (with_reducible repeat (first | apply Kd.R_alloc | apply Kd.R_drewN | apply Kd.R_drew)); exact Kd.R_mono HO580.out (fun _ hk => ⟨hk.1.1, ⟨hk.1.2.1, ⟨hk.2, hk.1.2.2⟩⟩⟩)), (BK BK576), (BK BK577), (BK BK589), (BK BK590), GW589.out, GE589.out, NB576_589.out, NB589_576.out, NB577_589.out, NB589_577.out, NB590_589.out, NB589_590.out, GW590.out, GE590.out, NB576_590.out, NB590_576.out, NB577_590.out, NB590_577.out, (BL HB)⟩)
                          skip
                          rintro gb589 w35 ⟨hS_, h0_, h1_, h2_, h3_, h4_, h5_, h6_, h7_, h8_, h9_, h10_⟩
                          replace HO580 : Aside0 (Kd.R k23 23 w35 w.heap.size (fun k_ => k_ ≠ gb576 ∧ k_ ≠ gb577 ∧ k_ ≠ gb589) (.slice Ao31 y578.length co31) y578) := ⟨h0_⟩
                          replace BK576 : Aside0 (w35.heap[gb576]? = some (.cells #[.bool a0_0, .string a0_1, .int .i64 a0_2] 23 (0, 0))) := ⟨h1_⟩
                          replace BK577 : Aside0 (w35.heap[gb577]? = some (.cells #[.bool a1_0, .string a1_1, .int .i64 a1_2] 23 (0, 0))) := ⟨h2_⟩
                          have BK589 : Aside0 (w35.heap[gb589]? = some (.cells #[.bool false, .string (⟨#[]⟩ : ByteArray), .int .i64 0] 23 (0, 0))) := ⟨h3_⟩
                          have GW589 : Aside0 (w.heap.size ≤ gb589) := ⟨h4_⟩
                          have GE589 : Aside0 (w.heap.size ≤ gb589) := ⟨h5_⟩
                          have NB576_589 : Aside0 (gb576 ≠ gb589) := ⟨h6_⟩
                          have NB589_576 : Aside0 (gb589 ≠ gb576) := ⟨h7_⟩
                          have NB577_589 : Aside0 (gb577 ≠ gb589) := ⟨h8_⟩
                          have NB589_577 : Aside0 (gb589 ≠ gb577) := ⟨h9_⟩
                          replace HB : Aside0 (Below w.heap.size w w35) := ⟨h10_⟩
                          clear h0_ h1_ h2_ h3_ h4_ h5_ h6_ h7_ h8_ h9_ h10_
                          have hHeld : w35.cell? ⟨gb576, 0, none⟩ = some (.bool a0_0) ∧ w35.cell? ⟨gb576, 1, none⟩ = some (.string a0_1) ∧ w35.cell? ⟨gb576, 2, none⟩ = some (.int .i64 a0_2) ∧ w35.cell? ⟨gb577, 0, none⟩ = some (.bool a1_0) ∧ w35.cell? ⟨gb577, 1, none⟩ = some (.string a1_1) ∧ w35.cell? ⟨gb577, 2, none⟩ = some (.int .i64 a1_2) := hS_
                          refine norm_ (a' := ?_) ?_ ?_
                          rotate_left
                          · simp only [putAll, Act.put, List.setIfInBounds_toArray, List.set_cons_zero, List.set_cons_succ]
                            rfl
                          refine two_ (i := 2) (j := 7) (Ni := some 16) (Nj := some 6) (bb 10 95) (bb 10 219) rfl rfl rfl rfl (two_of HT_.out (by kernel_rfl)) (by decide) (by decide) (fun K hK => ?_) (fun K hK => ?_)
                          · skip
                            refine goes_ Tryd.func36 (by kernel_rfl) rfl #[.agg #[.bool a0_0, .string a0_1, .int .i64 a0_2], .agg #[.bool a1_0, .string a1_1, .int .i64 a1_2]] (by rfl) rfl rfl MP ?_
                            with_reducible refine (arith_Sub.calls a0_0 a0_1 a0_2 a1_0 a1_1 a1_2 t583 t584 t585 _ ?side1 A5.out).mono ?_
                            (case side1 => exact Fig.Glob.below HG.out (BL HB))
                            rintro e w36 ⟨rfl, hb⟩
                            refine ⟨_, rfl, ?_⟩
                            replace HO580 := Aside0.mk (Kd.R_below (RB HO580.out) hb)
                            replace BK576 := bkb_ BK576 hb
                            replace BK577 := bkb_ BK577 hb
                            replace BK589 := bkb_ BK589 hb
                            replace HB := hbs_ HB hb
                            (try clear hb)
                            (try clear hb2)
                            (try clear hk)
                            (try clear hi)
                            refine hK.out _ _ CE (fun hHeld => ?_)
                            clear hK K
                            refine no_ (some 16) ?_
                            exact norm_ (by first | (simp only [putAll, Act.put, List.setIfInBounds_toArray, List.set_cons_zero, List.set_cons_succ]; done) | (simp only [putAll, Act.put, List.setIfInBounds_toArray, List.set_cons_zero, List.set_cons_succ]; rfl)) (hJ2_6 (gb589) _ ⟨hHeld, (RB HO580.out), (BK BK576), (BK BK577), (BK BK589), GW589.out, GE589.out, NB576_589.out, NB589_576.out, NB577_589.out, NB589_577.out, (BL HB)⟩)
                          skip
                          refine box_step ?hg (N := 6) ?hd (cs := #[.bool false, .string (⟨#[]⟩ : ByteArray), .int .i64 0]) (t := 23) ?hr ?_; (case hd => rfl); (case hg => rfl); (case hr => first | (go_simp; done) | (go_simp; rfl))
                          intro gb590 hg w36 hbox hb
                          replace HO580 := Aside0.mk (Kd.R_below (Kd.R_elderB (RB HO580.out) gb590 (Nat.le_of_eq hg.symm)) hb)
                          have BK590 := Aside0.mk (hbox)
                          have GW590 := ge_ hg HB
                          have GE590 := ge_ hg HB
                          replace HB := hbs_ HB hb
                          have NB576_590 := nb_ hg BK576
                          have NB590_576 := nc_ hg BK576
                          replace BK576 := bkb_ BK576 hb
                          have NB577_590 := nb_ hg BK577
                          have NB590_577 := nc_ hg BK577
                          replace BK577 := bkb_ BK577 hb
                          have NB589_590 := nb_ hg BK589
                          have NB590_589 := nc_ hg BK589
                          replace BK589 := bkb_ BK589 hb
                          clear hb hbox hg
                          refine hK.out _ _ CE (fun hHeld => ?_)
                          clear hK K
                          refine no_ (some 6) ?_
                          exact norm_ (by first | (simp only [putAll, Act.put, List.setIfInBounds_toArray, List.set_cons_zero, List.set_cons_succ]; done) | (simp only [putAll, Act.put, List.setIfInBounds_toArray, List.set_cons_zero, List.set_cons_succ]; rfl)) (hJ6_7 (gb589, gb590) _ ⟨hHeld, (by (with_reducible repeat (first | apply Kd.R_alloc | apply Kd.R_drewN | apply Kd.R_drew)); exact Kd.R_mono HO580.out (fun _ hk => ⟨hk.1.1, ⟨hk.1.2.1, ⟨hk.1.2.2, hk.2⟩⟩⟩)), (BK BK576), (BK BK577), (BK BK589), (BK BK590), GW589.out, GE589.out, NB576_589.out, NB589_576.out, NB577_589.out, NB589_577.out, NB590_589.out, NB589_590.out, GW590.out, GE590.out, NB576_590.out, NB590_576.out, NB577_590.out, NB590_577.out, (BL HB)⟩)
                        skip
                        rintro _ w35 ⟨hS_, h0_, h1_, h2_, h3_⟩
                        replace HO580 : Aside0 (Kd.R k23 23 w35 w.heap.size (fun k_ => k_ ≠ gb576 ∧ k_ ≠ gb577) (.slice Ao31 y578.length co31) y578) := ⟨h0_⟩
                        replace BK576 : Aside0 (w35.heap[gb576]? = some (.cells #[.bool a0_0, .string a0_1, .int .i64 a0_2] 23 (0, 0))) := ⟨h1_⟩
                        replace BK577 : Aside0 (w35.heap[gb577]? = some (.cells #[.bool a1_0, .string a1_1, .int .i64 a1_2] 23 (0, 0))) := ⟨h2_⟩
                        replace HB : Aside0 (Below w.heap.size w w35) := ⟨h3_⟩
                        clear h0_ h1_ h2_ h3_
                        have hHeld : w35.cell? ⟨gb576, 0, none⟩ = some (.bool a0_0) ∧ w35.cell? ⟨gb576, 1, none⟩ = some (.string a0_1) ∧ w35.cell? ⟨gb576, 2, none⟩ = some (.int .i64 a0_2) ∧ w35.cell? ⟨gb577, 0, none⟩ = some (.bool a1_0) ∧ w35.cell? ⟨gb577, 1, none⟩ = some (.string a1_1) ∧ w35.cell? ⟨gb577, 2, none⟩ = some (.int .i64 a1_2) := hS_
                        refine norm_ (a' := ?_) ?_ ?_
                        rotate_left
                        · simp only [putAll, Act.put, List.setIfInBounds_toArray, List.set_cons_zero, List.set_cons_succ]
                          rfl
                        refine three_ (i := 5) (j := 6) (k := 7) (Ni := some 19) (Nj := some 5) (Nk := some 6) (bb 10 63) (bb 10 95) (bb 10 159) rfl rfl rfl rfl rfl rfl (three_of HT_.out (by kernel_rfl)) (by decide) (by decide) (by decide) (fun K hK => ?_) (fun K hK => ?_) (fun K hK => ?_)
                        · skip
                          refine goes_ Tryd.func36 (by kernel_rfl) rfl #[.agg #[.bool a1_0, .string a1_1, .int .i64 a1_2], .agg #[.bool a0_0, .string a0_1, .int .i64 a0_2]] (by rfl) rfl rfl MP ?_
                          with_reducible refine (arith_Sub.calls a1_0 a1_1 a1_2 a0_0 a0_1 a0_2 t586 t587 t588 _ ?side1 A6.out).mono ?_
                          (case side1 => exact Fig.Glob.below HG.out (BL HB))
                          rintro e w36 ⟨rfl, hb⟩
                          refine ⟨_, rfl, ?_⟩
                          replace HO580 := Aside0.mk (Kd.R_below (RB HO580.out) hb)
                          replace BK576 := bkb_ BK576 hb
                          replace BK577 := bkb_ BK577 hb
                          replace HB := hbs_ HB hb
                          (try clear hb)
                          (try clear hb2)
                          (try clear hk)
                          (try clear hi)
                          refine hK.out _ _ CE (fun hHeld => ?_)
                          clear hK K
                          refine no_ (some 19) ?_
                          exact norm_ (by first | (simp only [putAll, Act.put, List.setIfInBounds_toArray, List.set_cons_zero, List.set_cons_succ]; done) | (simp only [putAll, Act.put, List.setIfInBounds_toArray, List.set_cons_zero, List.set_cons_succ]; rfl)) (hJ2_5 () _ ⟨hHeld, (RB HO580.out), (BK BK576), (BK BK577), (BL HB)⟩)
                        · skip
                          refine box_step ?hg (N := 5) ?hd (cs := #[.bool false, .string (⟨#[]⟩ : ByteArray), .int .i64 0]) (t := 23) ?hr ?_; (case hd => rfl); (case hg => rfl); (case hr => first | (go_simp; done) | (go_simp; rfl))
                          intro gb589 hg w36 hbox hb
                          replace HO580 := Aside0.mk (Kd.R_below (Kd.R_elderB (RB HO580.out) gb589 (Nat.le_of_eq hg.symm)) hb)
                          have BK589 := Aside0.mk (hbox)
                          have GW589 := ge_ hg HB
                          have GE589 := ge_ hg HB
                          replace HB := hbs_ HB hb
                          have NB576_589 := nb_ hg BK576
                          have NB589_576 := nc_ hg BK576
                          replace BK576 := bkb_ BK576 hb
                          have NB577_589 := nb_ hg BK577
                          have NB589_577 := nc_ hg BK577
                          replace BK577 := bkb_ BK577 hb
                          clear hb hbox hg
                          refine hK.out _ _ CE (fun hHeld => ?_)
                          clear hK K
                          refine no_ (some 5) ?_
                          exact norm_ (by first | (simp only [putAll, Act.put, List.setIfInBounds_toArray, List.set_cons_zero, List.set_cons_succ]; done) | (simp only [putAll, Act.put, List.setIfInBounds_toArray, List.set_cons_zero, List.set_cons_succ]; rfl)) (hJ2_6 (gb589) _ ⟨hHeld, (by (with_reducible repeat (first | apply Kd.R_alloc | apply Kd.R_drewN | apply Kd.R_drew)); exact Kd.R_mono HO580.out (fun _ hk => ⟨hk.1.1, ⟨hk.1.2, hk.2⟩⟩)), (BK BK576), (BK BK577), (BK BK589), GW589.out, GE589.out, NB576_589.out, NB589_576.out, NB577_589.out, NB589_577.out, (BL HB)⟩)
                        skip
                        refine box_step ?hg (N := 6) ?hd (cs := #[.bool false, .string (⟨#[]⟩ : ByteArray), .int .i64 0]) (t := 23) ?hr ?_; (case hd => rfl); (case hg => rfl); (case hr => first | (go_simp; done) | (go_simp; rfl))
                        intro gb590 hg w36 hbox hb
                        replace HO580 := Aside0.mk (Kd.R_below (Kd.R_elderB (RB HO580.out) gb590 (Nat.le_of_eq hg.symm)) hb)
                        have BK590 := Aside0.mk (hbox)
                        have GW590 := ge_ hg HB
                        have GE590 := ge_ hg HB
                        replace HB := hbs_ HB hb
                        have NB576_590 := nb_ hg BK576
                        have NB590_576 := nc_ hg BK576
                        replace BK576 := bkb_ BK576 hb
                        have NB577_590 := nb_ hg BK577
                        have NB590_577 := nc_ hg BK577
                        replace BK577 := bkb_ BK577 hb
                        clear hb hbox hg
                        refine hK.out _ _ CE (fun hHeld => ?_)
                        clear hK K
                        refine no_ (some 6) ?_
                        exact norm_ (by first | (simp only [putAll, Act.put, List.setIfInBounds_toArray, List.set_cons_zero, List.set_cons_succ]; done) | (simp only [putAll, Act.put, List.setIfInBounds_toArray, List.set_cons_zero, List.set_cons_succ]; rfl)) (hJ2_7 (gb590) _ ⟨hHeld, (by (with_reducible repeat (first | apply Kd.R_alloc | apply Kd.R_drewN | apply Kd.R_drew)); exact Kd.R_mono HO580.out (fun _ hk => ⟨hk.1.1, ⟨hk.1.2, hk.2⟩⟩)), (BK BK576), (BK BK577), (BK BK590), GW590.out, GE590.out, NB576_590.out, NB590_576.out, NB577_590.out, NB590_577.out, (BL HB)⟩)
                      skip
                      rintro ⟨gb589, gb590⟩ w36 ⟨hS_, h0_, h1_, h2_, h3_, h4_, h5_, h6_, h7_, h8_, h9_, h10_, h11_, h12_, h13_, h14_, h15_, h16_, h17_, h18_, h19_⟩
                      replace HO580 : Aside0 (Kd.R k23 23 w36 w.heap.size (fun k_ => k_ ≠ gb576 ∧ k_ ≠ gb577 ∧ k_ ≠ gb589 ∧ k_ ≠ gb590) (.slice Ao31 y578.length co31) y578) := ⟨h0_⟩
                      replace BK576 : Aside0 (w36.heap[gb576]? = some (.cells #[.bool a0_0, .string a0_1, .int .i64 a0_2] 23 (0, 0))) := ⟨h1_⟩
                      replace BK577 : Aside0 (w36.heap[gb577]? = some (.cells #[.bool a1_0, .string a1_1, .int .i64 a1_2] 23 (0, 0))) := ⟨h2_⟩
                      have BK589 : Aside0 (w36.heap[gb589]? = some (.cells #[.bool false, .string (⟨#[]⟩ : ByteArray), .int .i64 0] 23 (0, 0))) := ⟨h3_⟩
                      have BK590 : Aside0 (w36.heap[gb590]? = some (.cells #[.bool false, .string (⟨#[]⟩ : ByteArray), .int .i64 0] 23 (0, 0))) := ⟨h4_⟩
                      have GW589 : Aside0 (w.heap.size ≤ gb589) := ⟨h5_⟩
                      have GE589 : Aside0 (w.heap.size ≤ gb589) := ⟨h6_⟩
                      have NB576_589 : Aside0 (gb576 ≠ gb589) := ⟨h7_⟩
                      have NB589_576 : Aside0 (gb589 ≠ gb576) := ⟨h8_⟩
                      have NB577_589 : Aside0 (gb577 ≠ gb589) := ⟨h9_⟩
                      have NB589_577 : Aside0 (gb589 ≠ gb577) := ⟨h10_⟩
                      have NB590_589 : Aside0 (gb590 ≠ gb589) := ⟨h11_⟩
                      have NB589_590 : Aside0 (gb589 ≠ gb590) := ⟨h12_⟩
                      have GW590 : Aside0 (w.heap.size ≤ gb590) := ⟨h13_⟩
                      have GE590 : Aside0 (w.heap.size ≤ gb590) := ⟨h14_⟩
                      have NB576_590 : Aside0 (gb576 ≠ gb590) := ⟨h15_⟩
                      have NB590_576 : Aside0 (gb590 ≠ gb576) := ⟨h16_⟩
                      have NB577_590 : Aside0 (gb577 ≠ gb590) := ⟨h17_⟩
                      have NB590_577 : Aside0 (gb590 ≠ gb577) := ⟨h18_⟩
                      replace HB : Aside0 (Below w.heap.size w w36) := ⟨h19_⟩
                      clear h0_ h1_ h2_ h3_ h4_ h5_ h6_ h7_ h8_ h9_ h10_ h11_ h12_ h13_ h14_ h15_ h16_ h17_ h18_ h19_
                      have hHeld : w36.cell? ⟨gb576, 0, none⟩ = some (.bool a0_0) ∧ w36.cell? ⟨gb576, 1, none⟩ = some (.string a0_1) ∧ w36.cell? ⟨gb576, 2, none⟩ = some (.int .i64 a0_2) ∧ w36.cell? ⟨gb577, 0, none⟩ = some (.bool a1_0) ∧ w36.cell? ⟨gb577, 1, none⟩ = some (.string a1_1) ∧ w36.cell? ⟨gb577, 2, none⟩ = some (.int .i64 a1_2) := hS_
                      refine norm_ (a' := ?_) ?_ ?_
                      rotate_left
                      · simp only [putAll, Act.put, List.setIfInBounds_toArray, List.set_cons_zero, List.set_cons_succ]
                        rfl
                      refine one_ (i := 2) (N := some 16) (bb 10 223) rfl rfl (one_of HT_.out (by kernel_rfl)) (by decide) (fun K hK => ?_)
                      refine goes_ Tryd.func36 (by kernel_rfl) rfl #[.agg #[.bool a0_0, .string a0_1, .int .i64 a0_2], .agg #[.bool a1_0, .string a1_1, .int .i64 a1_2]] (by rfl) rfl rfl MP ?_
                      with_reducible refine (arith_Sub.calls a0_0 a0_1 a0_2 a1_0 a1_1 a1_2 t583 t584 t585 _ ?side1 A5.out).mono ?_
                      (case side1 => exact Fig.Glob.below HG.out (BL HB))
                      rintro e w37 ⟨rfl, hb⟩
                      refine ⟨_, rfl, ?_⟩
                      replace HO580 := Aside0.mk (Kd.R_below (RB HO580.out) hb)
                      replace BK576 := bkb_ BK576 hb
                      replace BK577 := bkb_ BK577 hb
                      replace BK589 := bkb_ BK589 hb
                      replace BK590 := bkb_ BK590 hb
                      replace HB := hbs_ HB hb
                      (try clear hb)
                      (try clear hb2)
                      (try clear hk)
                      (try clear hi)
                      refine hK.out _ _ CE (fun hHeld => ?_)
                      clear hK K
                      refine no_ (some 16) ?_
                      exact norm_ (by first | (simp only [putAll, Act.put, List.setIfInBounds_toArray, List.set_cons_zero, List.set_cons_succ]; done) | (simp only [putAll, Act.put, List.setIfInBounds_toArray, List.set_cons_zero, List.set_cons_succ]; rfl)) (hJ2_6_7 (gb589, gb590) _ ⟨hHeld, (RB HO580.out), (BK BK576), (BK BK577), (BK BK589), (BK BK590), GW589.out, GE589.out, NB576_589.out, NB589_576.out, NB577_589.out, NB589_577.out, NB590_589.out, NB589_590.out, GW590.out, GE590.out, NB576_590.out, NB590_576.out, NB577_590.out, NB590_577.out, (BL HB)⟩)
                    skip
                    rintro gb590 w36 ⟨hS_, h0_, h1_, h2_, h3_, h4_, h5_, h6_, h7_, h8_, h9_, h10_⟩
                    replace HO580 : Aside0 (Kd.R k23 23 w36 w.heap.size (fun k_ => k_ ≠ gb576 ∧ k_ ≠ gb577 ∧ k_ ≠ gb590) (.slice Ao31 y578.length co31) y578) := ⟨h0_⟩
                    replace BK576 : Aside0 (w36.heap[gb576]? = some (.cells #[.bool a0_0, .string a0_1, .int .i64 a0_2] 23 (0, 0))) := ⟨h1_⟩
                    replace BK577 : Aside0 (w36.heap[gb577]? = some (.cells #[.bool a1_0, .string a1_1, .int .i64 a1_2] 23 (0, 0))) := ⟨h2_⟩
                    have BK590 : Aside0 (w36.heap[gb590]? = some (.cells #[.bool false, .string (⟨#[]⟩ : ByteArray), .int .i64 0] 23 (0, 0))) := ⟨h3_⟩
                    have GW590 : Aside0 (w.heap.size ≤ gb590) := ⟨h4_⟩
                    have GE590 : Aside0 (w.heap.size ≤ gb590) := ⟨h5_⟩
                    have NB576_590 : Aside0 (gb576 ≠ gb590) := ⟨h6_⟩
                    have NB590_576 : Aside0 (gb590 ≠ gb576) := ⟨h7_⟩
                    have NB577_590 : Aside0 (gb577 ≠ gb590) := ⟨h8_⟩
                    have NB590_577 : Aside0 (gb590 ≠ gb577) := ⟨h9_⟩
                    replace HB : Aside0 (Below w.heap.size w w36) := ⟨h10_⟩
                    clear h0_ h1_ h2_ h3_ h4_ h5_ h6_ h7_ h8_ h9_ h10_
                    have hHeld : w36.cell? ⟨gb576, 0, none⟩ = some (.bool a0_0) ∧ w36.cell? ⟨gb576, 1, none⟩ = some (.string a0_1) ∧ w36.cell? ⟨gb576, 2, none⟩ = some (.int .i64 a0_2) ∧ w36.cell? ⟨gb577, 0, none⟩ = some (.bool a1_0) ∧ w36.cell? ⟨gb577, 1, none⟩ = some (.string a1_1) ∧ w36.cell? ⟨gb577, 2, none⟩ = some (.int .i64 a1_2) := hS_
                    refine norm_ (a' := ?_) ?_ ?_
                    rotate_left
                    · simp only [putAll, Act.put, List.setIfInBounds_toArray, List.set_cons_zero, List.set_cons_succ]
                      rfl
                    refine two_ (i := 5) (j := 6) (Ni := some 19) (Nj := some 5) (bb 10 191) (bb 10 223) rfl rfl rfl rfl (two_of HT_.out (by kernel_rfl)) (by decide) (by decide) (fun K hK => ?_) (fun K hK => ?_)
                    · skip
                      refine goes_ Tryd.func36 (by kernel_rfl) rfl #[.agg #[.bool a1_0, .string a1_1, .int .i64 a1_2], .agg #[.bool a0_0, .string a0_1, .int .i64 a0_2]] (by rfl) rfl rfl MP ?_
                      with_reducible refine (arith_Sub.calls a1_0 a1_1 a1_2 a0_0 a0_1 a0_2 t586 t587 t588 _ ?side1 A6.out).mono ?_
                      (case side1 => exact Fig.Glob.below HG.out (BL HB))
                      rintro e w37 ⟨rfl, hb⟩
                      refine ⟨_, rfl, ?_⟩
                      replace HO580 := Aside0.mk (Kd.R_below (RB HO580.out) hb)
                      replace BK576 := bkb_ BK576 hb
                      replace BK577 := bkb_ BK577 hb
                      replace BK590 := bkb_ BK590 hb
                      replace HB := hbs_ HB hb
                      (try clear hb)
                      (try clear hb2)
                      (try clear hk)
                      (try clear hi)
                      refine hK.out _ _ CE (fun hHeld => ?_)
                      clear hK K
                      refine no_ (some 19) ?_
                      exact norm_ (by first | (simp only [putAll, Act.put, List.setIfInBounds_toArray, List.set_cons_zero, List.set_cons_succ]; done) | (simp only [putAll, Act.put, List.setIfInBounds_toArray, List.set_cons_zero, List.set_cons_succ]; rfl)) (hJ2_5_7 (gb590) _ ⟨hHeld, (RB HO580.out), (BK BK576), (BK BK577), (BK BK590), GW590.out, GE590.out, NB576_590.out, NB590_576.out, NB577_590.out, NB590_577.out, (BL HB)⟩)
                    skip
                    refine box_step ?hg (N := 5) ?hd (cs := #[.bool false, .string (⟨#[]⟩ : ByteArray), .int .i64 0]) (t := 23) ?hr ?_; (case hd => rfl); (case hg => rfl); (case hr => first | (go_simp; done) | (go_simp; rfl))
                    intro gb589 hg w37 hbox hb
                    replace HO580 := Aside0.mk (Kd.R_below (Kd.R_elderB (RB HO580.out) gb589 (Nat.le_of_eq hg.symm)) hb)
                    have BK589 := Aside0.mk (hbox)
                    have GW589 := ge_ hg HB
                    have GE589 := ge_ hg HB
                    replace HB := hbs_ HB hb
                    have NB576_589 := nb_ hg BK576
                    have NB589_576 := nc_ hg BK576
                    replace BK576 := bkb_ BK576 hb
                    have NB577_589 := nb_ hg BK577
                    have NB589_577 := nc_ hg BK577
                    replace BK577 := bkb_ BK577 hb
                    have NB590_589 := nb_ hg BK590
                    have NB589_590 := nc_ hg BK590
                    replace BK590 := bkb_ BK590 hb
                    clear hb hbox hg
                    refine hK.out _ _ CE (fun hHeld => ?_)
                    clear hK K
                    refine no_ (some 5) ?_
                    exact norm_ (by first | (simp only [putAll, Act.put, List.setIfInBounds_toArray, List.set_cons_zero, List.set_cons_succ]; done) | (simp only [putAll, Act.put, List.setIfInBounds_toArray, List.set_cons_zero, List.set_cons_succ]; rfl)) (hJ2_6_7 (gb589, gb590) _ ⟨hHeld, (by (with_reducible repeat (first | apply Kd.R_alloc | apply Kd.R_drewN | apply Kd.R_drew)); exact Kd.R_mono HO580.out (fun _ hk => ⟨hk.1.1, ⟨hk.1.2.1, ⟨hk.2, hk.1.2.2⟩⟩⟩)), (BK BK576), (BK BK577), (BK BK589), (BK BK590), GW589.out, GE589.out, NB576_589.out, NB589_576.out, NB577_589.out, NB589_577.out, NB590_589.out, NB589_590.out, GW590.out, GE590.out, NB576_590.out, NB590_576.out, NB577_590.out, NB590_577.out, (BL HB)⟩)
                  skip
                  rintro gb589 w36 ⟨hS_, h0_, h1_, h2_, h3_, h4_, h5_, h6_, h7_, h8_, h9_, h10_⟩
                  replace HO580 : Aside0 (Kd.R k23 23 w36 w.heap.size (fun k_ => k_ ≠ gb576 ∧ k_ ≠ gb577 ∧ k_ ≠ gb589) (.slice Ao31 y578.length co31) y578) := ⟨h0_⟩
                  replace BK576 : Aside0 (w36.heap[gb576]? = some (.cells #[.bool a0_0, .string a0_1, .int .i64 a0_2] 23 (0, 0))) := ⟨h1_⟩
                  replace BK577 : Aside0 (w36.heap[gb577]? = some (.cells #[.bool a1_0, .string a1_1, .int .i64 a1_2] 23 (0, 0))) := ⟨h2_⟩
                  have BK589 : Aside0 (w36.heap[gb589]? = some (.cells #[.bool false, .string (⟨#[]⟩ : ByteArray), .int .i64 0] 23 (0, 0))) := ⟨h3_⟩
                  have GW589 : Aside0 (w.heap.size ≤ gb589) := ⟨h4_⟩
                  have GE589 : Aside0 (w.heap.size ≤ gb589) := ⟨h5_⟩
                  have NB576_589 : Aside0 (gb576 ≠ gb589) := ⟨h6_⟩
                  have NB589_576 : Aside0 (gb589 ≠ gb576) := ⟨h7_⟩
                  have NB577_589 : Aside0 (gb577 ≠ gb589) := ⟨h8_⟩
                  have NB589_577 : Aside0 (gb589 ≠ gb577) := ⟨h9_⟩
                  replace HB : Aside0 (Below w.heap.size w w36) := ⟨h10_⟩
                  clear h0_ h1_ h2_ h3_ h4_ h5_ h6_ h7_ h8_ h9_ h10_
                  have hHeld : w36.cell? ⟨gb576, 0, none⟩ = some (.bool a0_0) ∧ w36.cell? ⟨gb576, 1, none⟩ = some (.string a0_1) ∧ w36.cell? ⟨gb576, 2, none⟩ = some (.int .i64 a0_2) ∧ w36.cell? ⟨gb577, 0, none⟩ = some (.bool a1_0) ∧ w36.cell? ⟨gb577, 1, none⟩ = some (.string a1_1) ∧ w36.cell? ⟨gb577, 2, none⟩ = some (.int .i64 a1_2) := hS_
                  refine norm_ (a' := ?_) ?_ ?_
                  rotate_left
                  · simp only [putAll, Act.put, List.setIfInBounds_toArray, List.set_cons_zero, List.set_cons_succ]
                    rfl
                  refine two_ (i := 5) (j := 7) (Ni := some 19) (Nj := some 6) (bb 10 127) (bb 10 223) rfl rfl rfl rfl (two_of HT_.out (by kernel_rfl)) (by decide) (by decide) (fun K hK => ?_) (fun K hK => ?_)
                  · skip
                    refine goes_ Tryd.func36 (by kernel_rfl) rfl #[.agg #[.bool a1_0, .string a1_1, .int .i64 a1_2], .agg #[.bool a0_0, .string a0_1, .int .i64 a0_2]] (by rfl) rfl rfl MP ?_
                    with_reducible refine (arith_Sub.calls a1_0 a1_1 a1_2 a0_0 a0_1 a0_2 t586 t587 t588 _ ?side1 A6.out).mono ?_
                    (case side1 => exact Fig.Glob.below HG.out (BL HB))
                    rintro e w37 ⟨rfl, hb⟩
                    refine ⟨_, rfl, ?_⟩
                    replace HO580 := Aside0.mk (Kd.R_below (RB HO580.out) hb)
                    replace BK576 := bkb_ BK576 hb
                    replace BK577 := bkb_ BK577 hb
                    replace BK589 := bkb_ BK589 hb
                    replace HB := hbs_ HB hb
                    (try clear hb)
                    (try clear hb2)
                    (try clear hk)
                    (try clear hi)
                    refine hK.out _ _ CE (fun hHeld => ?_)
                    clear hK K
                    refine no_ (some 19) ?_
                    exact norm_ (by first | (simp only [putAll, Act.put, List.setIfInBounds_toArray, List.set_cons_zero, List.set_cons_succ]; done) | (simp only [putAll, Act.put, List.setIfInBounds_toArray, List.set_cons_zero, List.set_cons_succ]; rfl)) (hJ2_5_6 (gb589) _ ⟨hHeld, (RB HO580.out), (BK BK576), (BK BK577), (BK BK589), GW589.out, GE589.out, NB576_589.out, NB589_576.out, NB577_589.out, NB589_577.out, (BL HB)⟩)
                  skip
                  refine box_step ?hg (N := 6) ?hd (cs := #[.bool false, .string (⟨#[]⟩ : ByteArray), .int .i64 0]) (t := 23) ?hr ?_; (case hd => rfl); (case hg => rfl); (case hr => first | (go_simp; done) | (go_simp; rfl))
                  intro gb590 hg w37 hbox hb
                  replace HO580 := Aside0.mk (Kd.R_below (Kd.R_elderB (RB HO580.out) gb590 (Nat.le_of_eq hg.symm)) hb)
                  have BK590 := Aside0.mk (hbox)
                  have GW590 := ge_ hg HB
                  have GE590 := ge_ hg HB
                  replace HB := hbs_ HB hb
                  have NB576_590 := nb_ hg BK576
                  have NB590_576 := nc_ hg BK576
                  replace BK576 := bkb_ BK576 hb
                  have NB577_590 := nb_ hg BK577
                  have NB590_577 := nc_ hg BK577
                  replace BK577 := bkb_ BK577 hb
                  have NB589_590 := nb_ hg BK589
                  have NB590_589 := nc_ hg BK589
                  replace BK589 := bkb_ BK589 hb
                  clear hb hbox hg
                  refine hK.out _ _ CE (fun hHeld => ?_)
                  clear hK K
                  refine no_ (some 6) ?_
                  exact norm_ (by first | (simp only [putAll, Act.put, List.setIfInBounds_toArray, List.set_cons_zero, List.set_cons_succ]; done) | (simp only [putAll, Act.put, List.setIfInBounds_toArray, List.set_cons_zero, List.set_cons_succ]; rfl)) (hJ2_6_7 (gb589, gb590) _ ⟨hHeld, (by (with_reducible repeat (first | apply Kd.R_alloc | apply Kd.R_drewN | apply Kd.R_drew)); exact Kd.R_mono HO580.out (fun _ hk => ⟨hk.1.1, ⟨hk.1.2.1, ⟨hk.1.2.2, hk.2⟩⟩⟩)), (BK BK576), (BK BK577), (BK BK589), (BK BK590), GW589.out, GE589.out, NB576_589.out, NB589_576.out, NB577_589.out, NB589_577.out, NB590_589.out, NB589_590.out, GW590.out, GE590.out, NB576_590.out, NB590_576.out, NB577_590.out, NB590_577.out, (BL HB)⟩)
                skip
                rintro _ w36 ⟨hS_, h0_, h1_, h2_, h3_⟩
                replace HO580 : Aside0 (Kd.R k23 23 w36 w.heap.size (fun k_ => k_ ≠ gb576 ∧ k_ ≠ gb577) (.slice Ao31 y578.length co31) y578) := ⟨h0_⟩
                replace BK576 : Aside0 (w36.heap[gb576]? = some (.cells #[.bool a0_0, .string a0_1, .int .i64 a0_2] 23 (0, 0))) := ⟨h1_⟩
                replace BK577 : Aside0 (w36.heap[gb577]? = some (.cells #[.bool a1_0, .string a1_1, .int .i64 a1_2] 23 (0, 0))) := ⟨h2_⟩
                replace HB : Aside0 (Below w.heap.size w w36) := ⟨h3_⟩
                clear h0_ h1_ h2_ h3_
                have hHeld : w36.cell? ⟨gb576, 0, none⟩ = some (.bool a0_0) ∧ w36.cell? ⟨gb576, 1, none⟩ = some (.string a0_1) ∧ w36.cell? ⟨gb576, 2, none⟩ = some (.int .i64 a0_2) ∧ w36.cell? ⟨gb577, 0, none⟩ = some (.bool a1_0) ∧ w36.cell? ⟨gb577, 1, none⟩ = some (.string a1_1) ∧ w36.cell? ⟨gb577, 2, none⟩ = some (.int .i64 a1_2) := hS_
                refine norm_ (a' := ?_) ?_ ?_
                rotate_left
                · simp only [putAll, Act.put, List.setIfInBounds_toArray, List.set_cons_zero, List.set_cons_succ]
                  rfl
                refine two_ (i := 6) (j := 7) (Ni := some 5) (Nj := some 6) (bb 10 127) (bb 10 191) rfl rfl rfl rfl (two_of HT_.out (by kernel_rfl)) (by decide) (by decide) (fun K hK => ?_) (fun K hK => ?_)
                · skip
                  refine box_step ?hg (N := 5) ?hd (cs := #[.bool false, .string (⟨#[]⟩ : ByteArray), .int .i64 0]) (t := 23) ?hr ?_; (case hd => rfl); (case hg => rfl); (case hr => first | (go_simp; done) | (go_simp; rfl))
                  intro gb589 hg w37 hbox hb
                  replace HO580 := Aside0.mk (Kd.R_below (Kd.R_elderB (RB HO580.out) gb589 (Nat.le_of_eq hg.symm)) hb)
                  have BK589 := Aside0.mk (hbox)
                  have GW589 := ge_ hg HB
                  have GE589 := ge_ hg HB
                  replace HB := hbs_ HB hb
                  have NB576_589 := nb_ hg BK576
                  have NB589_576 := nc_ hg BK576
                  replace BK576 := bkb_ BK576 hb
                  have NB577_589 := nb_ hg BK577
                  have NB589_577 := nc_ hg BK577
                  replace BK577 := bkb_ BK577 hb
                  clear hb hbox hg
                  refine hK.out _ _ CE (fun hHeld => ?_)
                  clear hK K
                  refine no_ (some 5) ?_
                  exact norm_ (by first | (simp only [putAll, Act.put, List.setIfInBounds_toArray, List.set_cons_zero, List.set_cons_succ]; done) | (simp only [putAll, Act.put, List.setIfInBounds_toArray, List.set_cons_zero, List.set_cons_succ]; rfl)) (hJ2_5_6 (gb589) _ ⟨hHeld, (by (with_reducible repeat (first | apply Kd.R_alloc | apply Kd.R_drewN | apply Kd.R_drew)); exact Kd.R_mono HO580.out (fun _ hk => ⟨hk.1.1, ⟨hk.1.2, hk.2⟩⟩)), (BK BK576), (BK BK577), (BK BK589), GW589.out, GE589.out, NB576_589.out, NB589_576.out, NB577_589.out, NB589_577.out, (BL HB)⟩)
                skip
                refine box_step ?hg (N := 6) ?hd (cs := #[.bool false, .string (⟨#[]⟩ : ByteArray), .int .i64 0]) (t := 23) ?hr ?_; (case hd => rfl); (case hg => rfl); (case hr => first | (go_simp; done) | (go_simp; rfl))
                intro gb590 hg w37 hbox hb
                replace HO580 := Aside0.mk (Kd.R_below (Kd.R_elderB (RB HO580.out) gb590 (Nat.le_of_eq hg.symm)) hb)
                have BK590 := Aside0.mk (hbox)
                have GW590 := ge_ hg HB
                have GE590 := ge_ hg HB
                replace HB := hbs_ HB hb
                have NB576_590 := nb_ hg BK576
                have NB590_576 := nc_ hg BK576
                replace BK576 := bkb_ BK576 hb
                have NB577_590 := nb_ hg BK577
                have NB590_577 := nc_ hg BK577
                replace BK577 := bkb_ BK577 hb
                clear hb hbox hg
                refine hK.out _ _ CE (fun hHeld => ?_)
                clear hK K
                refine no_ (some 6) ?_
                exact norm_ (by first | (simp only [putAll, Act.put, List.setIfInBounds_toArray, List.set_cons_zero, List.set_cons_succ]; done) | (simp only [putAll, Act.put, List.setIfInBounds_toArray, List.set_cons_zero, List.set_cons_succ]; rfl)) (hJ2_5_7 (gb590) _ ⟨hHeld, (by (with_reducible repeat (first | apply Kd.R_alloc | apply Kd.R_drewN | apply Kd.R_drew)); exact Kd.R_mono HO580.out (fun _ hk => ⟨hk.1.1, ⟨hk.1.2, hk.2⟩⟩)), (BK BK576), (BK BK577), (BK BK590), GW590.out, GE590.out, NB576_590.out, NB590_576.out, NB577_590.out, NB590_577.out, (BL HB)⟩)
              skip
              rintro ⟨gb589, gb590⟩ w37 ⟨hS_, h0_, h1_, h2_, h3_, h4_, h5_, h6_, h7_, h8_, h9_, h10_, h11_, h12_, h13_, h14_, h15_, h16_, h17_, h18_, h19_⟩
              replace HO580 : Aside0 (Kd.R k23 23 w37 w.heap.size (fun k_ => k_ ≠ gb576 ∧ k_ ≠ gb577 ∧ k_ ≠ gb589 ∧ k_ ≠ gb590) (.slice Ao31 y578.length co31) y578) := ⟨h0_⟩
              replace BK576 : Aside0 (w37.heap[gb576]? = some (.cells #[.bool a0_0, .string a0_1, .int .i64 a0_2] 23 (0, 0))) := ⟨h1_⟩
              replace BK577 : Aside0 (w37.heap[gb577]? = some (.cells #[.bool a1_0, .string a1_1, .int .i64 a1_2] 23 (0, 0))) := ⟨h2_⟩
              have BK589 : Aside0 (w37.heap[gb589]? = some (.cells #[.bool false, .string (⟨#[]⟩ : ByteArray), .int .i64 0] 23 (0, 0))) := ⟨h3_⟩
              have BK590 : Aside0 (w37.heap[gb590]? = some (.cells #[.bool false, .string (⟨#[]⟩ : ByteArray), .int .i64 0] 23 (0, 0))) := ⟨h4_⟩
              have GW589 : Aside0 (w.heap.size ≤ gb589) := ⟨h5_⟩
              have GE589 : Aside0 (w.heap.size ≤ gb589) := ⟨h6_⟩
              have NB576_589 : Aside0 (gb576 ≠ gb589) := ⟨h7_⟩
              have NB589_576 : Aside0 (gb589 ≠ gb576) := ⟨h8_⟩
              have NB577_589 : Aside0 (gb577 ≠ gb589) := ⟨h9_⟩
              have NB589_577 : Aside0 (gb589 ≠ gb577) := ⟨h10_⟩
              have NB590_589 : Aside0 (gb590 ≠ gb589) := ⟨h11_⟩
              have NB589_590 : Aside0 (gb589 ≠ gb590) := ⟨h12_⟩
              have GW590 : Aside0 (w.heap.size ≤ gb590) := ⟨h13_⟩
              have GE590 : Aside0 (w.heap.size ≤ gb590) := ⟨h14_⟩
              have NB576_590 : Aside0 (gb576 ≠ gb590) := ⟨h15_⟩
              have NB590_576 : Aside0 (gb590 ≠ gb576) := ⟨h16_⟩
              have NB577_590 : Aside0 (gb577 ≠ gb590) := ⟨h17_⟩
              have NB590_577 : Aside0 (gb590 ≠ gb577) := ⟨h18_⟩
              replace HB : Aside0 (Below w.heap.size w w37) := ⟨h19_⟩
              clear h0_ h1_ h2_ h3_ h4_ h5_ h6_ h7_ h8_ h9_ h10_ h11_ h12_ h13_ h14_ h15_ h16_ h17_ h18_ h19_
              have hHeld : w37.cell? ⟨gb576, 0, none⟩ = some (.bool a0_0) ∧ w37.cell? ⟨gb576, 1, none⟩ = some (.string a0_1) ∧ w37.cell? ⟨gb576, 2, none⟩ = some (.int .i64 a0_2) ∧ w37.cell? ⟨gb577, 0, none⟩ = some (.bool a1_0) ∧ w37.cell? ⟨gb577, 1, none⟩ = some (.string a1_1) ∧ w37.cell? ⟨gb577, 2, none⟩ = some (.int .i64 a1_2) := hS_
              refine norm_ (a' := ?_) ?_ ?_
              rotate_left
              · simp only [putAll, Act.put, List.setIfInBounds_toArray, List.set_cons_zero, List.set_cons_succ]
                rfl
              refine one_ (i := 5) (N := some 19) (bb 10 255) rfl rfl (one_of HT_.out (by kernel_rfl)) (by decide) (fun K hK => ?_)
              refine goes_ Tryd.func36 (by kernel_rfl) rfl #[.agg #[.bool a1_0, .string a1_1, .int .i64 a1_2], .agg #[.bool a0_0, .string a0_1, .int .i64 a0_2]] (by rfl) rfl rfl MP ?_
              with_reducible refine (arith_Sub.calls a1_0 a1_1 a1_2 a0_0 a0_1 a0_2 t586 t587 t588 _ ?side1 A6.out).mono ?_
              (case side1 => exact Fig.Glob.below HG.out (BL HB))
              rintro e w38 ⟨rfl, hb⟩
              refine ⟨_, rfl, ?_⟩
              replace HO580 := Aside0.mk (Kd.R_below (RB HO580.out) hb)
              replace BK576 := bkb_ BK576 hb
              replace BK577 := bkb_ BK577 hb
              replace BK589 := bkb_ BK589 hb
              replace BK590 := bkb_ BK590 hb
              replace HB := hbs_ HB hb
              (try clear hb)
              (try clear hb2)
              (try clear hk)
              (try clear hi)
              refine hK.out _ _ CE (fun hHeld => ?_)
              clear hK K
              refine no_ (some 19) ?_
              exact norm_ (by first | (simp only [putAll, Act.put, List.setIfInBounds_toArray, List.set_cons_zero, List.set_cons_succ]; done) | (simp only [putAll, Act.put, List.setIfInBounds_toArray, List.set_cons_zero, List.set_cons_succ]; rfl)) (hJ2_5_6_7 (gb589, gb590) _ ⟨hHeld, (RB HO580.out), (BK BK576), (BK BK577), (BK BK589), (BK BK590), GW589.out, GE589.out, NB576_589.out, NB589_576.out, NB577_589.out, NB589_577.out, NB590_589.out, NB589_590.out, GW590.out, GE590.out, NB576_590.out, NB590_576.out, NB577_590.out, NB590_577.out, (BL HB)⟩)
            skip
            rintro gb590 w37 ⟨hS_, h0_, h1_, h2_, h3_, h4_, h5_, h6_, h7_, h8_, h9_, h10_⟩
            replace HO580 : Aside0 (Kd.R k23 23 w37 w.heap.size (fun k_ => k_ ≠ gb576 ∧ k_ ≠ gb577 ∧ k_ ≠ gb590) (.slice Ao31 y578.length co31) y578) := ⟨h0_⟩
            replace BK576 : Aside0 (w37.heap[gb576]? = some (.cells #[.bool a0_0, .string a0_1, .int .i64 a0_2] 23 (0, 0))) := ⟨h1_⟩
            replace BK577 : Aside0 (w37.heap[gb577]? = some (.cells #[.bool a1_0, .string a1_1, .int .i64 a1_2] 23 (0, 0))) := ⟨h2_⟩
            have BK590 : Aside0 (w37.heap[gb590]? = some (.cells #[.bool false, .string (⟨#[]⟩ : ByteArray), .int .i64 0] 23 (0, 0))) := ⟨h3_⟩
            have GW590 : Aside0 (w.heap.size ≤ gb590) := ⟨h4_⟩
            have GE590 : Aside0 (w.heap.size ≤ gb590) := ⟨h5_⟩
            have NB576_590 : Aside0 (gb576 ≠ gb590) := ⟨h6_⟩
            have NB590_576 : Aside0 (gb590 ≠ gb576) := ⟨h7_⟩
            have NB577_590 : Aside0 (gb577 ≠ gb590) := ⟨h8_⟩
            have NB590_577 : Aside0 (gb590 ≠ gb577) := ⟨h9_⟩
            replace HB : Aside0 (Below w.heap.size w w37) := ⟨h10_⟩
            clear h0_ h1_ h2_ h3_ h4_ h5_ h6_ h7_ h8_ h9_ h10_
            have hHeld : w37.cell? ⟨gb576, 0, none⟩ = some (.bool a0_0) ∧ w37.cell? ⟨gb576, 1, none⟩ = some (.string a0_1) ∧ w37.cell? ⟨gb576, 2, none⟩ = some (.int .i64 a0_2) ∧ w37.cell? ⟨gb577, 0, none⟩ = some (.bool a1_0) ∧ w37.cell? ⟨gb577, 1, none⟩ = some (.string a1_1) ∧ w37.cell? ⟨gb577, 2, none⟩ = some (.int .i64 a1_2) := hS_
            refine norm_ (a' := ?_) ?_ ?_
            rotate_left
            · simp only [putAll, Act.put, List.setIfInBounds_toArray, List.set_cons_zero, List.set_cons_succ]
              rfl
            refine one_ (i := 6) (N := some 5) (bb 10 255) rfl rfl (one_of HT_.out (by kernel_rfl)) (by decide) (fun K hK => ?_)
            refine box_step ?hg (N := 5) ?hd (cs := #[.bool false, .string (⟨#[]⟩ : ByteArray), .int .i64 0]) (t := 23) ?hr ?_; (case hd => rfl); (case hg => rfl); (case hr => first | (go_simp; done) | (go_simp; rfl))
            intro gb589 hg w38 hbox hb
            replace HO580 := Aside0.mk (Kd.R_below (Kd.R_elderB (RB HO580.out) gb589 (Nat.le_of_eq hg.symm)) hb)
            have BK589 := Aside0.mk (hbox)
            have GW589 := ge_ hg HB
            have GE589 := ge_ hg HB
            replace HB := hbs_ HB hb
            have NB576_589 := nb_ hg BK576
            have NB589_576 := nc_ hg BK576
            replace BK576 := bkb_ BK576 hb
            have NB577_589 := nb_ hg BK577
            have NB589_577 := nc_ hg BK577
            replace BK577 := bkb_ BK577 hb
            have NB590_589 := nb_ hg BK590
            have NB589_590 := nc_ hg BK590
            replace BK590 := bkb_ BK590 hb
            clear hb hbox hg
            refine hK.out _ _ CE (fun hHeld => ?_)
            clear hK K
            refine no_ (some 5) ?_
            exact norm_ (by first | (simp only [putAll, Act.put, List.setIfInBounds_toArray, List.set_cons_zero, List.set_cons_succ]; done) | (simp only [putAll, Act.put, List.setIfInBounds_toArray, List.set_cons_zero, List.set_cons_succ]; rfl)) (hJ2_5_6_7 (gb589, gb590) _ ⟨hHeld, (by (with_reducible repeat (first | apply Kd.R_alloc | apply Kd.R_drewN | apply Kd.R_drew)); exact Kd.R_mono HO580.out (fun _ hk => ⟨hk.1.1, ⟨hk.1.2.1, ⟨hk.2, hk.1.2.2⟩⟩⟩)), (BK BK576), (BK BK577), (BK BK589), (BK BK590), GW589.out, GE589.out, NB576_589.out, NB589_576.out, NB577_589.out, NB589_577.out, NB590_589.out, NB589_590.out, GW590.out, GE590.out, NB576_590.out, NB590_576.out, NB577_590.out, NB590_577.out, (BL HB)⟩)
          skip
          rintro gb589 w37 ⟨hS_, h0_, h1_, h2_, h3_, h4_, h5_, h6_, h7_, h8_, h9_, h10_⟩
          replace HO580 : Aside0 (Kd.R k23 23 w37 w.heap.size (fun k_ => k_ ≠ gb576 ∧ k_ ≠ gb577 ∧ k_ ≠ gb589) (.slice Ao31 y578.length co31) y578) := ⟨h0_⟩
          replace BK576 : Aside0 (w37.heap[gb576]? = some (.cells #[.bool a0_0, .string a0_1, .int .i64 a0_2] 23 (0, 0))) := ⟨h1_⟩
          replace BK577 : Aside0 (w37.heap[gb577]? = some (.cells #[.bool a1_0, .string a1_1, .int .i64 a1_2] 23 (0, 0))) := ⟨h2_⟩
          have BK589 : Aside0 (w37.heap[gb589]? = some (.cells #[.bool false, .string (⟨#[]⟩ : ByteArray), .int .i64 0] 23 (0, 0))) := ⟨h3_⟩
          have GW589 : Aside0 (w.heap.size ≤ gb589) := ⟨h4_⟩
          have GE589 : Aside0 (w.heap.size ≤ gb589) := ⟨h5_⟩
          have NB576_589 : Aside0 (gb576 ≠ gb589) := ⟨h6_⟩
          have NB589_576 : Aside0 (gb589 ≠ gb576) := ⟨h7_⟩
          have NB577_589 : Aside0 (gb577 ≠ gb589) := ⟨h8_⟩
          have NB589_577 : Aside0 (gb589 ≠ gb577) := ⟨h9_⟩
          replace HB : Aside0 (Below w.heap.size w w37) := ⟨h10_⟩
          clear h0_ h1_ h2_ h3_ h4_ h5_ h6_ h7_ h8_ h9_ h10_
          have hHeld : w37.cell? ⟨gb576, 0, none⟩ = some (.bool a0_0) ∧ w37.cell? ⟨gb576, 1, none⟩ = some (.string a0_1) ∧ w37.cell? ⟨gb576, 2, none⟩ = some (.int .i64 a0_2) ∧ w37.cell? ⟨gb577, 0, none⟩ = some (.bool a1_0) ∧ w37.cell? ⟨gb577, 1, none⟩ = some (.string a1_1) ∧ w37.cell? ⟨gb577, 2, none⟩ = some (.int .i64 a1_2) := hS_
          refine norm_ (a' := ?_) ?_ ?_
          rotate_left
          · simp only [putAll, Act.put, List.setIfInBounds_toArray, List.set_cons_zero, List.set_cons_succ]
            rfl
          refine one_ (i := 7) (N := some 6) (bb 10 255) rfl rfl (one_of HT_.out (by kernel_rfl)) (by decide) (fun K hK => ?_)
          refine box_step ?hg (N := 6) ?hd (cs := #[.bool false, .string (⟨#[]⟩ : ByteArray), .int .i64 0]) (t := 23) ?hr ?_; (case hd => rfl); (case hg => rfl); (case hr => first | (go_simp; done) | (go_simp; rfl))
          intro gb590 hg w38 hbox hb
          replace HO580 := Aside0.mk (Kd.R_below (Kd.R_elderB (RB HO580.out) gb590 (Nat.le_of_eq hg.symm)) hb)
          have BK590 := Aside0.mk (hbox)
          have GW590 := ge_ hg HB
          have GE590 := ge_ hg HB
          replace HB := hbs_ HB hb
          have NB576_590 := nb_ hg BK576
          have NB590_576 := nc_ hg BK576
          replace BK576 := bkb_ BK576 hb
          have NB577_590 := nb_ hg BK577
          have NB590_577 := nc_ hg BK577
          replace BK577 := bkb_ BK577 hb
          have NB589_590 := nb_ hg BK589
          have NB590_589 := nc_ hg BK589
          replace BK589 := bkb_ BK589 hb
          clear hb hbox hg
          refine hK.out _ _ CE (fun hHeld => ?_)
          clear hK K
          refine no_ (some 6) ?_
          exact norm_ (by first | (simp only [putAll, Act.put, List.setIfInBounds_toArray, List.set_cons_zero, List.set_cons_succ]; done) | (simp only [putAll, Act.put, List.setIfInBounds_toArray, List.set_cons_zero, List.set_cons_succ]; rfl)) (hJ2_5_6_7 (gb589, gb590) _ ⟨hHeld, (by (with_reducible repeat (first | apply Kd.R_alloc | apply Kd.R_drewN | apply Kd.R_drew)); exact Kd.R_mono HO580.out (fun _ hk => ⟨hk.1.1, ⟨hk.1.2.1, ⟨hk.1.2.2, hk.2⟩⟩⟩)), (BK BK576), (BK BK577), (BK BK589), (BK BK590), GW589.out, GE589.out, NB576_589.out, NB589_576.out, NB577_589.out, NB589_577.out, NB590_589.out, NB589_590.out, GW590.out, GE590.out, NB576_590.out, NB590_576.out, NB577_590.out, NB590_577.out, (BL HB)⟩)
        rintro ⟨gb589, gb590⟩ w38 ⟨hS_, h0_, h1_, h2_, h3_, h4_, h5_, h6_, h7_, h8_, h9_, h10_, h11_, h12_, h13_, h14_, h15_, h16_, h17_, h18_, h19_⟩
        replace HO580 : Aside0 (Kd.R k23 23 w38 w.heap.size (fun k_ => k_ ≠ gb576 ∧ k_ ≠ gb577 ∧ k_ ≠ gb589 ∧ k_ ≠ gb590) (.slice Ao31 y578.length co31) y578) := ⟨h0_⟩
        replace BK576 : Aside0 (w38.heap[gb576]? = some (.cells #[.bool a0_0, .string a0_1, .int .i64 a0_2] 23 (0, 0))) := ⟨h1_⟩
        replace BK577 : Aside0 (w38.heap[gb577]? = some (.cells #[.bool a1_0, .string a1_1, .int .i64 a1_2] 23 (0, 0))) := ⟨h2_⟩
        have BK589 : Aside0 (w38.heap[gb589]? = some (.cells #[.bool false, .string (⟨#[]⟩ : ByteArray), .int .i64 0] 23 (0, 0))) := ⟨h3_⟩
        have BK590 : Aside0 (w38.heap[gb590]? = some (.cells #[.bool false, .string (⟨#[]⟩ : ByteArray), .int .i64 0] 23 (0, 0))) := ⟨h4_⟩
        have GW589 : Aside0 (w.heap.size ≤ gb589) := ⟨h5_⟩
        have GE589 : Aside0 (w.heap.size ≤ gb589) := ⟨h6_⟩
        have NB576_589 : Aside0 (gb576 ≠ gb589) := ⟨h7_⟩
        have NB589_576 : Aside0 (gb589 ≠ gb576) := ⟨h8_⟩
        have NB577_589 : Aside0 (gb577 ≠ gb589) := ⟨h9_⟩
        have NB589_577 : Aside0 (gb589 ≠ gb577) := ⟨h10_⟩
        have NB590_589 : Aside0 (gb590 ≠ gb589) := ⟨h11_⟩
        have NB589_590 : Aside0 (gb589 ≠ gb590) := ⟨h12_⟩
        have GW590 : Aside0 (w.heap.size ≤ gb590) := ⟨h13_⟩
        have GE590 : Aside0 (w.heap.size ≤ gb590) := ⟨h14_⟩
        have NB576_590 : Aside0 (gb576 ≠ gb590) := ⟨h15_⟩
        have NB590_576 : Aside0 (gb590 ≠ gb576) := ⟨h16_⟩
        have NB577_590 : Aside0 (gb577 ≠ gb590) := ⟨h17_⟩
        have NB590_577 : Aside0 (gb590 ≠ gb577) := ⟨h18_⟩
        replace HB : Aside0 (Below w.heap.size w w38) := ⟨h19_⟩
        clear h0_ h1_ h2_ h3_ h4_ h5_ h6_ h7_ h8_ h9_ h10_ h11_ h12_ h13_ h14_ h15_ h16_ h17_ h18_ h19_
        have hHeld : w38.cell? ⟨gb576, 0, none⟩ = some (.bool a0_0) ∧ w38.cell? ⟨gb576, 1, none⟩ = some (.string a0_1) ∧ w38.cell? ⟨gb576, 2, none⟩ = some (.int .i64 a0_2) ∧ w38.cell? ⟨gb577, 0, none⟩ = some (.bool a1_0) ∧ w38.cell? ⟨gb577, 1, none⟩ = some (.string a1_1) ∧ w38.cell? ⟨gb577, 2, none⟩ = some (.int .i64 a1_2) := hS_
        refine norm_ (a' := ?_) ?_ ?_
        rotate_left
        · simp only [putAll, Act.put, List.setIfInBounds_toArray, List.set_cons_zero, List.set_cons_succ]
          rfl
        refine one_ (i := 8) (N := none) (bb 10 511) rfl rfl (one_of HT_.out (by kernel_rfl)) (by decide) (fun K hK => ?_)
        have hs39 : w38.cell? ⟨gb589, 0, none⟩ = some (.bool false) := (blk_cell BK589.out 0).trans rfl
        have hfs39 := blk_frozen BK589.out 0
        have hns39_0 := NB576_589.out
        have hns39_1 := NB577_589.out
        have hns39_3 := NB590_589.out
        have hms39_0 := NB589_576.out
        have hms39_1 := NB589_577.out
        have hms39_3 := NB589_590.out
        have hs40 : w38.cell? ⟨gb589, 1, none⟩ = some (.string (⟨#[]⟩ : ByteArray)) := (blk_cell BK589.out 1).trans rfl
        have hfs40 := blk_frozen BK589.out 1
        have hns40_0 := NB576_589.out
        have hns40_1 := NB577_589.out
        have hns40_3 := NB590_589.out
        have hms40_0 := NB589_576.out
        have hms40_1 := NB589_577.out
        have hms40_3 := NB589_590.out
        have hs41 : w38.cell? ⟨gb589, 2, none⟩ = some (.int .i64 0) := (blk_cell BK589.out 2).trans rfl
        have hfs41 := blk_frozen BK589.out 2
        have hns41_0 := NB576_589.out
        have hns41_1 := NB577_589.out
        have hns41_3 := NB590_589.out
        have hms41_0 := NB589_576.out
        have hms41_1 := NB589_577.out
        have hms41_3 := NB589_590.out
        refine skip_ (w1 := ?_) (by rfl) rfl ?_ ?_
        rotate_left
        · go_simp
          rfl
        refine hK.out _ _ ⟨((cell_far (p := ⟨gb589, _, none⟩) NB576_589.out _).trans (((cell_far (p := ⟨gb589, _, none⟩) NB576_589.out _).trans (((cell_far (p := ⟨gb589, _, none⟩) NB576_589.out _).trans (hHeld.1)))))), ((cell_far (p := ⟨gb589, _, none⟩) NB576_589.out _).trans (((cell_far (p := ⟨gb589, _, none⟩) NB576_589.out _).trans (((cell_far (p := ⟨gb589, _, none⟩) NB576_589.out _).trans (hHeld.2.1)))))), ((cell_far (p := ⟨gb589, _, none⟩) NB576_589.out _).trans (((cell_far (p := ⟨gb589, _, none⟩) NB576_589.out _).trans (((cell_far (p := ⟨gb589, _, none⟩) NB576_589.out _).trans (hHeld.2.2.1)))))), ((cell_far (p := ⟨gb589, _, none⟩) NB577_589.out _).trans (((cell_far (p := ⟨gb589, _, none⟩) NB577_589.out _).trans (((cell_far (p := ⟨gb589, _, none⟩) NB577_589.out _).trans (hHeld.2.2.2.1)))))), ((cell_far (p := ⟨gb589, _, none⟩) NB577_589.out _).trans (((cell_far (p := ⟨gb589, _, none⟩) NB577_589.out _).trans (((cell_far (p := ⟨gb589, _, none⟩) NB577_589.out _).trans (hHeld.2.2.2.2.1)))))), ((cell_far (p := ⟨gb589, _, none⟩) NB577_589.out _).trans (((cell_far (p := ⟨gb589, _, none⟩) NB577_589.out _).trans (((cell_far (p := ⟨gb589, _, none⟩) NB577_589.out _).trans (hHeld.2.2.2.2.2))))))⟩ (fun hHeld => ?_)
        clear hK K
        refine one_ (i := 9) (N := none) (bb 10 1023) rfl rfl (one_of HT_.out (by kernel_rfl)) (by decide) (fun K hK => ?_)
        have hs42 : w38.cell? ⟨gb590, 0, none⟩ = some (.bool false) := (blk_cell BK590.out 0).trans rfl
        have hfs42 := blk_frozen BK590.out 0
        have hns42_0 := NB576_590.out
        have hns42_1 := NB577_590.out
        have hns42_2 := NB589_590.out
        have hms42_0 := NB590_576.out
        have hms42_1 := NB590_577.out
        have hms42_2 := NB590_589.out
        have hs43 : w38.cell? ⟨gb590, 1, none⟩ = some (.string (⟨#[]⟩ : ByteArray)) := (blk_cell BK590.out 1).trans rfl
        have hfs43 := blk_frozen BK590.out 1
        have hns43_0 := NB576_590.out
        have hns43_1 := NB577_590.out
        have hns43_2 := NB589_590.out
        have hms43_0 := NB590_576.out
        have hms43_1 := NB590_577.out
        have hms43_2 := NB590_589.out
        have hs44 : w38.cell? ⟨gb590, 2, none⟩ = some (.int .i64 0) := (blk_cell BK590.out 2).trans rfl
        have hfs44 := blk_frozen BK590.out 2
        have hns44_0 := NB576_590.out
        have hns44_1 := NB577_590.out
        have hns44_2 := NB589_590.out
        have hms44_0 := NB590_576.out
        have hms44_1 := NB590_577.out
        have hms44_2 := NB590_589.out
        refine skip_ (w1 := ?_) (by rfl) rfl ?_ ?_
        rotate_left
        · go_simp
          rfl
        refine hK.out _ _ ⟨((cell_far (p := ⟨gb590, _, none⟩) NB576_590.out _).trans (((cell_far (p := ⟨gb590, _, none⟩) NB576_590.out _).trans (((cell_far (p := ⟨gb590, _, none⟩) NB576_590.out _).trans (hHeld.1)))))), ((cell_far (p := ⟨gb590, _, none⟩) NB576_590.out _).trans (((cell_far (p := ⟨gb590, _, none⟩) NB576_590.out _).trans (((cell_far (p := ⟨gb590, _, none⟩) NB576_590.out _).trans (hHeld.2.1)))))), ((cell_far (p := ⟨gb590, _, none⟩) NB576_590.out _).trans (((cell_far (p := ⟨gb590, _, none⟩) NB576_590.out _).trans (((cell_far (p := ⟨gb590, _, none⟩) NB576_590.out _).trans (hHeld.2.2.1)))))), ((cell_far (p := ⟨gb590, _, none⟩) NB577_590.out _).trans (((cell_far (p := ⟨gb590, _, none⟩) NB577_590.out _).trans (((cell_far (p := ⟨gb590, _, none⟩) NB577_590.out _).trans (hHeld.2.2.2.1)))))), ((cell_far (p := ⟨gb590, _, none⟩) NB577_590.out _).trans (((cell_far (p := ⟨gb590, _, none⟩) NB577_590.out _).trans (((cell_far (p := ⟨gb590, _, none⟩) NB577_590.out _).trans (hHeld.2.2.2.2.1)))))), ((cell_far (p := ⟨gb590, _, none⟩) NB577_590.out _).trans (((cell_far (p := ⟨gb590, _, none⟩) NB577_590.out _).trans (((cell_far (p := ⟨gb590, _, none⟩) NB577_590.out _).trans (hHeld.2.2.2.2.2))))))⟩ (fun hHeld => ?_)
        clear hK K
        refine done_ (done_of HT_.out (by kernel_rfl)) ?_
        have hnb45 := NB576_589.out
        have hnc45 := NB589_576.out
        have hnb46 := NB576_590.out
        have hnc46 := NB590_576.out
        obtain ⟨⟨hcz47_0, hcz47_1, hcz47_2⟩, hfz47_0, hfz47_1, hfz47_2⟩ := ce3 BK576
        have hnb48 := NB577_589.out
        have hnc48 := NB589_577.out
        have hnb49 := NB577_590.out
        have hnc49 := NB590_577.out
        obtain ⟨⟨hcz50_0, hcz50_1, hcz50_2⟩, hfz50_0, hfz50_1, hfz50_2⟩ := ce3 BK577
        try go_wp2_with (first | ((with_reducible refine gate_callee (f := 38) rfl ?_); refine goesL_ (some 22) rfl rfl Tryd.func38 (by kernel_rfl) rfl #[.agg #[.bool a0_0, .string a0_1, .int .i64 a0_2], .agg #[.bool a1_0, .string a1_1, .int .i64 a1_2]] rfl MP ?_; (with_reducible refine (arith_Mul.calls k a0_0 a0_1 a0_2 a1_0 a1_1 a1_2 t591 t592 t593 _ A7.out).mono ?_); rintro e w51 ⟨rfl, hb⟩; refine ⟨_, rfl, ?_⟩; replace HO580 := Aside0.mk (Kd.R_below (by (with_reducible repeat (first | apply Kd.R_alloc | apply Kd.R_drewN | apply Kd.R_drew)); exact (Kd.R_mono (Kd.R_mono (Kd.R_far (p := ⟨gb590, 2, none⟩) (Kd.R_far (p := ⟨gb590, 1, none⟩) (Kd.R_far (p := ⟨gb590, 0, none⟩) (Kd.R_far (p := ⟨gb589, 2, none⟩) (Kd.R_far (p := ⟨gb589, 1, none⟩) (Kd.R_far (p := ⟨gb589, 0, none⟩) (Kd.R_mono (Kd.R_mono HO580.out (fun k_ hk => (⟨hk, hk.2.2.1⟩ : _ ∧ k_ ≠ gb589))) (fun k_ hk => (⟨hk, hk.1.2.2.2⟩ : _ ∧ k_ ≠ gb590))) (fun _ hk => hk.1.2) (.bool t583)) (fun _ hk => hk.1.2) (.string t584)) (fun _ hk => hk.1.2) (.int .i64 t585)) (fun _ hk => hk.2) (.bool t586)) (fun _ hk => hk.2) (.string t587)) (fun _ hk => hk.2) (.int .i64 t588)) (fun _ h_ => h_.1)) (fun _ h_ => h_.1))) hb); replace BK576 := Aside0.mk (blk_below (g := gb576) (o := .cells #[.bool a0_0, .string a0_1, .int .i64 a0_2] 23 (0, 0)) (by (with_reducible repeat (first | refine blk_drewN ?_ _ | refine blk_drew ?_ | refine blk_alloc ?_ _)); refine blk_far ?_ NB576_590.out _; (with_reducible repeat (first | refine blk_drewN ?_ _ | refine blk_drew ?_ | refine blk_alloc ?_ _)); refine blk_far ?_ NB576_590.out _; (with_reducible repeat (first | refine blk_drewN ?_ _ | refine blk_drew ?_ | refine blk_alloc ?_ _)); refine blk_far ?_ NB576_590.out _; (with_reducible repeat (first | refine blk_drewN ?_ _ | refine blk_drew ?_ | refine blk_alloc ?_ _)); refine blk_far ?_ NB576_589.out _; (with_reducible repeat (first | refine blk_drewN ?_ _ | refine blk_drew ?_ | refine blk_alloc ?_ _)); refine blk_far ?_ NB576_589.out _; (with_reducible repeat (first | refine blk_drewN ?_ _ | refine blk_drew ?_ | refine blk_alloc ?_ _)); refine blk_far ?_ NB576_589.out _; (with_reducible repeat (first | refine blk_drewN ?_ _ | refine blk_drew ?_ | refine blk_alloc ?_ _)); exact BK576.out) hb); replace BK577 := Aside0.mk (blk_below (g := gb577) (o := .cells #[.bool a1_0, .string a1_1, .int .i64 a1_2] 23 (0, 0)) (by (with_reducible repeat (first | refine blk_drewN ?_ _ | refine blk_drew ?_ | refine blk_alloc ?_ _)); refine blk_far ?_ NB577_590.out _; (with_reducible repeat (first | refine blk_drewN ?_ _ | refine blk_drew ?_ | refine blk_alloc ?_ _)); refine blk_far ?_ NB577_590.out _; (with_reducible repeat (first | refine blk_drewN ?_ _ | refine blk_drew ?_ | refine blk_alloc ?_ _)); refine blk_far ?_ NB577_590.out _; (with_reducible repeat (first | refine blk_drewN ?_ _ | refine blk_drew ?_ | refine blk_alloc ?_ _)); refine blk_far ?_ NB577_589.out _; (with_reducible repeat (first | refine blk_drewN ?_ _ | refine blk_drew ?_ | refine blk_alloc ?_ _)); refine blk_far ?_ NB577_589.out _; (with_reducible repeat (first | refine blk_drewN ?_ _ | refine blk_drew ?_ | refine blk_alloc ?_ _)); refine blk_far ?_ NB577_589.out _; (with_reducible repeat (first | refine blk_drewN ?_ _ | refine blk_drew ?_ | refine blk_alloc ?_ _)); exact BK577.out) hb); replace BK589 := Aside0.mk (blk_below (g := gb589) (o := .cells #[.bool t583, .string t584, .int .i64 t585] 23 (0, 0)) (by (with_reducible repeat (first | refine blk_drewN ?_ _ | refine blk_drew ?_ | refine blk_alloc ?_ _)); refine blk_far ?_ NB589_590.out _; (with_reducible repeat (first | refine blk_drewN ?_ _ | refine blk_drew ?_ | refine blk_alloc ?_ _)); refine blk_far ?_ NB589_590.out _; (with_reducible repeat (first | refine blk_drewN ?_ _ | refine blk_drew ?_ | refine blk_alloc ?_ _)); refine blk_far ?_ NB589_590.out _; (with_reducible repeat (first | refine blk_drewN ?_ _ | refine blk_drew ?_ | refine blk_alloc ?_ _)); refine blk_put (cs := #[.bool t583, .string t584, .int .i64 0]) ?_ 2 _ rfl; (with_reducible repeat (first | refine blk_drewN ?_ _ | refine blk_drew ?_ | refine blk_alloc ?_ _)); refine blk_put (cs := #[.bool t583, .string (⟨#[]⟩ : ByteArray), .int .i64 0]) ?_ 1 _ rfl; (with_reducible repeat (first | refine blk_drewN ?_ _ | refine blk_drew ?_ | refine blk_alloc ?_ _)); refine blk_put (cs := #[.bool false, .string (⟨#[]⟩ : ByteArray), .int .i64 0]) ?_ 0 _ rfl; (with_reducible repeat (first | refine blk_drewN ?_ _ | refine blk_drew ?_ | refine blk_alloc ?_ _)); exact BK589.out) hb); replace BK590 := Aside0.mk (blk_below (g := gb590) (o := .cells #[.bool t586, .string t587, .int .i64 t588] 23 (0, 0)) (by (with_reducible repeat (first | refine blk_drewN ?_ _ | refine blk_drew ?_ | refine blk_alloc ?_ _)); refine blk_put (cs := #[.bool t586, .string t587, .int .i64 0]) ?_ 2 _ rfl; (with_reducible repeat (first | refine blk_drewN ?_ _ | refine blk_drew ?_ | refine blk_alloc ?_ _)); refine blk_put (cs := #[.bool t586, .string (⟨#[]⟩ : ByteArray), .int .i64 0]) ?_ 1 _ rfl; (with_reducible repeat (first | refine blk_drewN ?_ _ | refine blk_drew ?_ | refine blk_alloc ?_ _)); refine blk_put (cs := #[.bool false, .string (⟨#[]⟩ : ByteArray), .int .i64 0]) ?_ 0 _ rfl; (with_reducible repeat (first | refine blk_drewN ?_ _ | refine blk_drew ?_ | refine blk_alloc ?_ _)); refine blk_far ?_ NB590_589.out _; (with_reducible repeat (first | refine blk_drewN ?_ _ | refine blk_drew ?_ | refine blk_alloc ?_ _)); refine blk_far ?_ NB590_589.out _; (with_reducible repeat (first | refine blk_drewN ?_ _ | refine blk_drew ?_ | refine blk_alloc ?_ _)); refine blk_far ?_ NB590_589.out _; (with_reducible repeat (first | refine blk_drewN ?_ _ | refine blk_drew ?_ | refine blk_alloc ?_ _)); exact BK590.out) hb); replace HB := hbs_ HB hb; (try clear hb); (try clear hb2); (try clear hk); (try clear hi)) | (refine be_ 7 #[.bool false, .string (⟨#[]⟩ : ByteArray), .int .i64 0] 23 ?_; intro gb594 hg w52 hbox hb; replace HO580 := Aside0.mk (Kd.R_below (Kd.R_elderB (RB HO580.out) gb594 (Nat.le_of_eq hg.symm)) hb); have BK594 := Aside0.mk (hbox); have GW594 := ge_ hg HB; have GE594 := ge_ hg HB; replace HB := hbs_ HB hb; have NB576_594 := nb_ hg BK576; have NB594_576 := nc_ hg BK576; replace BK576 := bkb_ BK576 hb; have NB577_594 := nb_ hg BK577; have NB594_577 := nc_ hg BK577; replace BK577 := bkb_ BK577 hb; have NB589_594 := nb_ hg BK589; have NB594_589 := nc_ hg BK589; replace BK589 := bkb_ BK589 hb; have NB590_594 := nb_ hg BK590; have NB594_590 := nc_ hg BK590; replace BK590 := bkb_ BK590 hb; clear hb hbox hg; have hnb53 := NB594_576.out; have hnc53 := NB576_594.out; have hnb54 := NB594_577.out; have hnc54 := NB577_594.out; have hnb55 := NB594_589.out; have hnc55 := NB589_594.out; have hnb56 := NB594_590.out; have hnc56 := NB590_594.out; obtain ⟨⟨hcz57_0, hcz57_1, hcz57_2⟩, hfz57_0, hfz57_1, hfz57_2⟩ := ce3 BK594))
        have n0_ : Aside0 (Kd.R k23 23 (((w52.setCell ⟨gb594, 0, none⟩ (.bool t591)).setCell ⟨gb594, 1, none⟩ (.string t592)).setCell ⟨gb594, 2, none⟩ (.int .i64 t593)) w.heap.size (fun k_ => k_ ≠ gb576 ∧ k_ ≠ gb577 ∧ k_ ≠ gb589 ∧ k_ ≠ gb590 ∧ k_ ≠ gb594) (.slice Ao31 y578.length co31) y578) := ⟨by (with_reducible repeat (first | apply Kd.R_alloc | apply Kd.R_drewN | apply Kd.R_drew)); exact Kd.R_mono (Kd.R_far (p := ⟨gb594, 2, none⟩) (Kd.R_far (p := ⟨gb594, 1, none⟩) (Kd.R_far (p := ⟨gb594, 0, none⟩) (Kd.R_mono HO580.out (fun k_ hk => (⟨hk, hk.2⟩ : _ ∧ k_ ≠ gb594))) (fun _ hk => hk.2) (.bool t591)) (fun _ hk => hk.2) (.string t592)) (fun _ hk => hk.2) (.int .i64 t593)) (fun _ hk => ⟨hk.1.1.1, ⟨hk.1.1.2.1, ⟨hk.1.1.2.2.1, ⟨hk.1.1.2.2.2, hk.1.2⟩⟩⟩⟩)⟩
        have n1_ : Aside0 ((((w52.setCell ⟨gb594, 0, none⟩ (.bool t591)).setCell ⟨gb594, 1, none⟩ (.string t592)).setCell ⟨gb594, 2, none⟩ (.int .i64 t593)).heap[gb576]? = some (.cells #[.bool a0_0, .string a0_1, .int .i64 a0_2] 23 (0, 0))) := ⟨by (with_reducible repeat (first | refine blk_drewN ?_ _ | refine blk_drew ?_ | refine blk_alloc ?_ _)); refine blk_far ?_ NB576_594.out _; (with_reducible repeat (first | refine blk_drewN ?_ _ | refine blk_drew ?_ | refine blk_alloc ?_ _)); refine blk_far ?_ NB576_594.out _; (with_reducible repeat (first | refine blk_drewN ?_ _ | refine blk_drew ?_ | refine blk_alloc ?_ _)); refine blk_far ?_ NB576_594.out _; (with_reducible repeat (first | refine blk_drewN ?_ _ | refine blk_drew ?_ | refine blk_alloc ?_ _)); exact BK576.out⟩
        have n2_ : Aside0 ((((w52.setCell ⟨gb594, 0, none⟩ (.bool t591)).setCell ⟨gb594, 1, none⟩ (.string t592)).setCell ⟨gb594, 2, none⟩ (.int .i64 t593)).heap[gb577]? = some (.cells #[.bool a1_0, .string a1_1, .int .i64 a1_2] 23 (0, 0))) := ⟨by (with_reducible repeat (first | refine blk_drewN ?_ _ | refine blk_drew ?_ | refine blk_alloc ?_ _)); refine blk_far ?_ NB577_594.out _; (with_reducible repeat (first | refine blk_drewN ?_ _ | refine blk_drew ?_ | refine blk_alloc ?_ _)); refine blk_far ?_ NB577_594.out _; (with_reducible repeat (first | refine blk_drewN ?_ _ | refine blk_drew ?_ | refine blk_alloc ?_ _)); refine blk_far ?_ NB577_594.out _; (with_reducible repeat (first | refine blk_drewN ?_ _ | refine blk_drew ?_ | refine blk_alloc ?_ _)); exact BK577.out⟩
        have n3_ : Aside0 ((((w52.setCell ⟨gb594, 0, none⟩ (.bool t591)).setCell ⟨gb594, 1, none⟩ (.string t592)).setCell ⟨gb594, 2, none⟩ (.int .i64 t593)).heap[gb589]? = some (.cells #[.bool t583, .string t584, .int .i64 t585] 23 (0, 0))) := ⟨by (with_reducible repeat (first | refine blk_drewN ?_ _ | refine blk_drew ?_ | refine blk_alloc ?_ _)); refine blk_far ?_ NB589_594.out _; (with_reducible repeat (first | refine blk_drewN ?_ _ | refine blk_drew ?_ | refine blk_alloc ?_ _)); refine blk_far ?_ NB589_594.out _; (with_reducible repeat (first | refine blk_drewN ?_ _ | refine blk_drew ?_ | refine blk_alloc ?_ _)); refine blk_far ?_ NB589_594.out _; (with_reducible repeat (first | refine blk_drewN ?_ _ | refine blk_drew ?_ | refine blk_alloc ?_ _)); exact BK589.out⟩
        have n4_ : Aside0 ((((w52.setCell ⟨gb594, 0, none⟩ (.bool t591)).setCell ⟨gb594, 1, none⟩ (.string t592)).setCell ⟨gb594, 2, none⟩ (.int .i64 t593)).heap[gb590]? = some (.cells #[.bool t586, .string t587, .int .i64 t588] 23 (0, 0))) := ⟨by (with_reducible repeat (first | refine blk_drewN ?_ _ | refine blk_drew ?_ | refine blk_alloc ?_ _)); refine blk_far ?_ NB590_594.out _; (with_reducible repeat (first | refine blk_drewN ?_ _ | refine blk_drew ?_ | refine blk_alloc ?_ _)); refine blk_far ?_ NB590_594.out _; (with_reducible repeat (first | refine blk_drewN ?_ _ | refine blk_drew ?_ | refine blk_alloc ?_ _)); refine blk_far ?_ NB590_594.out _; (with_reducible repeat (first | refine blk_drewN ?_ _ | refine blk_drew ?_ | refine blk_alloc ?_ _)); exact BK590.out⟩
        have n5_ : Aside0 ((((w52.setCell ⟨gb594, 0, none⟩ (.bool t591)).setCell ⟨gb594, 1, none⟩ (.string t592)).setCell ⟨gb594, 2, none⟩ (.int .i64 t593)).heap[gb594]? = some (.cells #[.bool t591, .string t592, .int .i64 t593] 23 (0, 0))) := ⟨by (with_reducible repeat (first | refine blk_drewN ?_ _ | refine blk_drew ?_ | refine blk_alloc ?_ _)); refine blk_put (cs := #[.bool t591, .string t592, .int .i64 0]) ?_ 2 _ rfl; (with_reducible repeat (first | refine blk_drewN ?_ _ | refine blk_drew ?_ | refine blk_alloc ?_ _)); refine blk_put (cs := #[.bool t591, .string (⟨#[]⟩ : ByteArray), .int .i64 0]) ?_ 1 _ rfl; (with_reducible repeat (first | refine blk_drewN ?_ _ | refine blk_drew ?_ | refine blk_alloc ?_ _)); refine blk_put (cs := #[.bool false, .string (⟨#[]⟩ : ByteArray), .int .i64 0]) ?_ 0 _ rfl; (with_reducible repeat (first | refine blk_drewN ?_ _ | refine blk_drew ?_ | refine blk_alloc ?_ _)); exact BK594.out⟩
        have n6_ : Aside0 (Below w.heap.size w (((w52.setCell ⟨gb594, 0, none⟩ (.bool t591)).setCell ⟨gb594, 1, none⟩ (.string t592)).setCell ⟨gb594, 2, none⟩ (.int .i64 t593))) := ⟨BL HB⟩
        (try clear HO580)
        (try clear BK576)
        (try clear BK577)
        (try clear BK589)
        (try clear BK590)
        (try clear BK594)
        (try clear HB)
        generalize (((w52.setCell ⟨gb594, 0, none⟩ (.bool t591)).setCell ⟨gb594, 1, none⟩ (.string t592)).setCell ⟨gb594, 2, none⟩ (.int .i64 t593)) = w58 at n0_ n1_ n2_ n3_ n4_ n5_ n6_ ⊢
        have HO580 := n0_
        have BK576 := n1_
        have BK577 := n2_
        have BK589 := n3_
        have BK590 := n4_
        have BK594 := n5_
        have HB := n6_
        clear n0_ n1_ n2_ n3_ n4_ n5_ n6_
        (try (rw [drewN_self w58]; generalize hq_ : World.drewN w58 _ = w58; replace HO580 := rbq_ HO580 hq_; replace BK576 := bkq_ BK576 hq_; replace BK577 := bkq_ BK577 hq_; replace BK589 := bkq_ BK589 hq_; replace BK590 := bkq_ BK590 hq_; replace BK594 := bkq_ BK594 hq_; replace HB := hbq_ HB hq_; clear hq_))
        replace HO580 := Aside0.mk (Kd.R_drew HO580.out)
        replace BK576 := Aside0.mk (blk_drew BK576.out)
        replace BK577 := Aside0.mk (blk_drew BK577.out)
        replace BK589 := Aside0.mk (blk_drew BK589.out)
        replace BK590 := Aside0.mk (blk_drew BK590.out)
        replace BK594 := Aside0.mk (blk_drew BK594.out)
        replace HB := Aside0.mk (below_drew1 HB.out)
        refine start_ (n := 58) (S := fun w' => w'.cell? ⟨gb576, 0, none⟩ = some (.bool a0_0) ∧ w'.cell? ⟨gb576, 1, none⟩ = some (.string a0_1) ∧ w'.cell? ⟨gb576, 2, none⟩ = some (.int .i64 a0_2) ∧ w'.cell? ⟨gb589, 0, none⟩ = some (.bool t583) ∧ w'.cell? ⟨gb589, 1, none⟩ = some (.string t584) ∧ w'.cell? ⟨gb589, 2, none⟩ = some (.int .i64 t585) ∧ w'.cell? ⟨gb590, 0, none⟩ = some (.bool t586) ∧ w'.cell? ⟨gb590, 1, none⟩ = some (.string t587) ∧ w'.cell? ⟨gb590, 2, none⟩ = some (.int .i64 t588) ∧ w'.cell? ⟨gb594, 0, none⟩ = some (.bool t591) ∧ w'.cell? ⟨gb594, 1, none⟩ = some (.string t592) ∧ w'.cell? ⟨gb594, 2, none⟩ = some (.int .i64 t593) ∧ w'.cell? ⟨gb577, 0, none⟩ = some (.bool a1_0) ∧ w'.cell? ⟨gb577, 1, none⟩ = some (.string a1_1) ∧ w'.cell? ⟨gb577, 2, none⟩ = some (.int .i64 a1_2)) (ds := []) #[false, false, false, false, false, false, false, false, false, false, false, false, false, false, false, false, false, false, false, false, false, false, false, false, false, false, false, false, false, false, false, false, false, false, false, false, false, false, false, false, false, false, false, false, false, false, false, false, false, false, false, false, false, false, false, false, false, false] (by kernel_rfl) rfl rfl CE (fun hHeld => ?_); refine with_tabW figureheadlaw06_ArithSigns.tab5 figureheadlaw06_ArithSigns.bits5 (fun HT_ HW_ => ?_)
        generalize w58.drew = w59 at HO580 BK576 BK577 BK589 BK590 BK594 HB hHeld ⊢
        refine one_ (i := 0) (N := some 23) (bb 58 1) rfl rfl (one_of HT_.out (by kernel_rfl)) (by decide) (fun K hK => ?_)
        refine goes_ Tryd.func33 (by kernel_rfl) rfl #[] (by rfl) rfl rfl MP ?_
        with_reducible refine (figureheadlaw06_answers.calls k  true _ ?side1 ?side2 A8.out).mono ?_
        (case side1 => exact Fig.Glob.below HG.out (BL HB))
        (case side2 => exact ⟨by first | rfl | exact HT.out⟩)
        rintro e w60 ⟨rfl, hb⟩
        refine ⟨_, rfl, ?_⟩
        replace HO580 := Aside0.mk (Kd.R_below (RB HO580.out) hb)
        replace BK576 := bkb_ BK576 hb
        replace BK577 := bkb_ BK577 hb
        replace BK589 := bkb_ BK589 hb
        replace BK590 := bkb_ BK590 hb
        replace BK594 := bkb_ BK594 hb
        replace HB := hbs_ HB hb
        (try clear hb)
        (try clear hb2)
        (try clear hk)
        (try clear hi)
        refine hK.out _ _ CE (fun hHeld => ?_)
        clear hK K
        refine no_ (some 23) ?_
        refine pu_ 1 (some 24) (bb 58 3) (any_of HT_.out (by kernel_rfl)) ?_
        refine tk_ 2 (some 25) (bb 58 7) (take_ofW HT_.out HW_.out (by kernel_rfl)) hHeld ?_
        refine tk_ 5 (some 28) (bb 58 39) (take_ofW HT_.out HW_.out (by kernel_rfl)) hHeld ?_
        refine one_ (i := 3) (N := some 26) (bb 58 47) rfl rfl (one_of HT_.out (by kernel_rfl)) (by decide) (fun K hK => ?_)
        refine goes_ Tryd.func40 (by kernel_rfl) rfl #[.agg #[.bool a0_0, .string a0_1, .int .i64 a0_2]] (by rfl) rfl rfl MP ?_
        with_reducible refine (arith_Neg.calls a0_0 a0_1 a0_2 t596 t597 t598 _ A10.out).mono ?_
        rintro e w61 ⟨rfl, hb⟩
        refine ⟨_, rfl, ?_⟩
        replace HO580 := Aside0.mk (Kd.R_below (RB HO580.out) hb)
        replace BK576 := bkb_ BK576 hb
        replace BK577 := bkb_ BK577 hb
        replace BK589 := bkb_ BK589 hb
        replace BK590 := bkb_ BK590 hb
        replace BK594 := bkb_ BK594 hb
        replace HB := hbs_ HB hb
        (try clear hb)
        (try clear hb2)
        (try clear hk)
        (try clear hi)
        refine hK.out _ _ CE (fun hHeld => ?_)
        clear hK K
        refine no_ (some 26) ?_
        refine one_ (i := 4) (N := some 27) (bb 58 63) rfl rfl (one_of HT_.out (by kernel_rfl)) (by decide) (fun K hK => ?_)
        refine goes_ Tryd.func40 (by kernel_rfl) rfl #[.agg #[.bool t596, .string t597, .int .i64 t598]] (by rfl) rfl rfl MP ?_
        with_reducible refine (arith_Neg.calls t596 t597 t598 t599 t600 t601 _ A11.out).mono ?_
        rintro e w62 ⟨rfl, hb⟩
        refine ⟨_, rfl, ?_⟩
        replace HO580 := Aside0.mk (Kd.R_below (RB HO580.out) hb)
        replace BK576 := bkb_ BK576 hb
        replace BK577 := bkb_ BK577 hb
        replace BK589 := bkb_ BK589 hb
        replace BK590 := bkb_ BK590 hb
        replace BK594 := bkb_ BK594 hb
        replace HB := hbs_ HB hb
        (try clear hb)
        (try clear hb2)
        (try clear hk)
        (try clear hi)
        refine hK.out _ _ CE (fun hHeld => ?_)
        clear hK K
        refine no_ (some 27) ?_
        refine one_ (i := 6) (N := some 29) (bb 58 127) rfl rfl (one_of HT_.out (by kernel_rfl)) (by decide) (fun K hK => ?_)
        refine goes_ Tryd.func19 (by kernel_rfl) rfl #[.agg #[.bool a0_0, .string a0_1, .int .i64 a0_2]] (by rfl) rfl rfl MP ?_
        with_reducible refine (figureheadref05_Norm.calls k a0_0 a0_1 a0_2 t602 t603 t604 _ A12.out).mono ?_
        rintro e w63 ⟨rfl, hb⟩
        refine ⟨_, rfl, ?_⟩
        replace HO580 := Aside0.mk (Kd.R_below (RB HO580.out) hb)
        replace BK576 := bkb_ BK576 hb
        replace BK577 := bkb_ BK577 hb
        replace BK589 := bkb_ BK589 hb
        replace BK590 := bkb_ BK590 hb
        replace BK594 := bkb_ BK594 hb
        replace HB := hbs_ HB hb
        (try clear hb)
        (try clear hb2)
        (try clear hk)
        (try clear hi)
        refine hK.out _ _ CE (fun hHeld => ?_)
        clear hK K
        refine no_ (some 29) ?_
        refine pu_ 7 (some 30) (bb 58 255) (any_of HT_.out (by kernel_rfl)) ?_
        refine pu_ 8 (some 31) (bb 58 511) (any_of HT_.out (by kernel_rfl)) ?_
        refine pu_ 9 (some 32) (bb 58 1023) (any_of HT_.out (by kernel_rfl)) ?_
        refine pu_ 10 (some 33) (bb 58 2047) (any_of HT_.out (by kernel_rfl)) ?_
        refine tk_ 11 (some 34) (bb 58 4095) (take_ofW HT_.out HW_.out (by kernel_rfl)) hHeld ?_
        (try have H := HS5_.out)
        (try clear HS5_)
        by_cases c14 : t584.toList = ([48] : List UInt8)
        · rw [if_pos c14] at H
          have c14b0 : (t584.toList == ([48] : List UInt8)) = true := beq_iff_eq.mpr c14
          have c14b1 : (t584.toList != ([48] : List UInt8)) = false := bne_eq_false_iff_eq.mpr c14
          clear c14
          (try have HS3_ := Aside0.mk H)
          (try clear H)
          refine pu_ 12 (some 35) (bb 58 8191) (any_of HT_.out (by kernel_rfl)) ?_
          refine pu_ 13 (some 36) (bb 58 16383) (any_of HT_.out (by kernel_rfl)) ?_
          refine tk_ 14 (some 37) (bb 58 32767) (take_ofW HT_.out HW_.out (by kernel_rfl)) hHeld ?_
          refine tk_ 15 (some 38) (bb 58 65535) (take_ofW HT_.out HW_.out (by kernel_rfl)) hHeld ?_
          (try have H := HS3_.out)
          (try clear HS3_)
          by_cases c15 : (t583 == t586 && (t584.toList == t587.toList && (t585 == t588))) = true
          · rw [if_pos c15] at H
            have c15b0 : (t583 == t586 && (t584.toList == t587.toList && (t585 == t588))) = true := c15
            (try (have c15b1 : decide (t583 = t586 && (t584.toList == t587.toList && (t585 == t588))) = true := by simpa using c15))
            (try (have c15b2 : (t583 == t586 && (t584.toList == t587.toList && (t585 == t588))) = true := by simpa using c15))
            clear c15
            obtain ⟨⟨t605, t606, t607⟩, A160, H⟩ := Option.bind_eq_some_iff.mp H
            (try dsimp -simprocs only at H)
            have A16 := Aside0.mk A160
            clear A160
            obtain ⟨⟨t608, t609, t610⟩, A170, H⟩ := Option.bind_eq_some_iff.mp H
            (try dsimp -simprocs only at H)
            have A17 := Aside0.mk A170
            clear A170
            by_cases c18 : (t605 == t608 && (t606.toList == t609.toList && (t607 == t610))) = true
            · rw [if_pos c18] at H
              have c18b0 : (t605 == t608 && (t606.toList == t609.toList && (t607 == t610))) = true := c18
              (try (have c18b1 : decide (t605 = t608 && (t606.toList == t609.toList && (t607 == t610))) = true := by simpa using c18))
              (try (have c18b2 : (t605 == t608 && (t606.toList == t609.toList && (t607 == t610))) = true := by simpa using c18))
              clear c18
              (try have HS1_ := Aside0.mk H)
              (try clear H)
              refine pu_ 16 (some 39) (bb 58 131071) (any_of HT_.out (by kernel_rfl)) ?_
              refine pu_ 17 (some 40) (bb 58 262143) (any_of HT_.out (by kernel_rfl)) ?_
              refine pu_ 18 (some 41) (bb 58 524287) (any_of HT_.out (by kernel_rfl)) ?_
              refine pure_ (i := 19) (N := some 42) (v := undef) (a' := ?_) (bb 58 1048575) rfl rfl (any_of HT_.out (by kernel_rfl)) (fun _ _ _ h => h) (Or.inr ⟨by rfl, rfl⟩) ?_ ?_
              rotate_left
              · simp only [Act.put, List.setIfInBounds_toArray, List.set_cons_zero, List.set_cons_succ]; (try simp only [i64_w]); (try simp only [i32_w])
                rfl
              refine pure_ (i := 20) (N := some 43) (v := undef) (a' := ?_) (bb 58 2097151) rfl rfl (any_of HT_.out (by kernel_rfl)) (fun _ _ _ h => h) (Or.inr ⟨by rfl, rfl⟩) ?_ ?_
              rotate_left
              · simp only [Act.put, List.setIfInBounds_toArray, List.set_cons_zero, List.set_cons_succ]; (try simp only [i64_w]); (try simp only [i32_w])
                rfl
              refine pure_ (i := 21) (N := some 44) (v := undef) (a' := ?_) (bb 58 4194303) rfl rfl (any_of HT_.out (by kernel_rfl)) (fun _ _ _ h => h) (Or.inr ⟨by rfl, rfl⟩) ?_ ?_
              rotate_left
              · simp only [Act.put, List.setIfInBounds_toArray, List.set_cons_zero, List.set_cons_succ]; (try simp only [i64_w]); (try simp only [i32_w])
                rfl
              refine pure_ (i := 22) (N := some 45) (v := undef) (a' := ?_) (bb 58 8388607) rfl rfl (any_of HT_.out (by kernel_rfl)) (fun _ _ _ h => h) (Or.inr ⟨by rfl, rfl⟩) ?_ ?_
              rotate_left
              · simp only [Act.put, List.setIfInBounds_toArray, List.set_cons_zero, List.set_cons_succ]; (try simp only [i64_w]); (try simp only [i32_w])
                rfl
              refine pu_ 23 (some 46) (bb 58 16777215) (any_of HT_.out (by kernel_rfl)) ?_
              refine pu_ 24 (some 47) (bb 58 33554431) (any_of HT_.out (by kernel_rfl)) ?_
              refine pu_ 25 (some 48) (bb 58 67108863) (any_of HT_.out (by kernel_rfl)) ?_
              refine tk_ 26 (some 49) (bb 58 134217727) (take_ofW HT_.out HW_.out (by kernel_rfl)) hHeld ?_
              refine tk_ 28 (some 51) (bb 58 402653183) (take_ofW HT_.out HW_.out (by kernel_rfl)) hHeld ?_
              refine one_ (i := 27) (N := some 50) (bb 58 536870911) rfl rfl (one_of HT_.out (by kernel_rfl)) (by decide) (fun K hK => ?_)
              refine goes_ Tryd.func41 (by kernel_rfl) rfl #[.agg #[.bool t583, .string t584, .int .i64 t585]] (by rfl) rfl rfl MP ?_
              with_reducible refine (arith_Abs.calls t583 t584 t585 t605 t606 t607 _ A16.out).mono ?_
              rintro e w64 ⟨rfl, hb⟩
              refine ⟨_, rfl, ?_⟩
              replace HO580 := Aside0.mk (Kd.R_below (RB HO580.out) hb)
              replace BK576 := bkb_ BK576 hb
              replace BK577 := bkb_ BK577 hb
              replace BK589 := bkb_ BK589 hb
              replace BK590 := bkb_ BK590 hb
              replace BK594 := bkb_ BK594 hb
              replace HB := hbs_ HB hb
              (try clear hb)
              (try clear hb2)
              (try clear hk)
              (try clear hi)
              refine hK.out _ _ CE (fun hHeld => ?_)
              clear hK K
              refine no_ (some 50) ?_
              refine one_ (i := 29) (N := some 52) (bb 58 1073741823) rfl rfl (one_of HT_.out (by kernel_rfl)) (by decide) (fun K hK => ?_)
              refine goes_ Tryd.func41 (by kernel_rfl) rfl #[.agg #[.bool t586, .string t587, .int .i64 t588]] (by rfl) rfl rfl MP ?_
              with_reducible refine (arith_Abs.calls t586 t587 t588 t608 t609 t610 _ A17.out).mono ?_
              rintro e w65 ⟨rfl, hb⟩
              refine ⟨_, rfl, ?_⟩
              replace HO580 := Aside0.mk (Kd.R_below (RB HO580.out) hb)
              replace BK576 := bkb_ BK576 hb
              replace BK577 := bkb_ BK577 hb
              replace BK589 := bkb_ BK589 hb
              replace BK590 := bkb_ BK590 hb
              replace BK594 := bkb_ BK594 hb
              replace HB := hbs_ HB hb
              (try clear hb)
              (try clear hb2)
              (try clear hk)
              (try clear hi)
              refine hK.out _ _ CE (fun hHeld => ?_)
              clear hK K
              refine no_ (some 52) ?_
              refine pu_ 30 (some 53) (bb 58 2147483647) (any_of HT_.out (by kernel_rfl)) ?_
              refine pu_ 31 (some 54) (bb 58 4294967295) (any_of HT_.out (by kernel_rfl)) ?_
              refine pu_ 32 (some 55) (bb 58 8589934591) (any_of HT_.out (by kernel_rfl)) ?_
              refine pu_ 33 (some 56) (bb 58 17179869183) (any_of HT_.out (by kernel_rfl)) ?_
              refine tk_ 34 (some 57) (bb 58 34359738367) (take_ofW HT_.out HW_.out (by kernel_rfl)) hHeld ?_
              (try have H := HS1_.out)
              (try clear HS1_)
              by_cases c19 : t592.toList = ([48] : List UInt8)
              · rw [if_pos c19] at H
                have c19b0 : (t592.toList == ([48] : List UInt8)) = true := beq_iff_eq.mpr c19
                have c19b1 : (t592.toList != ([48] : List UInt8)) = false := bne_eq_false_iff_eq.mpr c19
                clear c19
                obtain ⟨⟨t611, t612, t613⟩, A200, H⟩ := Option.bind_eq_some_iff.mp H
                (try dsimp -simprocs only at H)
                have A20 := Aside0.mk A200
                clear A200
                obtain ⟨⟨t614, t615, t616⟩, A210, H⟩ := Option.bind_eq_some_iff.mp H
                (try dsimp -simprocs only at H)
                have A21 := Aside0.mk A210
                clear A210
                obtain ⟨⟨t617, t618, t619⟩, A220, H⟩ := Option.bind_eq_some_iff.mp H
                (try dsimp -simprocs only at H)
                have A22 := Aside0.mk A220
                clear A220
                obtain ⟨⟨t620, t621, t622⟩, A230, H⟩ := Option.bind_eq_some_iff.mp H
                (try dsimp -simprocs only at H)
                have A23 := Aside0.mk A230
                clear A230
                obtain rfl := Option.some.inj H
                refine pu_ 35 (some 58) (bb 58 68719476735) (any_of HT_.out (by kernel_rfl)) ?_
                refine pu_ 36 (some 59) (bb 58 137438953471) (any_of HT_.out (by kernel_rfl)) ?_
                refine pure_ (i := 37) (N := some 60) (v := undef) (a' := ?_) (bb 58 274877906943) rfl rfl (any_of HT_.out (by kernel_rfl)) (fun _ _ _ h => h) (Or.inr ⟨by rfl, rfl⟩) ?_ ?_
                rotate_left
                · simp only [Act.put, List.setIfInBounds_toArray, List.set_cons_zero, List.set_cons_succ]; (try simp only [i64_w]); (try simp only [i32_w])
                  rfl
                refine pure_ (i := 38) (N := some 61) (v := undef) (a' := ?_) (bb 58 549755813887) rfl rfl (any_of HT_.out (by kernel_rfl)) (fun _ _ _ h => h) (Or.inr ⟨by rfl, rfl⟩) ?_ ?_
                rotate_left
                · simp only [Act.put, List.setIfInBounds_toArray, List.set_cons_zero, List.set_cons_succ]; (try simp only [i64_w]); (try simp only [i32_w])
                  rfl
                refine pure_ (i := 39) (N := some 62) (v := undef) (a' := ?_) (bb 58 1099511627775) rfl rfl (any_of HT_.out (by kernel_rfl)) (fun _ _ _ h => h) (Or.inr ⟨by rfl, rfl⟩) ?_ ?_
                rotate_left
                · simp only [Act.put, List.setIfInBounds_toArray, List.set_cons_zero, List.set_cons_succ]; (try simp only [i64_w]); (try simp only [i32_w])
                  rfl
                refine pure_ (i := 40) (N := some 63) (v := undef) (a' := ?_) (bb 58 2199023255551) rfl rfl (any_of HT_.out (by kernel_rfl)) (fun _ _ _ h => h) (Or.inr ⟨by rfl, rfl⟩) ?_ ?_
                rotate_left
                · simp only [Act.put, List.setIfInBounds_toArray, List.set_cons_zero, List.set_cons_succ]; (try simp only [i64_w]); (try simp only [i32_w])
                  rfl
                refine pure_ (i := 41) (N := some 64) (v := undef) (a' := ?_) (bb 58 4398046511103) rfl rfl (any_of HT_.out (by kernel_rfl)) (fun _ _ _ h => h) (Or.inr ⟨by rfl, rfl⟩) ?_ ?_
                rotate_left
                · simp only [Act.put, List.setIfInBounds_toArray, List.set_cons_zero, List.set_cons_succ]; (try simp only [i64_w]); (try simp only [i32_w])
                  rfl
                refine pure_ (i := 42) (N := some 65) (v := undef) (a' := ?_) (bb 58 8796093022207) rfl rfl (any_of HT_.out (by kernel_rfl)) (fun _ _ _ h => h) (Or.inr ⟨by rfl, rfl⟩) ?_ ?_
                rotate_left
                · simp only [Act.put, List.setIfInBounds_toArray, List.set_cons_zero, List.set_cons_succ]; (try simp only [i64_w]); (try simp only [i32_w])
                  rfl
                refine pure_ (i := 43) (N := some 66) (v := undef) (a' := ?_) (bb 58 17592186044415) rfl rfl (any_of HT_.out (by kernel_rfl)) (fun _ _ _ h => h) (Or.inr ⟨by rfl, rfl⟩) ?_ ?_
                rotate_left
                · simp only [Act.put, List.setIfInBounds_toArray, List.set_cons_zero, List.set_cons_succ]; (try simp only [i64_w]); (try simp only [i32_w])
                  rfl
                refine pure_ (i := 44) (N := some 67) (v := undef) (a' := ?_) (bb 58 35184372088831) rfl rfl (any_of HT_.out (by kernel_rfl)) (fun _ _ _ h => h) (Or.inr ⟨by rfl, rfl⟩) ?_ ?_
                rotate_left
                · simp only [Act.put, List.setIfInBounds_toArray, List.set_cons_zero, List.set_cons_succ]; (try simp only [i64_w]); (try simp only [i32_w])
                  rfl
                refine pu_ 45 (some 68) (bb 58 70368744177663) (any_of HT_.out (by kernel_rfl)) ?_
                refine pu_ 46 (some 69) (bb 58 140737488355327) (any_of HT_.out (by kernel_rfl)) ?_
                refine pu_ 47 (some 70) (bb 58 281474976710655) (any_of HT_.out (by kernel_rfl)) ?_
                refine tk_ 48 (some 71) (bb 58 562949953421311) (take_ofW HT_.out HW_.out (by kernel_rfl)) hHeld ?_
                refine tk_ 50 (some 73) (bb 58 1688849860263935) (take_ofW HT_.out HW_.out (by kernel_rfl)) hHeld ?_
                refine tk_ 53 (some 76) (bb 58 10696049115004927) (take_ofW HT_.out HW_.out (by kernel_rfl)) hHeld ?_
                refine one_ (i := 49) (N := some 72) (bb 58 11258999068426239) rfl rfl (one_of HT_.out (by kernel_rfl)) (by decide) (fun K hK => ?_)
                refine goes_ Tryd.func41 (by kernel_rfl) rfl #[.agg #[.bool a0_0, .string a0_1, .int .i64 a0_2]] (by rfl) rfl rfl MP ?_
                with_reducible refine (arith_Abs.calls a0_0 a0_1 a0_2 t611 t612 t613 _ A20.out).mono ?_
                rintro e w66 ⟨rfl, hb⟩
                refine ⟨_, rfl, ?_⟩
                replace HO580 := Aside0.mk (Kd.R_below (RB HO580.out) hb)
                replace BK576 := bkb_ BK576 hb
                replace BK577 := bkb_ BK577 hb
                replace BK589 := bkb_ BK589 hb
                replace BK590 := bkb_ BK590 hb
                replace BK594 := bkb_ BK594 hb
                replace HB := hbs_ HB hb
                (try clear hb)
                (try clear hb2)
                (try clear hk)
                (try clear hi)
                refine hK.out _ _ CE (fun hHeld => ?_)
                clear hK K
                refine no_ (some 72) ?_
                refine one_ (i := 51) (N := some 74) (bb 58 13510798882111487) rfl rfl (one_of HT_.out (by kernel_rfl)) (by decide) (fun K hK => ?_)
                refine goes_ Tryd.func41 (by kernel_rfl) rfl #[.agg #[.bool a1_0, .string a1_1, .int .i64 a1_2]] (by rfl) rfl rfl MP ?_
                with_reducible refine (arith_Abs.calls a1_0 a1_1 a1_2 t614 t615 t616 _ A21.out).mono ?_
                rintro e w67 ⟨rfl, hb⟩
                refine ⟨_, rfl, ?_⟩
                replace HO580 := Aside0.mk (Kd.R_below (RB HO580.out) hb)
                replace BK576 := bkb_ BK576 hb
                replace BK577 := bkb_ BK577 hb
                replace BK589 := bkb_ BK589 hb
                replace BK590 := bkb_ BK590 hb
                replace BK594 := bkb_ BK594 hb
                replace HB := hbs_ HB hb
                (try clear hb)
                (try clear hb2)
                (try clear hk)
                (try clear hi)
                refine hK.out _ _ CE (fun hHeld => ?_)
                clear hK K
                refine no_ (some 74) ?_
                refine one_ (i := 52) (N := some 75) (bb 58 18014398509481983) rfl rfl (one_of HT_.out (by kernel_rfl)) (by decide) (fun K hK => ?_)
                refine goes_ Tryd.func38 (by kernel_rfl) rfl #[.agg #[.bool t611, .string t612, .int .i64 t613], .agg #[.bool t614, .string t615, .int .i64 t616]] (by rfl) rfl rfl MP ?_
                with_reducible refine (arith_Mul.calls k t611 t612 t613 t614 t615 t616 t617 t618 t619 _ A22.out).mono ?_
                rintro e w68 ⟨rfl, hb⟩
                refine ⟨_, rfl, ?_⟩
                replace HO580 := Aside0.mk (Kd.R_below (RB HO580.out) hb)
                replace BK576 := bkb_ BK576 hb
                replace BK577 := bkb_ BK577 hb
                replace BK589 := bkb_ BK589 hb
                replace BK590 := bkb_ BK590 hb
                replace BK594 := bkb_ BK594 hb
                replace HB := hbs_ HB hb
                (try clear hb)
                (try clear hb2)
                (try clear hk)
                (try clear hi)
                refine hK.out _ _ CE (fun hHeld => ?_)
                clear hK K
                refine no_ (some 75) ?_
                refine one_ (i := 54) (N := some 77) (bb 58 36028797018963967) rfl rfl (one_of HT_.out (by kernel_rfl)) (by decide) (fun K hK => ?_)
                refine goes_ Tryd.func41 (by kernel_rfl) rfl #[.agg #[.bool t591, .string t592, .int .i64 t593]] (by rfl) rfl rfl MP ?_
                with_reducible refine (arith_Abs.calls t591 t592 t593 t620 t621 t622 _ A23.out).mono ?_
                rintro e w69 ⟨rfl, hb⟩
                refine ⟨_, rfl, ?_⟩
                replace HO580 := Aside0.mk (Kd.R_below (RB HO580.out) hb)
                replace BK576 := bkb_ BK576 hb
                replace BK577 := bkb_ BK577 hb
                replace BK589 := bkb_ BK589 hb
                replace BK590 := bkb_ BK590 hb
                replace BK594 := bkb_ BK594 hb
                replace HB := hbs_ HB hb
                (try clear hb)
                (try clear hb2)
                (try clear hk)
                (try clear hi)
                refine hK.out _ _ CE (fun hHeld => ?_)
                clear hK K
                refine no_ (some 77) ?_
                refine pu_ 55 (some 78) (bb 58 72057594037927935) (any_of HT_.out (by kernel_rfl)) ?_
                refine pu_ 56 (some 79) (bb 58 144115188075855871) (any_of HT_.out (by kernel_rfl)) ?_
                refine pu_ 57 (some 4) (bb 58 288230376151711743) (any_of HT_.out (by kernel_rfl)) ?_
                refine done_ (done_of HT_.out (by kernel_rfl)) ?_
                try go_wp2
                go_ret
                exact ⟨ER, BL HB⟩
              rw [if_neg c19] at H
              have c19b0 : (t592.toList == ([48] : List UInt8)) = false := beq_eq_false_iff_ne.mpr c19
              have c19b1 : (t592.toList != ([48] : List UInt8)) = true := bne_iff_ne.mpr c19
              by_cases c70 : (t591 == (a0_0 != a1_0)) = true
              · rw [if_pos c70] at H
                have c70b0 : (t591 == (a0_0 != a1_0)) = true := c70
                (try (have c70b20 : (t591 == !(a0_0 == a1_0)) = true := by revert c70b0; cases t591 <;> cases a0_0 <;> cases a1_0 <;> simp))
                (try (have c70b21 : decide (t591 = !(a0_0 == a1_0)) = true := by revert c70b0; cases t591 <;> cases a0_0 <;> cases a1_0 <;> simp))
                (try (have c70b22 : (t591 = !(a0_0 == a1_0)) = True := by revert c70b0; cases t591 <;> cases a0_0 <;> cases a1_0 <;> simp))
                (try (have c70b23 : (t591 == (a0_0 == a1_0)) = false := by revert c70b0; cases t591 <;> cases a0_0 <;> cases a1_0 <;> simp))
                (try (have c70b24 : decide (t591 = !decide (a0_0 = a1_0)) = true := by revert c70b0; cases t591 <;> cases a0_0 <;> cases a1_0 <;> simp))
                (try (have c70b25 : (t591 == !decide (a0_0 = a1_0)) = true := by revert c70b0; cases t591 <;> cases a0_0 <;> cases a1_0 <;> simp))
                (try (have c70b26 : (t591 = (a0_0 == a1_0)) = False := by revert c70b0; cases t591 <;> cases a0_0 <;> cases a1_0 <;> simp))
                (try (have c70b27 : (t591 = !decide (a0_0 = a1_0)) = True := by revert c70b0; cases t591 <;> cases a0_0 <;> cases a1_0 <;> simp))
                (try (have c70b28 : (t591 == decide (a0_0 = a1_0)) = false := by revert c70b0; cases t591 <;> cases a0_0 <;> cases a1_0 <;> simp))
                (try (have c70b29 : (!t591 == (a0_0 == a1_0)) = true := by revert c70b0; cases t591 <;> cases a0_0 <;> cases a1_0 <;> simp))
                (try (have c70b30 : ((!t591) == (a0_0 == a1_0)) = true := by revert c70b0; cases t591 <;> cases a0_0 <;> cases a1_0 <;> simp))
                (try (have c70b1 : decide (t591 = (a0_0 != a1_0)) = true := by simpa using c70))
                (try (have c70b2 : (t591 == (a0_0 != a1_0)) = true := by simpa using c70))
                clear c70
                obtain ⟨⟨t623, t624, t625⟩, A710, H⟩ := Option.bind_eq_some_iff.mp H
                (try dsimp -simprocs only at H)
                have A71 := Aside0.mk A710
                clear A710
                obtain ⟨⟨t626, t627, t628⟩, A720, H⟩ := Option.bind_eq_some_iff.mp H
                (try dsimp -simprocs only at H)
                have A72 := Aside0.mk A720
                clear A720
                obtain ⟨⟨t629, t630, t631⟩, A730, H⟩ := Option.bind_eq_some_iff.mp H
                (try dsimp -simprocs only at H)
                have A73 := Aside0.mk A730
                clear A730
                obtain ⟨⟨t632, t633, t634⟩, A740, H⟩ := Option.bind_eq_some_iff.mp H
                (try dsimp -simprocs only at H)
                have A74 := Aside0.mk A740
                clear A740
                obtain rfl := Option.some.inj H
                refine pu_ 35 (some 58) (bb 58 68719476735) (any_of HT_.out (by kernel_rfl)) ?_
                refine pu_ 36 (some 59) (bb 58 137438953471) (any_of HT_.out (by kernel_rfl)) ?_
                refine pu_ 37 (some 60) (bb 58 274877906943) (any_of HT_.out (by kernel_rfl)) ?_
                refine pu_ 39 (some 62) (bb 58 824633720831) (any_of HT_.out (by kernel_rfl)) ?_
                refine pu_ 41 (some 64) (bb 58 3023656976383) (any_of HT_.out (by kernel_rfl)) ?_
                refine tk_ 38 (some 61) (bb 58 3298534883327) (take_ofW HT_.out HW_.out (by kernel_rfl)) hHeld ?_
                refine tk_ 40 (some 63) (bb 58 4398046511103) (take_ofW HT_.out HW_.out (by kernel_rfl)) hHeld ?_
                refine tk_ 42 (some 65) (bb 58 8796093022207) (take_ofW HT_.out HW_.out (by kernel_rfl)) hHeld ?_
                refine pu_ 43 (some 66) (bb 58 17592186044415) (any_of HT_.out (by kernel_rfl)) ?_
                refine pu_ 44 (some 67) (bb 58 35184372088831) (any_of HT_.out (by kernel_rfl)) ?_
                refine pu_ 45 (some 68) (bb 58 70368744177663) (any_of HT_.out (by kernel_rfl)) ?_
                refine pu_ 46 (some 69) (bb 58 140737488355327) (any_of HT_.out (by kernel_rfl)) ?_
                refine pu_ 47 (some 70) (bb 58 281474976710655) (any_of HT_.out (by kernel_rfl)) ?_
                refine tk_ 48 (some 71) (bb 58 562949953421311) (take_ofW HT_.out HW_.out (by kernel_rfl)) hHeld ?_
                refine tk_ 50 (some 73) (bb 58 1688849860263935) (take_ofW HT_.out HW_.out (by kernel_rfl)) hHeld ?_
                refine tk_ 53 (some 76) (bb 58 10696049115004927) (take_ofW HT_.out HW_.out (by kernel_rfl)) hHeld ?_
                refine one_ (i := 49) (N := some 72) (bb 58 11258999068426239) rfl rfl (one_of HT_.out (by kernel_rfl)) (by decide) (fun K hK => ?_)
                refine goes_ Tryd.func41 (by kernel_rfl) rfl #[.agg #[.bool a0_0, .string a0_1, .int .i64 a0_2]] (by rfl) rfl rfl MP ?_
                with_reducible refine (arith_Abs.calls a0_0 a0_1 a0_2 t623 t624 t625 _ A71.out).mono ?_
                rintro e w117 ⟨rfl, hb⟩
                refine ⟨_, rfl, ?_⟩
                replace HO580 := Aside0.mk (Kd.R_below (RB HO580.out) hb)
                replace BK576 := bkb_ BK576 hb
                replace BK577 := bkb_ BK577 hb
                replace BK589 := bkb_ BK589 hb
                replace BK590 := bkb_ BK590 hb
                replace BK594 := bkb_ BK594 hb
                replace HB := hbs_ HB hb
                (try clear hb)
                (try clear hb2)
                (try clear hk)
                (try clear hi)
                refine hK.out _ _ CE (fun hHeld => ?_)
                clear hK K
                refine no_ (some 72) ?_
                refine one_ (i := 51) (N := some 74) (bb 58 13510798882111487) rfl rfl (one_of HT_.out (by kernel_rfl)) (by decide) (fun K hK => ?_)
                refine goes_ Tryd.func41 (by kernel_rfl) rfl #[.agg #[.bool a1_0, .string a1_1, .int .i64 a1_2]] (by rfl) rfl rfl MP ?_
                with_reducible refine (arith_Abs.calls a1_0 a1_1 a1_2 t626 t627 t628 _ A72.out).mono ?_
                rintro e w118 ⟨rfl, hb⟩
                refine ⟨_, rfl, ?_⟩
                replace HO580 := Aside0.mk (Kd.R_below (RB HO580.out) hb)
                replace BK576 := bkb_ BK576 hb
                replace BK577 := bkb_ BK577 hb
                replace BK589 := bkb_ BK589 hb
                replace BK590 := bkb_ BK590 hb
                replace BK594 := bkb_ BK594 hb
                replace HB := hbs_ HB hb
                (try clear hb)
                (try clear hb2)
                (try clear hk)
                (try clear hi)
                refine hK.out _ _ CE (fun hHeld => ?_)
                clear hK K
                refine no_ (some 74) ?_
                refine one_ (i := 52) (N := some 75) (bb 58 18014398509481983) rfl rfl (one_of HT_.out (by kernel_rfl)) (by decide) (fun K hK => ?_)
                refine goes_ Tryd.func38 (by kernel_rfl) rfl #[.agg #[.bool t623, .string t624, .int .i64 t625], .agg #[.bool t626, .string t627, .int .i64 t628]] (by rfl) rfl rfl MP ?_
                with_reducible refine (arith_Mul.calls k t623 t624 t625 t626 t627 t628 t629 t630 t631 _ A73.out).mono ?_
                rintro e w119 ⟨rfl, hb⟩
                refine ⟨_, rfl, ?_⟩
                replace HO580 := Aside0.mk (Kd.R_below (RB HO580.out) hb)
                replace BK576 := bkb_ BK576 hb
                replace BK577 := bkb_ BK577 hb
                replace BK589 := bkb_ BK589 hb
                replace BK590 := bkb_ BK590 hb
                replace BK594 := bkb_ BK594 hb
                replace HB := hbs_ HB hb
                (try clear hb)
                (try clear hb2)
                (try clear hk)
                (try clear hi)
                refine hK.out _ _ CE (fun hHeld => ?_)
                clear hK K
                refine no_ (some 75) ?_
                refine one_ (i := 54) (N := some 77) (bb 58 36028797018963967) rfl rfl (one_of HT_.out (by kernel_rfl)) (by decide) (fun K hK => ?_)
                refine goes_ Tryd.func41 (by kernel_rfl) rfl #[.agg #[.bool t591, .string t592, .int .i64 t593]] (by rfl) rfl rfl MP ?_
                with_reducible refine (arith_Abs.calls t591 t592 t593 t632 t633 t634 _ A74.out).mono ?_
                rintro e w120 ⟨rfl, hb⟩
                refine ⟨_, rfl, ?_⟩
                replace HO580 := Aside0.mk (Kd.R_below (RB HO580.out) hb)
                replace BK576 := bkb_ BK576 hb
                replace BK577 := bkb_ BK577 hb
                replace BK589 := bkb_ BK589 hb
                replace BK590 := bkb_ BK590 hb
                replace BK594 := bkb_ BK594 hb
                replace HB := hbs_ HB hb
                (try clear hb)
                (try clear hb2)
                (try clear hk)
                (try clear hi)
                refine hK.out _ _ CE (fun hHeld => ?_)
                clear hK K
                refine no_ (some 77) ?_
                refine pu_ 55 (some 78) (bb 58 72057594037927935) (any_of HT_.out (by kernel_rfl)) ?_
                refine pu_ 56 (some 79) (bb 58 144115188075855871) (any_of HT_.out (by kernel_rfl)) ?_
                refine pu_ 57 (some 4) (bb 58 288230376151711743) (any_of HT_.out (by kernel_rfl)) ?_
                refine done_ (done_of HT_.out (by kernel_rfl)) ?_
                try go_wp2
                go_ret
                exact ⟨ER, BL HB⟩
              rw [if_neg c70] at H
              have c70b0 : (t591 == (a0_0 != a1_0)) = false := by simpa using c70
              (try (have c70b1 : decide (t591 = (a0_0 != a1_0)) = false := by simpa using c70))
              (try (have c70b2 : (t591 == (a0_0 != a1_0)) = false := by simpa using c70))
              (try (have c70b3 : ¬ (t591 = (a0_0 != a1_0)) := by simpa using c70))
              clear c70
              exact absurd ((Option.some.inj H).trans HT.out) (by decide)
            rw [if_neg c18] at H
            have c18b0 : (t605 == t608 && (t606.toList == t609.toList && (t607 == t610))) = false := by simpa using c18
            (try (have c18b1 : decide (t605 = t608 && (t606.toList == t609.toList && (t607 == t610))) = false := by simpa using c18))
            (try (have c18b2 : (t605 == t608 && (t606.toList == t609.toList && (t607 == t610))) = false := by simpa using c18))
            (try (have c18b3 : ¬ (t605 = t608 && (t606.toList == t609.toList && (t607 == t610))) := by simpa using c18))
            clear c18
            exact absurd ((Option.some.inj H).trans HT.out) (by decide)
          rw [if_neg c15] at H
          have c15b0 : (t583 == t586 && (t584.toList == t587.toList && (t585 == t588))) = false := by simpa using c15
          (try (have c15b1 : decide (t583 = t586 && (t584.toList == t587.toList && (t585 == t588))) = false := by simpa using c15))
          (try (have c15b2 : (t583 == t586 && (t584.toList == t587.toList && (t585 == t588))) = false := by simpa using c15))
          (try (have c15b3 : ¬ (t583 = t586 && (t584.toList == t587.toList && (t585 == t588))) := by simpa using c15))
          clear c15
          obtain ⟨⟨t635, t636, t637⟩, A1210, H⟩ := Option.bind_eq_some_iff.mp H
          (try dsimp -simprocs only at H)
          have A121 := Aside0.mk A1210
          clear A1210
          by_cases c122 : (t583 == t635 && (t584.toList == t636.toList && (t585 == t637))) = true
          · rw [if_pos c122] at H
            have c122b0 : (t583 == t635 && (t584.toList == t636.toList && (t585 == t637))) = true := c122
            (try (have c122b1 : decide (t583 = t635 && (t584.toList == t636.toList && (t585 == t637))) = true := by simpa using c122))
            (try (have c122b2 : (t583 == t635 && (t584.toList == t636.toList && (t585 == t637))) = true := by simpa using c122))
            clear c122
            obtain ⟨⟨t638, t639, t640⟩, A1230, H⟩ := Option.bind_eq_some_iff.mp H
            (try dsimp -simprocs only at H)
            have A123 := Aside0.mk A1230
            clear A1230
            obtain ⟨⟨t641, t642, t643⟩, A1240, H⟩ := Option.bind_eq_some_iff.mp H
            (try dsimp -simprocs only at H)
            have A124 := Aside0.mk A1240
            clear A1240
            by_cases c125 : (t638 == t641 && (t639.toList == t642.toList && (t640 == t643))) = true
            · rw [if_pos c125] at H
              have c125b0 : (t638 == t641 && (t639.toList == t642.toList && (t640 == t643))) = true := c125
              (try (have c125b1 : decide (t638 = t641 && (t639.toList == t642.toList && (t640 == t643))) = true := by simpa using c125))
              (try (have c125b2 : (t638 == t641 && (t639.toList == t642.toList && (t640 == t643))) = true := by simpa using c125))
              clear c125
              (try have HS2_ := Aside0.mk H)
              (try clear H)
              refine pu_ 16 (some 39) (bb 58 131071) (any_of HT_.out (by kernel_rfl)) ?_
              refine pu_ 17 (some 40) (bb 58 262143) (any_of HT_.out (by kernel_rfl)) ?_
              refine pu_ 18 (some 41) (bb 58 524287) (any_of HT_.out (by kernel_rfl)) ?_
              refine tk_ 19 (some 42) (bb 58 1048575) (take_ofW HT_.out HW_.out (by kernel_rfl)) hHeld ?_
              refine tk_ 20 (some 43) (bb 58 2097151) (take_ofW HT_.out HW_.out (by kernel_rfl)) hHeld ?_
              refine one_ (i := 21) (N := some 44) (bb 58 4194303) rfl rfl (one_of HT_.out (by kernel_rfl)) (by decide) (fun K hK => ?_)
              refine goes_ Tryd.func40 (by kernel_rfl) rfl #[.agg #[.bool t586, .string t587, .int .i64 t588]] (by rfl) rfl rfl MP ?_
              with_reducible refine (arith_Neg.calls t586 t587 t588 t635 t636 t637 _ A121.out).mono ?_
              rintro e w171 ⟨rfl, hb⟩
              refine ⟨_, rfl, ?_⟩
              replace HO580 := Aside0.mk (Kd.R_below (RB HO580.out) hb)
              replace BK576 := bkb_ BK576 hb
              replace BK577 := bkb_ BK577 hb
              replace BK589 := bkb_ BK589 hb
              replace BK590 := bkb_ BK590 hb
              replace BK594 := bkb_ BK594 hb
              replace HB := hbs_ HB hb
              (try clear hb)
              (try clear hb2)
              (try clear hk)
              (try clear hi)
              refine hK.out _ _ CE (fun hHeld => ?_)
              clear hK K
              refine no_ (some 44) ?_
              refine pu_ 22 (some 45) (bb 58 8388607) (any_of HT_.out (by kernel_rfl)) ?_
              refine pu_ 23 (some 46) (bb 58 16777215) (any_of HT_.out (by kernel_rfl)) ?_
              refine pu_ 24 (some 47) (bb 58 33554431) (any_of HT_.out (by kernel_rfl)) ?_
              refine pu_ 25 (some 48) (bb 58 67108863) (any_of HT_.out (by kernel_rfl)) ?_
              refine tk_ 26 (some 49) (bb 58 134217727) (take_ofW HT_.out HW_.out (by kernel_rfl)) hHeld ?_
              refine tk_ 28 (some 51) (bb 58 402653183) (take_ofW HT_.out HW_.out (by kernel_rfl)) hHeld ?_
              refine one_ (i := 27) (N := some 50) (bb 58 536870911) rfl rfl (one_of HT_.out (by kernel_rfl)) (by decide) (fun K hK => ?_)
              refine goes_ Tryd.func41 (by kernel_rfl) rfl #[.agg #[.bool t583, .string t584, .int .i64 t585]] (by rfl) rfl rfl MP ?_
              with_reducible refine (arith_Abs.calls t583 t584 t585 t638 t639 t640 _ A123.out).mono ?_
              rintro e w172 ⟨rfl, hb⟩
              refine ⟨_, rfl, ?_⟩
              replace HO580 := Aside0.mk (Kd.R_below (RB HO580.out) hb)
              replace BK576 := bkb_ BK576 hb
              replace BK577 := bkb_ BK577 hb
              replace BK589 := bkb_ BK589 hb
              replace BK590 := bkb_ BK590 hb
              replace BK594 := bkb_ BK594 hb
              replace HB := hbs_ HB hb
              (try clear hb)
              (try clear hb2)
              (try clear hk)
              (try clear hi)
              refine hK.out _ _ CE (fun hHeld => ?_)
              clear hK K
              refine no_ (some 50) ?_
              refine one_ (i := 29) (N := some 52) (bb 58 1073741823) rfl rfl (one_of HT_.out (by kernel_rfl)) (by decide) (fun K hK => ?_)
              refine goes_ Tryd.func41 (by kernel_rfl) rfl #[.agg #[.bool t586, .string t587, .int .i64 t588]] (by rfl) rfl rfl MP ?_
              with_reducible refine (arith_Abs.calls t586 t587 t588 t641 t642 t643 _ A124.out).mono ?_
              rintro e w173 ⟨rfl, hb⟩
              refine ⟨_, rfl, ?_⟩
              replace HO580 := Aside0.mk (Kd.R_below (RB HO580.out) hb)
              replace BK576 := bkb_ BK576 hb
              replace BK577 := bkb_ BK577 hb
              replace BK589 := bkb_ BK589 hb
              replace BK590 := bkb_ BK590 hb
              replace BK594 := bkb_ BK594 hb
              replace HB := hbs_ HB hb
              (try clear hb)
              (try clear hb2)
              (try clear hk)
              (try clear hi)
              refine hK.out _ _ CE (fun hHeld => ?_)
              clear hK K
              refine no_ (some 52) ?_
              refine pu_ 30 (some 53) (bb 58 2147483647) (any_of HT_.out (by kernel_rfl)) ?_
              refine pu_ 31 (some 54) (bb 58 4294967295) (any_of HT_.out (by kernel_rfl)) ?_
              refine pu_ 32 (some 55) (bb 58 8589934591) (any_of HT_.out (by kernel_rfl)) ?_
              refine pu_ 33 (some 56) (bb 58 17179869183) (any_of HT_.out (by kernel_rfl)) ?_
              refine tk_ 34 (some 57) (bb 58 34359738367) (take_ofW HT_.out HW_.out (by kernel_rfl)) hHeld ?_
              (try have H := HS2_.out)
              (try clear HS2_)
              by_cases c126 : t592.toList = ([48] : List UInt8)
              · rw [if_pos c126] at H
                have c126b0 : (t592.toList == ([48] : List UInt8)) = true := beq_iff_eq.mpr c126
                have c126b1 : (t592.toList != ([48] : List UInt8)) = false := bne_eq_false_iff_eq.mpr c126
                clear c126
                obtain ⟨⟨t644, t645, t646⟩, A1270, H⟩ := Option.bind_eq_some_iff.mp H
                (try dsimp -simprocs only at H)
                have A127 := Aside0.mk A1270
                clear A1270
                obtain ⟨⟨t647, t648, t649⟩, A1280, H⟩ := Option.bind_eq_some_iff.mp H
                (try dsimp -simprocs only at H)
                have A128 := Aside0.mk A1280
                clear A1280
                obtain ⟨⟨t650, t651, t652⟩, A1290, H⟩ := Option.bind_eq_some_iff.mp H
                (try dsimp -simprocs only at H)
                have A129 := Aside0.mk A1290
                clear A1290
                obtain ⟨⟨t653, t654, t655⟩, A1300, H⟩ := Option.bind_eq_some_iff.mp H
                (try dsimp -simprocs only at H)
                have A130 := Aside0.mk A1300
                clear A1300
                obtain rfl := Option.some.inj H
                refine pu_ 35 (some 58) (bb 58 68719476735) (any_of HT_.out (by kernel_rfl)) ?_
                refine pu_ 36 (some 59) (bb 58 137438953471) (any_of HT_.out (by kernel_rfl)) ?_
                refine pure_ (i := 37) (N := some 60) (v := undef) (a' := ?_) (bb 58 274877906943) rfl rfl (any_of HT_.out (by kernel_rfl)) (fun _ _ _ h => h) (Or.inr ⟨by rfl, rfl⟩) ?_ ?_
                rotate_left
                · simp only [Act.put, List.setIfInBounds_toArray, List.set_cons_zero, List.set_cons_succ]; (try simp only [i64_w]); (try simp only [i32_w])
                  rfl
                refine pure_ (i := 38) (N := some 61) (v := undef) (a' := ?_) (bb 58 549755813887) rfl rfl (any_of HT_.out (by kernel_rfl)) (fun _ _ _ h => h) (Or.inr ⟨by rfl, rfl⟩) ?_ ?_
                rotate_left
                · simp only [Act.put, List.setIfInBounds_toArray, List.set_cons_zero, List.set_cons_succ]; (try simp only [i64_w]); (try simp only [i32_w])
                  rfl
                refine pure_ (i := 39) (N := some 62) (v := undef) (a' := ?_) (bb 58 1099511627775) rfl rfl (any_of HT_.out (by kernel_rfl)) (fun _ _ _ h => h) (Or.inr ⟨by rfl, rfl⟩) ?_ ?_
                rotate_left
                · simp only [Act.put, List.setIfInBounds_toArray, List.set_cons_zero, List.set_cons_succ]; (try simp only [i64_w]); (try simp only [i32_w])
                  rfl
                refine pure_ (i := 40) (N := some 63) (v := undef) (a' := ?_) (bb 58 2199023255551) rfl rfl (any_of HT_.out (by kernel_rfl)) (fun _ _ _ h => h) (Or.inr ⟨by rfl, rfl⟩) ?_ ?_
                rotate_left
                · simp only [Act.put, List.setIfInBounds_toArray, List.set_cons_zero, List.set_cons_succ]; (try simp only [i64_w]); (try simp only [i32_w])
                  rfl
                refine pure_ (i := 41) (N := some 64) (v := undef) (a' := ?_) (bb 58 4398046511103) rfl rfl (any_of HT_.out (by kernel_rfl)) (fun _ _ _ h => h) (Or.inr ⟨by rfl, rfl⟩) ?_ ?_
                rotate_left
                · simp only [Act.put, List.setIfInBounds_toArray, List.set_cons_zero, List.set_cons_succ]; (try simp only [i64_w]); (try simp only [i32_w])
                  rfl
                refine pure_ (i := 42) (N := some 65) (v := undef) (a' := ?_) (bb 58 8796093022207) rfl rfl (any_of HT_.out (by kernel_rfl)) (fun _ _ _ h => h) (Or.inr ⟨by rfl, rfl⟩) ?_ ?_
                rotate_left
                · simp only [Act.put, List.setIfInBounds_toArray, List.set_cons_zero, List.set_cons_succ]; (try simp only [i64_w]); (try simp only [i32_w])
                  rfl
                refine pure_ (i := 43) (N := some 66) (v := undef) (a' := ?_) (bb 58 17592186044415) rfl rfl (any_of HT_.out (by kernel_rfl)) (fun _ _ _ h => h) (Or.inr ⟨by rfl, rfl⟩) ?_ ?_
                rotate_left
                · simp only [Act.put, List.setIfInBounds_toArray, List.set_cons_zero, List.set_cons_succ]; (try simp only [i64_w]); (try simp only [i32_w])
                  rfl
                refine pure_ (i := 44) (N := some 67) (v := undef) (a' := ?_) (bb 58 35184372088831) rfl rfl (any_of HT_.out (by kernel_rfl)) (fun _ _ _ h => h) (Or.inr ⟨by rfl, rfl⟩) ?_ ?_
                rotate_left
                · simp only [Act.put, List.setIfInBounds_toArray, List.set_cons_zero, List.set_cons_succ]; (try simp only [i64_w]); (try simp only [i32_w])
                  rfl
                refine pu_ 45 (some 68) (bb 58 70368744177663) (any_of HT_.out (by kernel_rfl)) ?_
                refine pu_ 46 (some 69) (bb 58 140737488355327) (any_of HT_.out (by kernel_rfl)) ?_
                refine pu_ 47 (some 70) (bb 58 281474976710655) (any_of HT_.out (by kernel_rfl)) ?_
                refine tk_ 48 (some 71) (bb 58 562949953421311) (take_ofW HT_.out HW_.out (by kernel_rfl)) hHeld ?_
                refine tk_ 50 (some 73) (bb 58 1688849860263935) (take_ofW HT_.out HW_.out (by kernel_rfl)) hHeld ?_
                refine tk_ 53 (some 76) (bb 58 10696049115004927) (take_ofW HT_.out HW_.out (by kernel_rfl)) hHeld ?_
                refine one_ (i := 49) (N := some 72) (bb 58 11258999068426239) rfl rfl (one_of HT_.out (by kernel_rfl)) (by decide) (fun K hK => ?_)
                refine goes_ Tryd.func41 (by kernel_rfl) rfl #[.agg #[.bool a0_0, .string a0_1, .int .i64 a0_2]] (by rfl) rfl rfl MP ?_
                with_reducible refine (arith_Abs.calls a0_0 a0_1 a0_2 t644 t645 t646 _ A127.out).mono ?_
                rintro e w174 ⟨rfl, hb⟩
                refine ⟨_, rfl, ?_⟩
                replace HO580 := Aside0.mk (Kd.R_below (RB HO580.out) hb)
                replace BK576 := bkb_ BK576 hb
                replace BK577 := bkb_ BK577 hb
                replace BK589 := bkb_ BK589 hb
                replace BK590 := bkb_ BK590 hb
                replace BK594 := bkb_ BK594 hb
                replace HB := hbs_ HB hb
                (try clear hb)
                (try clear hb2)
                (try clear hk)
                (try clear hi)
                refine hK.out _ _ CE (fun hHeld => ?_)
                clear hK K
                refine no_ (some 72) ?_
                refine one_ (i := 51) (N := some 74) (bb 58 13510798882111487) rfl rfl (one_of HT_.out (by kernel_rfl)) (by decide) (fun K hK => ?_)
                refine goes_ Tryd.func41 (by kernel_rfl) rfl #[.agg #[.bool a1_0, .string a1_1, .int .i64 a1_2]] (by rfl) rfl rfl MP ?_
                with_reducible refine (arith_Abs.calls a1_0 a1_1 a1_2 t647 t648 t649 _ A128.out).mono ?_
                rintro e w175 ⟨rfl, hb⟩
                refine ⟨_, rfl, ?_⟩
                replace HO580 := Aside0.mk (Kd.R_below (RB HO580.out) hb)
                replace BK576 := bkb_ BK576 hb
                replace BK577 := bkb_ BK577 hb
                replace BK589 := bkb_ BK589 hb
                replace BK590 := bkb_ BK590 hb
                replace BK594 := bkb_ BK594 hb
                replace HB := hbs_ HB hb
                (try clear hb)
                (try clear hb2)
                (try clear hk)
                (try clear hi)
                refine hK.out _ _ CE (fun hHeld => ?_)
                clear hK K
                refine no_ (some 74) ?_
                refine one_ (i := 52) (N := some 75) (bb 58 18014398509481983) rfl rfl (one_of HT_.out (by kernel_rfl)) (by decide) (fun K hK => ?_)
                refine goes_ Tryd.func38 (by kernel_rfl) rfl #[.agg #[.bool t644, .string t645, .int .i64 t646], .agg #[.bool t647, .string t648, .int .i64 t649]] (by rfl) rfl rfl MP ?_
                with_reducible refine (arith_Mul.calls k t644 t645 t646 t647 t648 t649 t650 t651 t652 _ A129.out).mono ?_
                rintro e w176 ⟨rfl, hb⟩
                refine ⟨_, rfl, ?_⟩
                replace HO580 := Aside0.mk (Kd.R_below (RB HO580.out) hb)
                replace BK576 := bkb_ BK576 hb
                replace BK577 := bkb_ BK577 hb
                replace BK589 := bkb_ BK589 hb
                replace BK590 := bkb_ BK590 hb
                replace BK594 := bkb_ BK594 hb
                replace HB := hbs_ HB hb
                (try clear hb)
                (try clear hb2)
                (try clear hk)
                (try clear hi)
                refine hK.out _ _ CE (fun hHeld => ?_)
                clear hK K
                refine no_ (some 75) ?_
                refine one_ (i := 54) (N := some 77) (bb 58 36028797018963967) rfl rfl (one_of HT_.out (by kernel_rfl)) (by decide) (fun K hK => ?_)
                refine goes_ Tryd.func41 (by kernel_rfl) rfl #[.agg #[.bool t591, .string t592, .int .i64 t593]] (by rfl) rfl rfl MP ?_
                with_reducible refine (arith_Abs.calls t591 t592 t593 t653 t654 t655 _ A130.out).mono ?_
                rintro e w177 ⟨rfl, hb⟩
                refine ⟨_, rfl, ?_⟩
                replace HO580 := Aside0.mk (Kd.R_below (RB HO580.out) hb)
                replace BK576 := bkb_ BK576 hb
                replace BK577 := bkb_ BK577 hb
                replace BK589 := bkb_ BK589 hb
                replace BK590 := bkb_ BK590 hb
                replace BK594 := bkb_ BK594 hb
                replace HB := hbs_ HB hb
                (try clear hb)
                (try clear hb2)
                (try clear hk)
                (try clear hi)
                refine hK.out _ _ CE (fun hHeld => ?_)
                clear hK K
                refine no_ (some 77) ?_
                refine pu_ 55 (some 78) (bb 58 72057594037927935) (any_of HT_.out (by kernel_rfl)) ?_
                refine pu_ 56 (some 79) (bb 58 144115188075855871) (any_of HT_.out (by kernel_rfl)) ?_
                refine pu_ 57 (some 4) (bb 58 288230376151711743) (any_of HT_.out (by kernel_rfl)) ?_
                refine done_ (done_of HT_.out (by kernel_rfl)) ?_
                try go_wp2
                go_ret
                exact ⟨ER, BL HB⟩
              rw [if_neg c126] at H
              have c126b0 : (t592.toList == ([48] : List UInt8)) = false := beq_eq_false_iff_ne.mpr c126
              have c126b1 : (t592.toList != ([48] : List UInt8)) = true := bne_iff_ne.mpr c126
              by_cases c178 : (t591 == (a0_0 != a1_0)) = true
              · rw [if_pos c178] at H
                have c178b0 : (t591 == (a0_0 != a1_0)) = true := c178
                (try (have c178b20 : (t591 == !(a0_0 == a1_0)) = true := by revert c178b0; cases t591 <;> cases a0_0 <;> cases a1_0 <;> simp))
                (try (have c178b21 : decide (t591 = !(a0_0 == a1_0)) = true := by revert c178b0; cases t591 <;> cases a0_0 <;> cases a1_0 <;> simp))
                (try (have c178b22 : (t591 = !(a0_0 == a1_0)) = True := by revert c178b0; cases t591 <;> cases a0_0 <;> cases a1_0 <;> simp))
                (try (have c178b23 : (t591 == (a0_0 == a1_0)) = false := by revert c178b0; cases t591 <;> cases a0_0 <;> cases a1_0 <;> simp))
                (try (have c178b24 : decide (t591 = !decide (a0_0 = a1_0)) = true := by revert c178b0; cases t591 <;> cases a0_0 <;> cases a1_0 <;> simp))
                (try (have c178b25 : (t591 == !decide (a0_0 = a1_0)) = true := by revert c178b0; cases t591 <;> cases a0_0 <;> cases a1_0 <;> simp))
                (try (have c178b26 : (t591 = (a0_0 == a1_0)) = False := by revert c178b0; cases t591 <;> cases a0_0 <;> cases a1_0 <;> simp))
                (try (have c178b27 : (t591 = !decide (a0_0 = a1_0)) = True := by revert c178b0; cases t591 <;> cases a0_0 <;> cases a1_0 <;> simp))
                (try (have c178b28 : (t591 == decide (a0_0 = a1_0)) = false := by revert c178b0; cases t591 <;> cases a0_0 <;> cases a1_0 <;> simp))
                (try (have c178b29 : (!t591 == (a0_0 == a1_0)) = true := by revert c178b0; cases t591 <;> cases a0_0 <;> cases a1_0 <;> simp))
                (try (have c178b30 : ((!t591) == (a0_0 == a1_0)) = true := by revert c178b0; cases t591 <;> cases a0_0 <;> cases a1_0 <;> simp))
                (try (have c178b1 : decide (t591 = (a0_0 != a1_0)) = true := by simpa using c178))
                (try (have c178b2 : (t591 == (a0_0 != a1_0)) = true := by simpa using c178))
                clear c178
                obtain ⟨⟨t656, t657, t658⟩, A1790, H⟩ := Option.bind_eq_some_iff.mp H
                (try dsimp -simprocs only at H)
                have A179 := Aside0.mk A1790
                clear A1790
                obtain ⟨⟨t659, t660, t661⟩, A1800, H⟩ := Option.bind_eq_some_iff.mp H
                (try dsimp -simprocs only at H)
                have A180 := Aside0.mk A1800
                clear A1800
                obtain ⟨⟨t662, t663, t664⟩, A1810, H⟩ := Option.bind_eq_some_iff.mp H
                (try dsimp -simprocs only at H)
                have A181 := Aside0.mk A1810
                clear A1810
                obtain ⟨⟨t665, t666, t667⟩, A1820, H⟩ := Option.bind_eq_some_iff.mp H
                (try dsimp -simprocs only at H)
                have A182 := Aside0.mk A1820
                clear A1820
                obtain rfl := Option.some.inj H
                refine pu_ 35 (some 58) (bb 58 68719476735) (any_of HT_.out (by kernel_rfl)) ?_
                refine pu_ 36 (some 59) (bb 58 137438953471) (any_of HT_.out (by kernel_rfl)) ?_
                refine pu_ 37 (some 60) (bb 58 274877906943) (any_of HT_.out (by kernel_rfl)) ?_
                refine pu_ 39 (some 62) (bb 58 824633720831) (any_of HT_.out (by kernel_rfl)) ?_
                refine pu_ 41 (some 64) (bb 58 3023656976383) (any_of HT_.out (by kernel_rfl)) ?_
                refine tk_ 38 (some 61) (bb 58 3298534883327) (take_ofW HT_.out HW_.out (by kernel_rfl)) hHeld ?_
                refine tk_ 40 (some 63) (bb 58 4398046511103) (take_ofW HT_.out HW_.out (by kernel_rfl)) hHeld ?_
                refine tk_ 42 (some 65) (bb 58 8796093022207) (take_ofW HT_.out HW_.out (by kernel_rfl)) hHeld ?_
                refine pu_ 43 (some 66) (bb 58 17592186044415) (any_of HT_.out (by kernel_rfl)) ?_
                refine pu_ 44 (some 67) (bb 58 35184372088831) (any_of HT_.out (by kernel_rfl)) ?_
                refine pu_ 45 (some 68) (bb 58 70368744177663) (any_of HT_.out (by kernel_rfl)) ?_
                refine pu_ 46 (some 69) (bb 58 140737488355327) (any_of HT_.out (by kernel_rfl)) ?_
                refine pu_ 47 (some 70) (bb 58 281474976710655) (any_of HT_.out (by kernel_rfl)) ?_
                refine tk_ 48 (some 71) (bb 58 562949953421311) (take_ofW HT_.out HW_.out (by kernel_rfl)) hHeld ?_
                refine tk_ 50 (some 73) (bb 58 1688849860263935) (take_ofW HT_.out HW_.out (by kernel_rfl)) hHeld ?_
                refine tk_ 53 (some 76) (bb 58 10696049115004927) (take_ofW HT_.out HW_.out (by kernel_rfl)) hHeld ?_
                refine one_ (i := 49) (N := some 72) (bb 58 11258999068426239) rfl rfl (one_of HT_.out (by kernel_rfl)) (by decide) (fun K hK => ?_)
                refine goes_ Tryd.func41 (by kernel_rfl) rfl #[.agg #[.bool a0_0, .string a0_1, .int .i64 a0_2]] (by rfl) rfl rfl MP ?_
                with_reducible refine (arith_Abs.calls a0_0 a0_1 a0_2 t656 t657 t658 _ A179.out).mono ?_
                rintro e w226 ⟨rfl, hb⟩
                refine ⟨_, rfl, ?_⟩
                replace HO580 := Aside0.mk (Kd.R_below (RB HO580.out) hb)
                replace BK576 := bkb_ BK576 hb
                replace BK577 := bkb_ BK577 hb
                replace BK589 := bkb_ BK589 hb
                replace BK590 := bkb_ BK590 hb
                replace BK594 := bkb_ BK594 hb
                replace HB := hbs_ HB hb
                (try clear hb)
                (try clear hb2)
                (try clear hk)
                (try clear hi)
                refine hK.out _ _ CE (fun hHeld => ?_)
                clear hK K
                refine no_ (some 72) ?_
                refine one_ (i := 51) (N := some 74) (bb 58 13510798882111487) rfl rfl (one_of HT_.out (by kernel_rfl)) (by decide) (fun K hK => ?_)
                refine goes_ Tryd.func41 (by kernel_rfl) rfl #[.agg #[.bool a1_0, .string a1_1, .int .i64 a1_2]] (by rfl) rfl rfl MP ?_
                with_reducible refine (arith_Abs.calls a1_0 a1_1 a1_2 t659 t660 t661 _ A180.out).mono ?_
                rintro e w227 ⟨rfl, hb⟩
                refine ⟨_, rfl, ?_⟩
                replace HO580 := Aside0.mk (Kd.R_below (RB HO580.out) hb)
                replace BK576 := bkb_ BK576 hb
                replace BK577 := bkb_ BK577 hb
                replace BK589 := bkb_ BK589 hb
                replace BK590 := bkb_ BK590 hb
                replace BK594 := bkb_ BK594 hb
                replace HB := hbs_ HB hb
                (try clear hb)
                (try clear hb2)
                (try clear hk)
                (try clear hi)
                refine hK.out _ _ CE (fun hHeld => ?_)
                clear hK K
                refine no_ (some 74) ?_
                refine one_ (i := 52) (N := some 75) (bb 58 18014398509481983) rfl rfl (one_of HT_.out (by kernel_rfl)) (by decide) (fun K hK => ?_)
                refine goes_ Tryd.func38 (by kernel_rfl) rfl #[.agg #[.bool t656, .string t657, .int .i64 t658], .agg #[.bool t659, .string t660, .int .i64 t661]] (by rfl) rfl rfl MP ?_
                with_reducible refine (arith_Mul.calls k t656 t657 t658 t659 t660 t661 t662 t663 t664 _ A181.out).mono ?_
                rintro e w228 ⟨rfl, hb⟩
                refine ⟨_, rfl, ?_⟩
                replace HO580 := Aside0.mk (Kd.R_below (RB HO580.out) hb)
                replace BK576 := bkb_ BK576 hb
                replace BK577 := bkb_ BK577 hb
                replace BK589 := bkb_ BK589 hb
                replace BK590 := bkb_ BK590 hb
                replace BK594 := bkb_ BK594 hb
                replace HB := hbs_ HB hb
                (try clear hb)
                (try clear hb2)
                (try clear hk)
                (try clear hi)
                refine hK.out _ _ CE (fun hHeld => ?_)
                clear hK K
                refine no_ (some 75) ?_
                refine one_ (i := 54) (N := some 77) (bb 58 36028797018963967) rfl rfl (one_of HT_.out (by kernel_rfl)) (by decide) (fun K hK => ?_)
                refine goes_ Tryd.func41 (by kernel_rfl) rfl #[.agg #[.bool t591, .string t592, .int .i64 t593]] (by rfl) rfl rfl MP ?_
                with_reducible refine (arith_Abs.calls t591 t592 t593 t665 t666 t667 _ A182.out).mono ?_
                rintro e w229 ⟨rfl, hb⟩
                refine ⟨_, rfl, ?_⟩
                replace HO580 := Aside0.mk (Kd.R_below (RB HO580.out) hb)
                replace BK576 := bkb_ BK576 hb
                replace BK577 := bkb_ BK577 hb
                replace BK589 := bkb_ BK589 hb
                replace BK590 := bkb_ BK590 hb
                replace BK594 := bkb_ BK594 hb
                replace HB := hbs_ HB hb
                (try clear hb)
                (try clear hb2)
                (try clear hk)
                (try clear hi)
                refine hK.out _ _ CE (fun hHeld => ?_)
                clear hK K
                refine no_ (some 77) ?_
                refine pu_ 55 (some 78) (bb 58 72057594037927935) (any_of HT_.out (by kernel_rfl)) ?_
                refine pu_ 56 (some 79) (bb 58 144115188075855871) (any_of HT_.out (by kernel_rfl)) ?_
                refine pu_ 57 (some 4) (bb 58 288230376151711743) (any_of HT_.out (by kernel_rfl)) ?_
                refine done_ (done_of HT_.out (by kernel_rfl)) ?_
                try go_wp2
                go_ret
                exact ⟨ER, BL HB⟩
              rw [if_neg c178] at H
              have c178b0 : (t591 == (a0_0 != a1_0)) = false := by simpa using c178
              (try (have c178b1 : decide (t591 = (a0_0 != a1_0)) = false := by simpa using c178))
              (try (have c178b2 : (t591 == (a0_0 != a1_0)) = false := by simpa using c178))
              (try (have c178b3 : ¬ (t591 = (a0_0 != a1_0)) := by simpa using c178))
              clear c178
              exact absurd ((Option.some.inj H).trans HT.out) (by decide)
            rw [if_neg c125] at H
            have c125b0 : (t638 == t641 && (t639.toList == t642.toList && (t640 == t643))) = false := by simpa using c125
            (try (have c125b1 : decide (t638 = t641 && (t639.toList == t642.toList && (t640 == t643))) = false := by simpa using c125))
            (try (have c125b2 : (t638 == t641 && (t639.toList == t642.toList && (t640 == t643))) = false := by simpa using c125))
            (try (have c125b3 : ¬ (t638 = t641 && (t639.toList == t642.toList && (t640 == t643))) := by simpa using c125))
            clear c125
            exact absurd ((Option.some.inj H).trans HT.out) (by decide)
          rw [if_neg c122] at H
          have c122b0 : (t583 == t635 && (t584.toList == t636.toList && (t585 == t637))) = false := by simpa using c122
          (try (have c122b1 : decide (t583 = t635 && (t584.toList == t636.toList && (t585 == t637))) = false := by simpa using c122))
          (try (have c122b2 : (t583 == t635 && (t584.toList == t636.toList && (t585 == t637))) = false := by simpa using c122))
          (try (have c122b3 : ¬ (t583 = t635 && (t584.toList == t636.toList && (t585 == t637))) := by simpa using c122))
          clear c122
          exact absurd ((Option.some.inj H).trans HT.out) (by decide)
        rw [if_neg c14] at H
        have c14b0 : (t584.toList == ([48] : List UInt8)) = false := beq_eq_false_iff_ne.mpr c14
        have c14b1 : (t584.toList != ([48] : List UInt8)) = true := bne_iff_ne.mpr c14
        obtain ⟨⟨t668, t669, t670⟩, A2300, H⟩ := Option.bind_eq_some_iff.mp H
        (try dsimp -simprocs only at H)
        have A230 := Aside0.mk A2300
        clear A2300
        by_cases c231 : (t583 == t668 && (t584.toList == t669.toList && (t585 == t670))) = true
        · rw [if_pos c231] at H
          have c231b0 : (t583 == t668 && (t584.toList == t669.toList && (t585 == t670))) = true := c231
          (try (have c231b1 : decide (t583 = t668 && (t584.toList == t669.toList && (t585 == t670))) = true := by simpa using c231))
          (try (have c231b2 : (t583 == t668 && (t584.toList == t669.toList && (t585 == t670))) = true := by simpa using c231))
          clear c231
          obtain ⟨⟨t671, t672, t673⟩, A2320, H⟩ := Option.bind_eq_some_iff.mp H
          (try dsimp -simprocs only at H)
          have A232 := Aside0.mk A2320
          clear A2320
          obtain ⟨⟨t674, t675, t676⟩, A2330, H⟩ := Option.bind_eq_some_iff.mp H
          (try dsimp -simprocs only at H)
          have A233 := Aside0.mk A2330
          clear A2330
          by_cases c234 : (t671 == t674 && (t672.toList == t675.toList && (t673 == t676))) = true
          · rw [if_pos c234] at H
            have c234b0 : (t671 == t674 && (t672.toList == t675.toList && (t673 == t676))) = true := c234
            (try (have c234b1 : decide (t671 = t674 && (t672.toList == t675.toList && (t673 == t676))) = true := by simpa using c234))
            (try (have c234b2 : (t671 == t674 && (t672.toList == t675.toList && (t673 == t676))) = true := by simpa using c234))
            clear c234
            (try have HS4_ := Aside0.mk H)
            (try clear H)
            refine pu_ 12 (some 35) (bb 58 8191) (any_of HT_.out (by kernel_rfl)) ?_
            refine pu_ 13 (some 36) (bb 58 16383) (any_of HT_.out (by kernel_rfl)) ?_
            refine pure_ (i := 14) (N := some 37) (v := undef) (a' := ?_) (bb 58 32767) rfl rfl (any_of HT_.out (by kernel_rfl)) (fun _ _ _ h => h) (Or.inr ⟨by rfl, rfl⟩) ?_ ?_
            rotate_left
            · simp only [Act.put, List.setIfInBounds_toArray, List.set_cons_zero, List.set_cons_succ]; (try simp only [i64_w]); (try simp only [i32_w])
              rfl
            refine pure_ (i := 15) (N := some 38) (v := undef) (a' := ?_) (bb 58 65535) rfl rfl (any_of HT_.out (by kernel_rfl)) (fun _ _ _ h => h) (Or.inr ⟨by rfl, rfl⟩) ?_ ?_
            rotate_left
            · simp only [Act.put, List.setIfInBounds_toArray, List.set_cons_zero, List.set_cons_succ]; (try simp only [i64_w]); (try simp only [i32_w])
              rfl
            refine pure_ (i := 16) (N := some 39) (v := undef) (a' := ?_) (bb 58 131071) rfl rfl (any_of HT_.out (by kernel_rfl)) (fun _ _ _ h => h) (Or.inr ⟨by rfl, rfl⟩) ?_ ?_
            rotate_left
            · simp only [Act.put, List.setIfInBounds_toArray, List.set_cons_zero, List.set_cons_succ]; (try simp only [i64_w]); (try simp only [i32_w])
              rfl
            refine pu_ 17 (some 40) (bb 58 262143) (any_of HT_.out (by kernel_rfl)) ?_
            refine pu_ 18 (some 41) (bb 58 524287) (any_of HT_.out (by kernel_rfl)) ?_
            refine tk_ 19 (some 42) (bb 58 1048575) (take_ofW HT_.out HW_.out (by kernel_rfl)) hHeld ?_
            refine tk_ 20 (some 43) (bb 58 2097151) (take_ofW HT_.out HW_.out (by kernel_rfl)) hHeld ?_
            refine one_ (i := 21) (N := some 44) (bb 58 4194303) rfl rfl (one_of HT_.out (by kernel_rfl)) (by decide) (fun K hK => ?_)
            refine goes_ Tryd.func40 (by kernel_rfl) rfl #[.agg #[.bool t586, .string t587, .int .i64 t588]] (by rfl) rfl rfl MP ?_
            with_reducible refine (arith_Neg.calls t586 t587 t588 t668 t669 t670 _ A230.out).mono ?_
            rintro e w280 ⟨rfl, hb⟩
            refine ⟨_, rfl, ?_⟩
            replace HO580 := Aside0.mk (Kd.R_below (RB HO580.out) hb)
            replace BK576 := bkb_ BK576 hb
            replace BK577 := bkb_ BK577 hb
            replace BK589 := bkb_ BK589 hb
            replace BK590 := bkb_ BK590 hb
            replace BK594 := bkb_ BK594 hb
            replace HB := hbs_ HB hb
            (try clear hb)
            (try clear hb2)
            (try clear hk)
            (try clear hi)
            refine hK.out _ _ CE (fun hHeld => ?_)
            clear hK K
            refine no_ (some 44) ?_
            refine pu_ 22 (some 45) (bb 58 8388607) (any_of HT_.out (by kernel_rfl)) ?_
            refine pu_ 23 (some 46) (bb 58 16777215) (any_of HT_.out (by kernel_rfl)) ?_
            refine pu_ 24 (some 47) (bb 58 33554431) (any_of HT_.out (by kernel_rfl)) ?_
            refine pu_ 25 (some 48) (bb 58 67108863) (any_of HT_.out (by kernel_rfl)) ?_
            refine tk_ 26 (some 49) (bb 58 134217727) (take_ofW HT_.out HW_.out (by kernel_rfl)) hHeld ?_
            refine tk_ 28 (some 51) (bb 58 402653183) (take_ofW HT_.out HW_.out (by kernel_rfl)) hHeld ?_
            refine one_ (i := 27) (N := some 50) (bb 58 536870911) rfl rfl (one_of HT_.out (by kernel_rfl)) (by decide) (fun K hK => ?_)
            refine goes_ Tryd.func41 (by kernel_rfl) rfl #[.agg #[.bool t583, .string t584, .int .i64 t585]] (by rfl) rfl rfl MP ?_
            with_reducible refine (arith_Abs.calls t583 t584 t585 t671 t672 t673 _ A232.out).mono ?_
            rintro e w281 ⟨rfl, hb⟩
            refine ⟨_, rfl, ?_⟩
            replace HO580 := Aside0.mk (Kd.R_below (RB HO580.out) hb)
            replace BK576 := bkb_ BK576 hb
            replace BK577 := bkb_ BK577 hb
            replace BK589 := bkb_ BK589 hb
            replace BK590 := bkb_ BK590 hb
            replace BK594 := bkb_ BK594 hb
            replace HB := hbs_ HB hb
            (try clear hb)
            (try clear hb2)
            (try clear hk)
            (try clear hi)
            refine hK.out _ _ CE (fun hHeld => ?_)
            clear hK K
            refine no_ (some 50) ?_
            refine one_ (i := 29) (N := some 52) (bb 58 1073741823) rfl rfl (one_of HT_.out (by kernel_rfl)) (by decide) (fun K hK => ?_)
            refine goes_ Tryd.func41 (by kernel_rfl) rfl #[.agg #[.bool t586, .string t587, .int .i64 t588]] (by rfl) rfl rfl MP ?_
            with_reducible refine (arith_Abs.calls t586 t587 t588 t674 t675 t676 _ A233.out).mono ?_
            rintro e w282 ⟨rfl, hb⟩
            refine ⟨_, rfl, ?_⟩
            replace HO580 := Aside0.mk (Kd.R_below (RB HO580.out) hb)
            replace BK576 := bkb_ BK576 hb
            replace BK577 := bkb_ BK577 hb
            replace BK589 := bkb_ BK589 hb
            replace BK590 := bkb_ BK590 hb
            replace BK594 := bkb_ BK594 hb
            replace HB := hbs_ HB hb
            (try clear hb)
            (try clear hb2)
            (try clear hk)
            (try clear hi)
            refine hK.out _ _ CE (fun hHeld => ?_)
            clear hK K
            refine no_ (some 52) ?_
            refine pu_ 30 (some 53) (bb 58 2147483647) (any_of HT_.out (by kernel_rfl)) ?_
            refine pu_ 31 (some 54) (bb 58 4294967295) (any_of HT_.out (by kernel_rfl)) ?_
            refine pu_ 32 (some 55) (bb 58 8589934591) (any_of HT_.out (by kernel_rfl)) ?_
            refine pu_ 33 (some 56) (bb 58 17179869183) (any_of HT_.out (by kernel_rfl)) ?_
            refine tk_ 34 (some 57) (bb 58 34359738367) (take_ofW HT_.out HW_.out (by kernel_rfl)) hHeld ?_
            (try have H := HS4_.out)
            (try clear HS4_)
            by_cases c235 : t592.toList = ([48] : List UInt8)
            · rw [if_pos c235] at H
              have c235b0 : (t592.toList == ([48] : List UInt8)) = true := beq_iff_eq.mpr c235
              have c235b1 : (t592.toList != ([48] : List UInt8)) = false := bne_eq_false_iff_eq.mpr c235
              clear c235
              obtain ⟨⟨t677, t678, t679⟩, A2360, H⟩ := Option.bind_eq_some_iff.mp H
              (try dsimp -simprocs only at H)
              have A236 := Aside0.mk A2360
              clear A2360
              obtain ⟨⟨t680, t681, t682⟩, A2370, H⟩ := Option.bind_eq_some_iff.mp H
              (try dsimp -simprocs only at H)
              have A237 := Aside0.mk A2370
              clear A2370
              obtain ⟨⟨t683, t684, t685⟩, A2380, H⟩ := Option.bind_eq_some_iff.mp H
              (try dsimp -simprocs only at H)
              have A238 := Aside0.mk A2380
              clear A2380
              obtain ⟨⟨t686, t687, t688⟩, A2390, H⟩ := Option.bind_eq_some_iff.mp H
              (try dsimp -simprocs only at H)
              have A239 := Aside0.mk A2390
              clear A2390
              obtain rfl := Option.some.inj H
              refine pu_ 35 (some 58) (bb 58 68719476735) (any_of HT_.out (by kernel_rfl)) ?_
              refine pu_ 36 (some 59) (bb 58 137438953471) (any_of HT_.out (by kernel_rfl)) ?_
              refine pure_ (i := 37) (N := some 60) (v := undef) (a' := ?_) (bb 58 274877906943) rfl rfl (any_of HT_.out (by kernel_rfl)) (fun _ _ _ h => h) (Or.inr ⟨by rfl, rfl⟩) ?_ ?_
              rotate_left
              · simp only [Act.put, List.setIfInBounds_toArray, List.set_cons_zero, List.set_cons_succ]; (try simp only [i64_w]); (try simp only [i32_w])
                rfl
              refine pure_ (i := 38) (N := some 61) (v := undef) (a' := ?_) (bb 58 549755813887) rfl rfl (any_of HT_.out (by kernel_rfl)) (fun _ _ _ h => h) (Or.inr ⟨by rfl, rfl⟩) ?_ ?_
              rotate_left
              · simp only [Act.put, List.setIfInBounds_toArray, List.set_cons_zero, List.set_cons_succ]; (try simp only [i64_w]); (try simp only [i32_w])
                rfl
              refine pure_ (i := 39) (N := some 62) (v := undef) (a' := ?_) (bb 58 1099511627775) rfl rfl (any_of HT_.out (by kernel_rfl)) (fun _ _ _ h => h) (Or.inr ⟨by rfl, rfl⟩) ?_ ?_
              rotate_left
              · simp only [Act.put, List.setIfInBounds_toArray, List.set_cons_zero, List.set_cons_succ]; (try simp only [i64_w]); (try simp only [i32_w])
                rfl
              refine pure_ (i := 40) (N := some 63) (v := undef) (a' := ?_) (bb 58 2199023255551) rfl rfl (any_of HT_.out (by kernel_rfl)) (fun _ _ _ h => h) (Or.inr ⟨by rfl, rfl⟩) ?_ ?_
              rotate_left
              · simp only [Act.put, List.setIfInBounds_toArray, List.set_cons_zero, List.set_cons_succ]; (try simp only [i64_w]); (try simp only [i32_w])
                rfl
              refine pure_ (i := 41) (N := some 64) (v := undef) (a' := ?_) (bb 58 4398046511103) rfl rfl (any_of HT_.out (by kernel_rfl)) (fun _ _ _ h => h) (Or.inr ⟨by rfl, rfl⟩) ?_ ?_
              rotate_left
              · simp only [Act.put, List.setIfInBounds_toArray, List.set_cons_zero, List.set_cons_succ]; (try simp only [i64_w]); (try simp only [i32_w])
                rfl
              refine pure_ (i := 42) (N := some 65) (v := undef) (a' := ?_) (bb 58 8796093022207) rfl rfl (any_of HT_.out (by kernel_rfl)) (fun _ _ _ h => h) (Or.inr ⟨by rfl, rfl⟩) ?_ ?_
              rotate_left
              · simp only [Act.put, List.setIfInBounds_toArray, List.set_cons_zero, List.set_cons_succ]; (try simp only [i64_w]); (try simp only [i32_w])
                rfl
              refine pure_ (i := 43) (N := some 66) (v := undef) (a' := ?_) (bb 58 17592186044415) rfl rfl (any_of HT_.out (by kernel_rfl)) (fun _ _ _ h => h) (Or.inr ⟨by rfl, rfl⟩) ?_ ?_
              rotate_left
              · simp only [Act.put, List.setIfInBounds_toArray, List.set_cons_zero, List.set_cons_succ]; (try simp only [i64_w]); (try simp only [i32_w])
                rfl
              refine pure_ (i := 44) (N := some 67) (v := undef) (a' := ?_) (bb 58 35184372088831) rfl rfl (any_of HT_.out (by kernel_rfl)) (fun _ _ _ h => h) (Or.inr ⟨by rfl, rfl⟩) ?_ ?_
              rotate_left
              · simp only [Act.put, List.setIfInBounds_toArray, List.set_cons_zero, List.set_cons_succ]; (try simp only [i64_w]); (try simp only [i32_w])
                rfl
              refine pu_ 45 (some 68) (bb 58 70368744177663) (any_of HT_.out (by kernel_rfl)) ?_
              refine pu_ 46 (some 69) (bb 58 140737488355327) (any_of HT_.out (by kernel_rfl)) ?_
              refine pu_ 47 (some 70) (bb 58 281474976710655) (any_of HT_.out (by kernel_rfl)) ?_
              refine tk_ 48 (some 71) (bb 58 562949953421311) (take_ofW HT_.out HW_.out (by kernel_rfl)) hHeld ?_
              refine tk_ 50 (some 73) (bb 58 1688849860263935) (take_ofW HT_.out HW_.out (by kernel_rfl)) hHeld ?_
              refine tk_ 53 (some 76) (bb 58 10696049115004927) (take_ofW HT_.out HW_.out (by kernel_rfl)) hHeld ?_
              refine one_ (i := 49) (N := some 72) (bb 58 11258999068426239) rfl rfl (one_of HT_.out (by kernel_rfl)) (by decide) (fun K hK => ?_)
              refine goes_ Tryd.func41 (by kernel_rfl) rfl #[.agg #[.bool a0_0, .string a0_1, .int .i64 a0_2]] (by rfl) rfl rfl MP ?_
              with_reducible refine (arith_Abs.calls a0_0 a0_1 a0_2 t677 t678 t679 _ A236.out).mono ?_
              rintro e w283 ⟨rfl, hb⟩
              refine ⟨_, rfl, ?_⟩
              replace HO580 := Aside0.mk (Kd.R_below (RB HO580.out) hb)
              replace BK576 := bkb_ BK576 hb
              replace BK577 := bkb_ BK577 hb
              replace BK589 := bkb_ BK589 hb
              replace BK590 := bkb_ BK590 hb
              replace BK594 := bkb_ BK594 hb
              replace HB := hbs_ HB hb
              (try clear hb)
              (try clear hb2)
              (try clear hk)
              (try clear hi)
              refine hK.out _ _ CE (fun hHeld => ?_)
              clear hK K
              refine no_ (some 72) ?_
              refine one_ (i := 51) (N := some 74) (bb 58 13510798882111487) rfl rfl (one_of HT_.out (by kernel_rfl)) (by decide) (fun K hK => ?_)
              refine goes_ Tryd.func41 (by kernel_rfl) rfl #[.agg #[.bool a1_0, .string a1_1, .int .i64 a1_2]] (by rfl) rfl rfl MP ?_
              with_reducible refine (arith_Abs.calls a1_0 a1_1 a1_2 t680 t681 t682 _ A237.out).mono ?_
              rintro e w284 ⟨rfl, hb⟩
              refine ⟨_, rfl, ?_⟩
              replace HO580 := Aside0.mk (Kd.R_below (RB HO580.out) hb)
              replace BK576 := bkb_ BK576 hb
              replace BK577 := bkb_ BK577 hb
              replace BK589 := bkb_ BK589 hb
              replace BK590 := bkb_ BK590 hb
              replace BK594 := bkb_ BK594 hb
              replace HB := hbs_ HB hb
              (try clear hb)
              (try clear hb2)
              (try clear hk)
              (try clear hi)
              refine hK.out _ _ CE (fun hHeld => ?_)
              clear hK K
              refine no_ (some 74) ?_
              refine one_ (i := 52) (N := some 75) (bb 58 18014398509481983) rfl rfl (one_of HT_.out (by kernel_rfl)) (by decide) (fun K hK => ?_)
              refine goes_ Tryd.func38 (by kernel_rfl) rfl #[.agg #[.bool t677, .string t678, .int .i64 t679], .agg #[.bool t680, .string t681, .int .i64 t682]] (by rfl) rfl rfl MP ?_
              with_reducible refine (arith_Mul.calls k t677 t678 t679 t680 t681 t682 t683 t684 t685 _ A238.out).mono ?_
              rintro e w285 ⟨rfl, hb⟩
              refine ⟨_, rfl, ?_⟩
              replace HO580 := Aside0.mk (Kd.R_below (RB HO580.out) hb)
              replace BK576 := bkb_ BK576 hb
              replace BK577 := bkb_ BK577 hb
              replace BK589 := bkb_ BK589 hb
              replace BK590 := bkb_ BK590 hb
              replace BK594 := bkb_ BK594 hb
              replace HB := hbs_ HB hb
              (try clear hb)
              (try clear hb2)
              (try clear hk)
              (try clear hi)
              refine hK.out _ _ CE (fun hHeld => ?_)
              clear hK K
              refine no_ (some 75) ?_
              refine one_ (i := 54) (N := some 77) (bb 58 36028797018963967) rfl rfl (one_of HT_.out (by kernel_rfl)) (by decide) (fun K hK => ?_)
              refine goes_ Tryd.func41 (by kernel_rfl) rfl #[.agg #[.bool t591, .string t592, .int .i64 t593]] (by rfl) rfl rfl MP ?_
              with_reducible refine (arith_Abs.calls t591 t592 t593 t686 t687 t688 _ A239.out).mono ?_
              rintro e w286 ⟨rfl, hb⟩
              refine ⟨_, rfl, ?_⟩
              replace HO580 := Aside0.mk (Kd.R_below (RB HO580.out) hb)
              replace BK576 := bkb_ BK576 hb
              replace BK577 := bkb_ BK577 hb
              replace BK589 := bkb_ BK589 hb
              replace BK590 := bkb_ BK590 hb
              replace BK594 := bkb_ BK594 hb
              replace HB := hbs_ HB hb
              (try clear hb)
              (try clear hb2)
              (try clear hk)
              (try clear hi)
              refine hK.out _ _ CE (fun hHeld => ?_)
              clear hK K
              refine no_ (some 77) ?_
              refine pu_ 55 (some 78) (bb 58 72057594037927935) (any_of HT_.out (by kernel_rfl)) ?_
              refine pu_ 56 (some 79) (bb 58 144115188075855871) (any_of HT_.out (by kernel_rfl)) ?_
              refine pu_ 57 (some 4) (bb 58 288230376151711743) (any_of HT_.out (by kernel_rfl)) ?_
              refine done_ (done_of HT_.out (by kernel_rfl)) ?_
              try go_wp2
              go_ret
              exact ⟨ER, BL HB⟩
            rw [if_neg c235] at H
            have c235b0 : (t592.toList == ([48] : List UInt8)) = false := beq_eq_false_iff_ne.mpr c235
            have c235b1 : (t592.toList != ([48] : List UInt8)) = true := bne_iff_ne.mpr c235
            by_cases c287 : (t591 == (a0_0 != a1_0)) = true
            · rw [if_pos c287] at H
              have c287b0 : (t591 == (a0_0 != a1_0)) = true := c287
              (try (have c287b20 : (t591 == !(a0_0 == a1_0)) = true := by revert c287b0; cases t591 <;> cases a0_0 <;> cases a1_0 <;> simp))
              (try (have c287b21 : decide (t591 = !(a0_0 == a1_0)) = true := by revert c287b0; cases t591 <;> cases a0_0 <;> cases a1_0 <;> simp))
              (try (have c287b22 : (t591 = !(a0_0 == a1_0)) = True := by revert c287b0; cases t591 <;> cases a0_0 <;> cases a1_0 <;> simp))
              (try (have c287b23 : (t591 == (a0_0 == a1_0)) = false := by revert c287b0; cases t591 <;> cases a0_0 <;> cases a1_0 <;> simp))
              (try (have c287b24 : decide (t591 = !decide (a0_0 = a1_0)) = true := by revert c287b0; cases t591 <;> cases a0_0 <;> cases a1_0 <;> simp))
              (try (have c287b25 : (t591 == !decide (a0_0 = a1_0)) = true := by revert c287b0; cases t591 <;> cases a0_0 <;> cases a1_0 <;> simp))
              (try (have c287b26 : (t591 = (a0_0 == a1_0)) = False := by revert c287b0; cases t591 <;> cases a0_0 <;> cases a1_0 <;> simp))
              (try (have c287b27 : (t591 = !decide (a0_0 = a1_0)) = True := by revert c287b0; cases t591 <;> cases a0_0 <;> cases a1_0 <;> simp))
              (try (have c287b28 : (t591 == decide (a0_0 = a1_0)) = false := by revert c287b0; cases t591 <;> cases a0_0 <;> cases a1_0 <;> simp))
              (try (have c287b29 : (!t591 == (a0_0 == a1_0)) = true := by revert c287b0; cases t591 <;> cases a0_0 <;> cases a1_0 <;> simp))
              (try (have c287b30 : ((!t591) == (a0_0 == a1_0)) = true := by revert c287b0; cases t591 <;> cases a0_0 <;> cases a1_0 <;> simp))
              (try (have c287b1 : decide (t591 = (a0_0 != a1_0)) = true := by simpa using c287))
              (try (have c287b2 : (t591 == (a0_0 != a1_0)) = true := by simpa using c287))
              clear c287
              obtain ⟨⟨t689, t690, t691⟩, A2880, H⟩ := Option.bind_eq_some_iff.mp H
              (try dsimp -simprocs only at H)
              have A288 := Aside0.mk A2880
              clear A2880
              obtain ⟨⟨t692, t693, t694⟩, A2890, H⟩ := Option.bind_eq_some_iff.mp H
              (try dsimp -simprocs only at H)
              have A289 := Aside0.mk A2890
              clear A2890
              obtain ⟨⟨t695, t696, t697⟩, A2900, H⟩ := Option.bind_eq_some_iff.mp H
              (try dsimp -simprocs only at H)
              have A290 := Aside0.mk A2900
              clear A2900
              obtain ⟨⟨t698, t699, t700⟩, A2910, H⟩ := Option.bind_eq_some_iff.mp H
              (try dsimp -simprocs only at H)
              have A291 := Aside0.mk A2910
              clear A2910
              obtain rfl := Option.some.inj H
              refine pu_ 35 (some 58) (bb 58 68719476735) (any_of HT_.out (by kernel_rfl)) ?_
              refine pu_ 36 (some 59) (bb 58 137438953471) (any_of HT_.out (by kernel_rfl)) ?_
              refine pu_ 37 (some 60) (bb 58 274877906943) (any_of HT_.out (by kernel_rfl)) ?_
              refine pu_ 39 (some 62) (bb 58 824633720831) (any_of HT_.out (by kernel_rfl)) ?_
              refine pu_ 41 (some 64) (bb 58 3023656976383) (any_of HT_.out (by kernel_rfl)) ?_
              refine tk_ 38 (some 61) (bb 58 3298534883327) (take_ofW HT_.out HW_.out (by kernel_rfl)) hHeld ?_
              refine tk_ 40 (some 63) (bb 58 4398046511103) (take_ofW HT_.out HW_.out (by kernel_rfl)) hHeld ?_
              refine tk_ 42 (some 65) (bb 58 8796093022207) (take_ofW HT_.out HW_.out (by kernel_rfl)) hHeld ?_
              refine pu_ 43 (some 66) (bb 58 17592186044415) (any_of HT_.out (by kernel_rfl)) ?_
              refine pu_ 44 (some 67) (bb 58 35184372088831) (any_of HT_.out (by kernel_rfl)) ?_
              refine pu_ 45 (some 68) (bb 58 70368744177663) (any_of HT_.out (by kernel_rfl)) ?_
              refine pu_ 46 (some 69) (bb 58 140737488355327) (any_of HT_.out (by kernel_rfl)) ?_
              refine pu_ 47 (some 70) (bb 58 281474976710655) (any_of HT_.out (by kernel_rfl)) ?_
              refine tk_ 48 (some 71) (bb 58 562949953421311) (take_ofW HT_.out HW_.out (by kernel_rfl)) hHeld ?_
              refine tk_ 50 (some 73) (bb 58 1688849860263935) (take_ofW HT_.out HW_.out (by kernel_rfl)) hHeld ?_
              refine tk_ 53 (some 76) (bb 58 10696049115004927) (take_ofW HT_.out HW_.out (by kernel_rfl)) hHeld ?_
              refine one_ (i := 49) (N := some 72) (bb 58 11258999068426239) rfl rfl (one_of HT_.out (by kernel_rfl)) (by decide) (fun K hK => ?_)
              refine goes_ Tryd.func41 (by kernel_rfl) rfl #[.agg #[.bool a0_0, .string a0_1, .int .i64 a0_2]] (by rfl) rfl rfl MP ?_
              with_reducible refine (arith_Abs.calls a0_0 a0_1 a0_2 t689 t690 t691 _ A288.out).mono ?_
              rintro e w335 ⟨rfl, hb⟩
              refine ⟨_, rfl, ?_⟩
              replace HO580 := Aside0.mk (Kd.R_below (RB HO580.out) hb)
              replace BK576 := bkb_ BK576 hb
              replace BK577 := bkb_ BK577 hb
              replace BK589 := bkb_ BK589 hb
              replace BK590 := bkb_ BK590 hb
              replace BK594 := bkb_ BK594 hb
              replace HB := hbs_ HB hb
              (try clear hb)
              (try clear hb2)
              (try clear hk)
              (try clear hi)
              refine hK.out _ _ CE (fun hHeld => ?_)
              clear hK K
              refine no_ (some 72) ?_
              refine one_ (i := 51) (N := some 74) (bb 58 13510798882111487) rfl rfl (one_of HT_.out (by kernel_rfl)) (by decide) (fun K hK => ?_)
              refine goes_ Tryd.func41 (by kernel_rfl) rfl #[.agg #[.bool a1_0, .string a1_1, .int .i64 a1_2]] (by rfl) rfl rfl MP ?_
              with_reducible refine (arith_Abs.calls a1_0 a1_1 a1_2 t692 t693 t694 _ A289.out).mono ?_
              rintro e w336 ⟨rfl, hb⟩
              refine ⟨_, rfl, ?_⟩
              replace HO580 := Aside0.mk (Kd.R_below (RB HO580.out) hb)
              replace BK576 := bkb_ BK576 hb
              replace BK577 := bkb_ BK577 hb
              replace BK589 := bkb_ BK589 hb
              replace BK590 := bkb_ BK590 hb
              replace BK594 := bkb_ BK594 hb
              replace HB := hbs_ HB hb
              (try clear hb)
              (try clear hb2)
              (try clear hk)
              (try clear hi)
              refine hK.out _ _ CE (fun hHeld => ?_)
              clear hK K
              refine no_ (some 74) ?_
              refine one_ (i := 52) (N := some 75) (bb 58 18014398509481983) rfl rfl (one_of HT_.out (by kernel_rfl)) (by decide) (fun K hK => ?_)
              refine goes_ Tryd.func38 (by kernel_rfl) rfl #[.agg #[.bool t689, .string t690, .int .i64 t691], .agg #[.bool t692, .string t693, .int .i64 t694]] (by rfl) rfl rfl MP ?_
              with_reducible refine (arith_Mul.calls k t689 t690 t691 t692 t693 t694 t695 t696 t697 _ A290.out).mono ?_
              rintro e w337 ⟨rfl, hb⟩
              refine ⟨_, rfl, ?_⟩
              replace HO580 := Aside0.mk (Kd.R_below (RB HO580.out) hb)
              replace BK576 := bkb_ BK576 hb
              replace BK577 := bkb_ BK577 hb
              replace BK589 := bkb_ BK589 hb
              replace BK590 := bkb_ BK590 hb
              replace BK594 := bkb_ BK594 hb
              replace HB := hbs_ HB hb
              (try clear hb)
              (try clear hb2)
              (try clear hk)
              (try clear hi)
              refine hK.out _ _ CE (fun hHeld => ?_)
              clear hK K
              refine no_ (some 75) ?_
              refine one_ (i := 54) (N := some 77) (bb 58 36028797018963967) rfl rfl (one_of HT_.out (by kernel_rfl)) (by decide) (fun K hK => ?_)
              refine goes_ Tryd.func41 (by kernel_rfl) rfl #[.agg #[.bool t591, .string t592, .int .i64 t593]] (by rfl) rfl rfl MP ?_
              with_reducible refine (arith_Abs.calls t591 t592 t593 t698 t699 t700 _ A291.out).mono ?_
              rintro e w338 ⟨rfl, hb⟩
              refine ⟨_, rfl, ?_⟩
              replace HO580 := Aside0.mk (Kd.R_below (RB HO580.out) hb)
              replace BK576 := bkb_ BK576 hb
              replace BK577 := bkb_ BK577 hb
              replace BK589 := bkb_ BK589 hb
              replace BK590 := bkb_ BK590 hb
              replace BK594 := bkb_ BK594 hb
              replace HB := hbs_ HB hb
              (try clear hb)
              (try clear hb2)
              (try clear hk)
              (try clear hi)
              refine hK.out _ _ CE (fun hHeld => ?_)
              clear hK K
              refine no_ (some 77) ?_
              refine pu_ 55 (some 78) (bb 58 72057594037927935) (any_of HT_.out (by kernel_rfl)) ?_
              refine pu_ 56 (some 79) (bb 58 144115188075855871) (any_of HT_.out (by kernel_rfl)) ?_
              refine pu_ 57 (some 4) (bb 58 288230376151711743) (any_of HT_.out (by kernel_rfl)) ?_
              refine done_ (done_of HT_.out (by kernel_rfl)) ?_
              try go_wp2
              go_ret
              exact ⟨ER, BL HB⟩
            rw [if_neg c287] at H
            have c287b0 : (t591 == (a0_0 != a1_0)) = false := by simpa using c287
            (try (have c287b1 : decide (t591 = (a0_0 != a1_0)) = false := by simpa using c287))
            (try (have c287b2 : (t591 == (a0_0 != a1_0)) = false := by simpa using c287))
            (try (have c287b3 : ¬ (t591 = (a0_0 != a1_0)) := by simpa using c287))
            clear c287
            exact absurd ((Option.some.inj H).trans HT.out) (by decide)
          rw [if_neg c234] at H
          have c234b0 : (t671 == t674 && (t672.toList == t675.toList && (t673 == t676))) = false := by simpa using c234
          (try (have c234b1 : decide (t671 = t674 && (t672.toList == t675.toList && (t673 == t676))) = false := by simpa using c234))
          (try (have c234b2 : (t671 == t674 && (t672.toList == t675.toList && (t673 == t676))) = false := by simpa using c234))
          (try (have c234b3 : ¬ (t671 = t674 && (t672.toList == t675.toList && (t673 == t676))) := by simpa using c234))
          clear c234
          exact absurd ((Option.some.inj H).trans HT.out) (by decide)
        rw [if_neg c231] at H
        have c231b0 : (t583 == t668 && (t584.toList == t669.toList && (t585 == t670))) = false := by simpa using c231
        (try (have c231b1 : decide (t583 = t668 && (t584.toList == t669.toList && (t585 == t670))) = false := by simpa using c231))
        (try (have c231b2 : (t583 == t668 && (t584.toList == t669.toList && (t585 == t670))) = false := by simpa using c231))
        (try (have c231b3 : ¬ (t583 = t668 && (t584.toList == t669.toList && (t585 == t670))) := by simpa using c231))
        clear c231
        exact absurd ((Option.some.inj H).trans HT.out) (by decide)
      rw [if_neg c13] at H
      have c13b0 : (t599 == t602 && (t600.toList == t603.toList && (t601 == t604))) = false := by simpa using c13
      (try (have c13b1 : decide (t599 = t602 && (t600.toList == t603.toList && (t601 == t604))) = false := by simpa using c13))
      (try (have c13b2 : (t599 == t602 && (t600.toList == t603.toList && (t601 == t604))) = false := by simpa using c13))
      (try (have c13b3 : ¬ (t599 = t602 && (t600.toList == t603.toList && (t601 == t604))) := by simpa using c13))
      clear c13
      exact absurd ((Option.some.inj H).trans HT.out) (by decide)
    replace c9 := Bool.eq_false_iff.mpr c9
    subst c9
    rw [if_neg (show ¬ (false = true) by decide)] at H
    exact absurd ((Option.some.inj H).trans HT.out) (by decide)
  replace c4 := Bool.eq_false_iff.mpr c4
  subst c4
  rw [if_neg (show ¬ (false = true) by decide)] at H
  obtain ⟨t582, A3390, H⟩ := Option.bind_eq_some_iff.mp H
  (try dsimp -simprocs only at H)
  have A339 := Aside0.mk A3390
  clear A3390
  obtain rfl := Option.some.inj H
  go_enter Tryd.func14, Tryd.ntmps14
  go_wp2_with (first | (refine be_ 2 #[.bool a0_0, .string a0_1, .int .i64 a0_2] 23 ?_; intro gb576 hg w340 hbox hb; have BK576 := Aside0.mk (hbox); have GW576 := ge_ hg HB; have GE576 := ge_ hg HB; replace HB := hbs_ HB hb; clear hb hbox hg) | (refine be_ 3 #[.bool a1_0, .string a1_1, .int .i64 a1_2] 23 ?_; intro gb577 hg w341 hbox hb; have BK577 := Aside0.mk (hbox); have GW577 := ge_ hg HB; have GE577 := ge_ hg HB; replace HB := hbs_ HB hb; have NB576_577 := nb_ hg BK576; have NB577_576 := nc_ hg BK576; replace BK576 := bkb_ BK576 hb; clear hb hbox hg; have hnb342 := NB576_577.out; have hnc342 := NB577_576.out; obtain ⟨⟨hcz343_0, hcz343_1, hcz343_2⟩, hfz343_0, hfz343_1, hfz343_2⟩ := ce3 BK576; obtain ⟨⟨hcz344_0, hcz344_1, hcz344_2⟩, hfz344_0, hfz344_1, hfz344_2⟩ := ce3 BK577) | ((with_reducible refine gate_dst (N := 10) rfl ?_); refine Kd.R_lit k23 _ 23 ?hg (N := 10) ?hd (xs := ([(⟨a0_0, a0_1, a0_2⟩ : S23), (⟨a1_0, a1_1, a1_2⟩ : S23)] : List (S23))) (inner := [.bool a0_0, .string a0_1, .int .i64 a0_2, .bool a1_0, .string a1_1, .int .i64 a1_2]) (ok := fun _ => True) (okp := fun _ => True) ?hr ?hp (fun _ hk => hk) trivial (Below.refl _ _) (Nat.le_refl _) (by simp) ?_; (case hd => rfl); (case hg => rfl); (case hr => first | (go_simp; done) | (go_simp; rfl)); (case hp => exact (Reps.c3 (show Kd.M k23 _ _ _ (⟨a0_0, a0_1, a0_2⟩ : S23) [.bool a0_0, .string a0_1, .int .i64 a0_2] from (k23_mkM _ _ _ (⟨a0_0, a0_1, a0_2⟩ : S23) )) (Reps.c3 (show Kd.M k23 _ _ _ (⟨a1_0, a1_1, a1_2⟩ : S23) [.bool a1_0, .string a1_1, .int .i64 a1_2] from (k23_mkM _ _ _ (⟨a1_0, a1_1, a1_2⟩ : S23) )) (Reps.none _ _)))); intro v579 w345 ho346 hb hg_ hnew_; clear hg_ hnew_; (first | rw [← Ny578.out] at ho346 | (simp only [Int.reduceToNat] at ho346; rw [← Ny578.out] at ho346)); have HO580 := Aside0.mk (Kd.R_lower (Kd.R_newB (Kd.R_newB ho346 (g := gb576) (o := .cells #[.bool a0_0, .string a0_1, .int .i64 a0_2] 23 (0, 0)) (BK BK576)) (g := gb577) (o := .cells #[.bool a1_0, .string a1_1, .int .i64 a1_2] 23 (0, 0)) (BK BK577)) (below_size (BL HB))); replace BK576 := bkb_ BK576 hb; replace BK577 := bkb_ BK577 hb; replace HB := hbs_ HB hb; clear hb ho346; obtain ⟨Ao347, co347, eo347⟩ := Kd.R_slice HO580.out; subst eo347) | ((with_reducible refine gate_callee (f := 32) rfl ?_); refine goesL_ (some 11) rfl rfl Tryd.func32 (by kernel_rfl) rfl #[.slice Ao347 y578.length co347] rfl MP ?_; (with_reducible refine (figureheadlaw06_good.calls k _ _ y578 false _ ?side1 ?side2 A3.out).mono ?_); (case side1 => exact CB ((Kd.R_reads' HO580.out).2.2)); (case side2 => exact (Kd.R_reads' HO580.out).2.1); rintro e w348 ⟨rfl, hb⟩; refine ⟨_, rfl, ?_⟩; replace HO580 := Aside0.mk (Kd.R_below (RB HO580.out) hb); replace BK576 := bkb_ BK576 hb; replace BK577 := bkb_ BK577 hb; replace HB := hbs_ HB hb; (try clear hb); (try clear hb2); (try clear hk); (try clear hi)) | ((with_reducible refine gate_callee (f := 33) rfl ?_); refine goesL_ (some 13) rfl rfl Tryd.func33 (by kernel_rfl) rfl #[] rfl MP ?_; (with_reducible refine (figureheadlaw06_answers.calls k  t582 _ ?side1 ?side2 A339.out).mono ?_); (case side1 => exact Fig.Glob.below HG.out (BL HB)); (case side2 => exact ⟨by first | rfl | exact HT.out⟩); rintro e w349 ⟨rfl, hb⟩; refine ⟨_, rfl, ?_⟩; replace HO580 := Aside0.mk (Kd.R_below (RB HO580.out) hb); replace BK576 := bkb_ BK576 hb; replace BK577 := bkb_ BK577 hb; replace HB := hbs_ HB hb; (try clear hb); (try clear hb2); (try clear hk); (try clear hi)))
  go_ret
  exact ⟨ER, BL HB⟩
end Go.Proofs.YtbjaiphfehnncaaDoor.Px
end
section
namespace Go.Proofs.YtbjaiphfehnncaaDoor.Px
open Fig Go.RowKit Go.Proofs.YtbjaiphfehnncaaDoorW.PrintWords Go.Proofs.YtbjaiphfehnncaaDoorW.PrintLast Go.Proofs.YtbjaiphfehnncaaDoorW.PrintMore
attribute [local go_sem] max2_int min2_int max_two min_two max_three min_three max_four min_four   -- for this text's walks alone
attribute [local go_sem] fieldA23_0 fieldA23_1 fieldA23_2
theorem digB_bt {n : Nat} (h : n ≠ 0) : bt (digB n) (((digB n).size : Int) - 1) = ((48 + n % 10 : Nat) : Int) := by
  have hs := digB_ten_size h
  have hl := digB_ten_last h
  have hlt : (digB (n / 10)).size < (digB n).size := by omega
  rw [show ((digB n).size : Int) - 1 = ((digB (n / 10)).size : Int) by omega, bt_get hlt]
  have hg := List.getElem?_eq_getElem (l := (digB n).data.toList) (i := (digB (n / 10)).size) (by rw [← size_eq]; exact hlt)
  rw [hl] at hg
  rw [← Option.some.inj hg, dig_toNat]
theorem Norm05_loop (b b2 : Bool) (s2 : ByteArray) (e2 : Int) : ∀ (d n : Nat) (e : Int), n ≠ 0 → n < d → (digB n).size ≤ 1000000 → -1000000 ≤ e → e + ((digB n).size : Int) ≤ 2000000 → Ev (fun k => figureheadref05_Norm.l0 k (digB n) e b s2 e2) (b, nD n, nE n e)
  | 0, n, e, h0, hd, hz, h1, h2 => absurd hd (by omega)
  | d + 1, n, e, h0, hd, hz, h1, h2 => by
    have hs := digB_ten_size h0
    have hb := digB_bt h0
    have hw : wrap64 (((digB n).size : Int) - 1) = ((digB n).size : Int) - 1 := w64 (by omega) (by omega)
    by_cases hm : n % 10 = 0
    · have h3 : n / 10 ≠ 0 := by omega
      have h4 : n / 10 < d := by have := div10_lt h0; omega
      have e1 : nD n = nD (n / 10) := by
        conv => lhs; rw [show n = n / 10 * 10 ^ 1 by omega]
        exact nD_pow _ _
      have e2' : nE n e = nE (n / 10) (e + 1) := by
        conv => lhs; rw [show n = n / 10 * 10 ^ 1 by omega]
        exact nE_pow _ _ _
      rw [e1, e2']
      refine Ev.step (f := fun k => figureheadref05_Norm.l0 k (digB (n / 10)) (e + 1) b s2 e2) (fun k => ?_) (Norm05_loop b b2 s2 e2 d (n / 10) (e + 1) h3 h4 (by omega) (by omega) (by omega))
      simp only [figureheadref05_Norm.l0]
      rw [hw, if_pos (by omega), if_pos (by omega), hb, if_pos (by omega), if_pos (by omega), w64 (x := e + 1) (by omega) (by omega)]
      rw [show (((digB n).size : Int) - 1).toNat = (digB (n / 10)).size by omega, digB_ten_init h0]
    · rw [nD_of hm, nE_of hm]
      refine evDone (r' := (b, digB n, e)) (fun k => ?_) rfl
      simp only [figureheadref05_Norm.l0]
      rw [hw, if_pos (by omega), if_pos (by omega), hb, if_neg (by omega)]
theorem Norm05_any {b : Bool} {s : ByteArray} {e : Int} (hd : dB s = true) (hz : s.size ≤ 1000000) (h1 : -1000000 ≤ e) (h2 : e ≤ 1000000) : Ev (fun k => figureheadref05_Norm.f k b s e) (b, nD (vB s), nE (vB s) e) := by
  have hv : (digB (vB s)).size ≤ s.size := digs_size_lt (vB_lt hd)
  unfold figureheadref05_Norm.f
  refine Ev.bind (StripD_ev (by omega) hd) ?_
  by_cases h0 : vB s = 0
  · simp only [digB_toList_nil.2 h0, if_true]
    rw [h0]
    exact Ev.now _
  · have h3 : ¬ (digB (vB s)).toList = ([] : List UInt8) := fun hh => h0 (digB_toList_nil.1 hh)
    simp only [h3, if_false]
    exact Norm05_loop b b s e (vB s + 1) (vB s) e h0 (by omega) (by omega) (by omega) (by omega)
theorem Norm05_ev {b : Bool} {s : ByteArray} {e : Int} (h : OkD s e) : Ev (fun k => figureheadref05_Norm.f k b s e) (b, nD (vB s), nE (vB s) e) := by
  have h1 := h.sz
  have h2 := h.lo
  have h3 := h.hi
  exact Norm05_any h.d (by omega) (by omega) (by omega)
end Go.Proofs.YtbjaiphfehnncaaDoor.Px
end
section
namespace Go.Proofs.YtbjaiphfehnncaaDoor.Px
open Fig Go.RowKit Go.Proofs.YtbjaiphfehnncaaDoorW.PrintWords Go.Proofs.YtbjaiphfehnncaaDoorW.PrintLast Go.Proofs.YtbjaiphfehnncaaDoorW.PrintMore
attribute [local go_sem] max2_int min2_int max_two min_two max_three min_three max_four min_four   -- for this text's walks alone
attribute [local go_sem] fieldA23_0 fieldA23_1 fieldA23_2
theorem Digits_loop (s : ByteArray) (hs : s.size ≤ 4611686018427387904) : ∀ (d n : Nat), s.size - n = d → n ≤ s.size → Ev (fun k => figureheadref05_Digits.l0 k s (n : Int)) (digL (s.data.toList.drop n) && decide (s.size ≠ 0))
  | 0, n, hd, hn => by
    refine evDone (r' := (s.toList != ([] : List UInt8))) (fun k => ?_) ?_
    · simp only [figureheadref05_Digits.l0]; rw [if_neg (by omega)]
    · rw [List.drop_of_length_le (by rw [← size_eq]; omega), bne_nil, ByteArray.toList_eq, size_eq]
      cases s.data.toList <;> simp [digL]
  | d + 1, n, hd, hn => by
    have hlt : n < s.size := by omega
    have hbt := bt_get hlt
    have hc := List.drop_eq_getElem_cons (l := s.data.toList) (i := n) (by rw [← size_eq]; exact hlt)
    rw [hc]
    generalize hx : s.data.toList[n]'(by rw [← size_eq]; exact hlt) = c at hbt
    by_cases h1 : c.toNat < 48
    · refine evDone (r' := false) (fun k => ?_) ?_
      · simp only [figureheadref05_Digits.l0]; rw [if_pos (by omega), if_pos (by omega), hbt, if_pos (by omega)]
      · have : isD c = false := by unfold isD; simp; omega
        simp [digL, this]
    · by_cases h2 : c.toNat > 57
      · refine evDone (r' := false) (fun k => ?_) ?_
        · simp only [figureheadref05_Digits.l0]; rw [if_pos (by omega), if_pos (by omega), hbt, if_neg (by omega), if_pos (by omega)]
        · have : isD c = false := by unfold isD; simp; omega
          simp [digL, this]
      · have hd1 : isD c = true := isD_iff.2 ⟨by omega, by omega⟩
        refine evIs (Ev.step (f := fun k => figureheadref05_Digits.l0 k s ((n + 1 : Nat) : Int)) (fun k => ?_) (Digits_loop s hs d (n + 1) (by omega) (by omega))) ?_
        · simp only [figureheadref05_Digits.l0]; rw [if_pos (by omega), if_pos (by omega), hbt, if_neg (by omega), if_neg (by omega), succ64 _ (by omega)]
        · simp [digL, hd1]
theorem Digits05_ev {s : ByteArray} (hs : s.size ≤ 4611686018427387904) : Ev (fun k => figureheadref05_Digits.f k s) (dB s && decide (s.size ≠ 0)) := by
  have := Digits_loop s hs s.size 0 (by omega) (by omega)
  rw [List.drop_zero] at this
  exact this
end Go.Proofs.YtbjaiphfehnncaaDoor.Px
end
section
namespace Go.Proofs.YtbjaiphfehnncaaDoor.Px
open Fig Go.RowKit Go.Proofs.YtbjaiphfehnncaaDoorW.PrintWords Go.Proofs.YtbjaiphfehnncaaDoorW.PrintLast Go.Proofs.YtbjaiphfehnncaaDoorW.PrintMore
attribute [local go_sem] max2_int min2_int max_two min_two max_three min_three max_four min_four   -- for this text's walks alone
attribute [local go_sem] fieldA23_0 fieldA23_1 fieldA23_2
theorem Good05_ev {b : Bool} {s : ByteArray} {e : Int} (hs : s.size ≤ 4611686018427387904) : Ev (fun k => figureheadref05_Good.f k b s e) (goodD s e) := by
  unfold figureheadref05_Good.f
  refine Ev.bind (Digits05_ev hs) ?_
  unfold goodD
  cases hd : (dB s && decide (s.size ≠ 0))
  · simp only [Bool.false_eq_true, if_false, Bool.false_and]
    exact Ev.now _
  · simp only [if_true, Bool.true_and]
    by_cases h1 : s.size ≤ 1000
    · have h1' : (s.size : Int) ≤ 1000 := by omega
      simp only [h1', h1, if_true, decide_true, Bool.true_and]
      by_cases h2 : e ≥ -1000
      · have h2' : -1000 ≤ e := h2
        simp only [h2, h2', if_true, decide_true, Bool.true_and]
        exact Ev.now _
      · have h2' : ¬ -1000 ≤ e := h2
        simp only [h2, h2', if_false, decide_false, Bool.false_and]
        exact Ev.now _
    · have h1' : ¬ (s.size : Int) ≤ 1000 := by omega
      simp only [h1', h1, if_false, decide_false, Bool.false_and]
      exact Ev.now _
end Go.Proofs.YtbjaiphfehnncaaDoor.Px
end
section
namespace Go.Proofs.YtbjaiphfehnncaaDoor.Px
open Fig Go.RowKit Go.Proofs.YtbjaiphfehnncaaDoorW.PrintWords Go.Proofs.YtbjaiphfehnncaaDoorW.PrintLast Go.Proofs.YtbjaiphfehnncaaDoorW.PrintMore
attribute [local go_sem] max2_int min2_int max_two min_two max_three min_three max_four min_four   -- for this text's walks alone
attribute [local go_sem] fieldA23_0 fieldA23_1 fieldA23_2
theorem good06_loop (ls : List S23) (hl : ls.length ≤ 1000) (hb : ∀ d ∈ ls, d.f1.size ≤ 140737488351232) : ∀ (d n : Nat), ls.length - n = d → n ≤ ls.length → Ev (fun k => figureheadlaw06_good.l0 k ls (n : Int)) ((ls.drop n).all fun x => goodD x.f1 x.f2 && decide (x.f1.size ≤ 200))
  | 0, n, hd, hn => by
    refine evDone (r' := true) (fun k => ?_) (by rw [List.drop_of_length_le (by omega)]; rfl)
    simp only [figureheadlaw06_good.l0]; rw [if_neg (by omega)]
  | d + 1, n, hd, hn => by
    have hlt : n < ls.length := by omega
    have hm := List.getElem_mem hlt
    have hrd : rd_T23 ls (n : Int) = ls[n] := by
      unfold rd_T23; rw [Int.toNat_natCast, List.getD_eq_getElem?_getD, List.getElem?_eq_getElem hlt]; rfl
    rw [List.drop_eq_getElem_cons hlt, List.all_cons]
    have hbm := hb _ hm
    refine Ev.step (f := fun k => (figureheadref05_Good.f k ls[n].f0 ls[n].f1 ls[n].f2).bind fun t => if t = true then if (ls[n].f1.size : Int) > 200 then some false else figureheadlaw06_good.l0 k ls ((n + 1 : Nat) : Int) else some false) (fun k => ?_) ?_
    · simp only [figureheadlaw06_good.l0]; rw [if_pos (by omega), if_pos (by omega), hrd, succ64 _ (by omega)]
    · refine Ev.bind (Good05_ev (by omega)) ?_
      cases hg : goodD ls[n].f1 ls[n].f2
      · refine evF (by decide) (evIs (Ev.now false) (by simp))
      · refine evT rfl ?_
        by_cases h2 : (ls[n].f1.size : Int) > 200
        · have : ¬ ls[n].f1.size ≤ 200 := by omega
          exact evT h2 (evIs (Ev.now false) (by simp [this]))
        · have h3 : ls[n].f1.size ≤ 200 := by omega
          refine evF h2 (evIs (good06_loop ls hl hb d (n + 1) (by omega) (by omega)) ?_)
          simp [h3]
theorem good06_ev {ls : List S23} (hl : ls.length ≤ 1000) (hb : ∀ d ∈ ls, d.f1.size ≤ 140737488351232) : Ev (fun k => figureheadlaw06_good.f k ls) (ls.all fun x => goodD x.f1 x.f2 && decide (x.f1.size ≤ 200)) := by
  have := good06_loop ls hl hb ls.length 0 (by omega) (by omega)
  rw [List.drop_zero] at this
  exact this
end Go.Proofs.YtbjaiphfehnncaaDoor.Px
end
section
namespace Go.Proofs.YtbjaiphfehnncaaDoor.Px
open Fig Go.RowKit Go.Proofs.YtbjaiphfehnncaaDoorW.PrintWords Go.Proofs.YtbjaiphfehnncaaDoorW.PrintLast Go.Proofs.YtbjaiphfehnncaaDoorW.PrintMore
attribute [local go_sem] max2_int min2_int max_two min_two max_three min_three max_four min_four   -- for this text's walks alone
attribute [local go_sem] fieldA23_0 fieldA23_1 fieldA23_2
theorem numP {s : ByteArray} (h : dB s = true) (hne : s.size ≠ 0) (hs : s.size ≤ 140737488351232) : ten_Number.f s = some (limbs (vB s), true) := by
  unfold ten_Number.f; rw [if_pos hs, if_pos ⟨h, hne⟩]
end Go.Proofs.YtbjaiphfehnncaaDoor.Px
end
section
namespace Go.Proofs.YtbjaiphfehnncaaDoor.Px
open Fig Go.RowKit Go.Proofs.YtbjaiphfehnncaaDoorW.PrintWords Go.Proofs.YtbjaiphfehnncaaDoorW.PrintLast Go.Proofs.YtbjaiphfehnncaaDoorW.PrintMore
attribute [local go_sem] max2_int min2_int max_two min_two max_three min_three max_four min_four   -- for this text's walks alone
attribute [local go_sem] fieldA23_0 fieldA23_1 fieldA23_2
theorem coefP {b : Bool} {s : ByteArray} {e : Int} (h : OkD s e) : dec_Coef.f b s e = some (limbs (vB s)) := by
  have := h.sz
  unfold dec_Coef.f; rw [numP h.d h.ne (by omega)]; rfl
theorem coef_len {s : ByteArray} {e : Int} (h : OkD s e) : (limbs (vB s)).length ≤ 100000 := by
  have := limbs_len_digB (vB s)
  have := h.val
  have := h.sz
  omega
theorem shiftP {l : List Int} {n : Int} (g : goodL l = true) (hl : l.length ≤ 500000) (hn : n ≤ 1000000) : ten_Shift.f l n = some (limbs (valL l * 10 ^ n.toNat)) := by unfold ten_Shift.f; rw [if_pos ⟨g, hl, hn⟩]
end Go.Proofs.YtbjaiphfehnncaaDoor.Px
end
section
namespace Go.Proofs.YtbjaiphfehnncaaDoor.Px
open Fig Go.RowKit Go.Proofs.YtbjaiphfehnncaaDoorW.PrintWords Go.Proofs.YtbjaiphfehnncaaDoorW.PrintLast Go.Proofs.YtbjaiphfehnncaaDoorW.PrintMore
attribute [local go_sem] max2_int min2_int max_two min_two max_three min_three max_four min_four   -- for this text's walks alone
attribute [local go_sem] fieldA23_0 fieldA23_1 fieldA23_2
theorem w_add (e : Int) (p : Nat) (h1 : -1000000 ≤ e) (h2 : e ≤ 1000000) (hp : p ≤ 1000000) : wrap64 (e + (p : Int)) = e + (p : Int) := w64 (by omega) (by omega)
theorem w_norm (e : Int) (p q : Nat) (h1 : -1000000 ≤ e) (h2 : e ≤ 1000000) (hp : p ≤ 1000000) (hq : q ≤ 1000000) : wrap64 (wrap64 (e + (p : Int)) - (q : Int)) = e + (p : Int) - (q : Int) := by rw [w_add e p h1 h2 hp, w64 (by omega) (by omega)]
theorem normP {b : Bool} {s : ByteArray} {e : Int} (h : OkD s e) : dec_Norm.f b s e = some (b, nD (vB s), nE (vB s) e) := by
  have hz := h.val
  have h1 := h.sz
  have h2 := h.lo
  have h3 := h.hi
  unfold dec_Norm.f
  rw [show strings_TrimLeft.f s (⟨#[48]⟩ : ByteArray) = some (digB (vB s)) by unfold strings_TrimLeft.f; rw [if_pos rfl, stripB_eq h.d]]
  simp only [Option.bind_some]
  by_cases h0 : vB s = 0
  · rw [if_pos (digB_toList_nil.2 h0), h0]; rfl
  · rw [if_neg (fun hh => h0 (digB_toList_nil.1 hh))]
    have hl := digB_len_core h0
    have ht : strings_TrimRight.f (digB (vB s)) (⟨#[48]⟩ : ByteArray) = some (digB (core (vB s))) := by
      unfold strings_TrimRight.f
      rw [if_pos ⟨rfl, by omega⟩]
      show some (⟨(Lib.trimRightB (digs (vB s)) 48).toArray⟩ : ByteArray) = _
      unfold Lib.trimRightB; rw [trimR_digs h0]; rfl
    rw [ht]
    simp only [Option.bind_some]
    rw [w_norm e _ _ (by omega) (by omega) (by omega) (by omega)]
    unfold nD nE
    rw [if_neg h0, if_neg h0, show e + ((digB (vB s)).size : Int) - ((digB (core (vB s))).size : Int) = e + (tz (vB s) : Int) by omega]
end Go.Proofs.YtbjaiphfehnncaaDoor.Px
end
section
namespace Go.Proofs.YtbjaiphfehnncaaDoor.Px
open Fig Go.RowKit Go.Proofs.YtbjaiphfehnncaaDoorW.PrintWords Go.Proofs.YtbjaiphfehnncaaDoorW.PrintLast Go.Proofs.YtbjaiphfehnncaaDoorW.PrintMore
attribute [local go_sem] max2_int min2_int max_two min_two max_three min_three max_four min_four   -- for this text's walks alone
attribute [local go_sem] fieldA23_0 fieldA23_1 fieldA23_2
theorem zeroB_ok (v : Nat) : dB (zeroB v) = true ∧ (zeroB v).size ≠ 0 ∧ vB (zeroB v) = v := by
  unfold zeroB
  by_cases h : v = 0
  · rw [if_pos h, h]; exact ⟨rfl, by decide, rfl⟩
  · rw [if_neg h]; exact ⟨dB_digB v, fun e => h (digB_empty_iff.1 e), vB_digB v⟩
theorem zeroB_size {v k : Nat} (h : (digB v).size ≤ k) (hk : 1 ≤ k) : (zeroB v).size ≤ k := by
  unfold zeroB
  by_cases h0 : v = 0
  · rw [if_pos h0]; exact hk
  · rw [if_neg h0]; exact h
theorem digitsP {v k : Nat} (h : (digB v).size ≤ k) (hk : k ≤ 1000000) : ten_Digits.f (limbs v) = some (zeroB v) := by
  have := limbs_len_digB v
  unfold ten_Digits.f; rw [if_pos ⟨limbs_good v, by omega⟩, limbs_val]
theorem madeP {b : Bool} {v : Nat} {e : Int} (hz : (digB v).size ≤ 50000) (h1 : -100000 ≤ e) (h2 : e ≤ 100000) : arith_made.f b (limbs v) e = some (resD (sg b v) e) := by
  obtain ⟨d1, d2, d3⟩ := zeroB_ok v
  have d4 := zeroB_size (k := 50000) hz (by decide)
  unfold arith_made.f
  rw [digitsP hz (by decide)]
  simp only [Option.bind_some]
  rw [normP ⟨d1, d2, by omega, h1, h2⟩, d3, resD_sg]
  simp only [Option.bind_some]
  cases b
  · simp
  · have : ((limbs v).length : Int) > 0 ↔ v ≠ 0 := by
      constructor
      · intro h e; rw [e, limbs_zero] at h; simp at h
      · intro h
        have : (limbs v).length ≠ 0 := fun e => h (limbs_nil_iff.1 (List.eq_nil_of_length_eq_zero e))
        omega
    simp only [if_true, Bool.true_and, decide_eq_decide.2 this]
end Go.Proofs.YtbjaiphfehnncaaDoor.Px
end
section
namespace Go.Proofs.YtbjaiphfehnncaaDoor.Px
open Fig Go.RowKit Go.Proofs.YtbjaiphfehnncaaDoorW.PrintWords Go.Proofs.YtbjaiphfehnncaaDoorW.PrintLast Go.Proofs.YtbjaiphfehnncaaDoorW.PrintMore
attribute [local go_sem] max2_int min2_int max_two min_two max_three min_three max_four min_four   -- for this text's walks alone
attribute [local go_sem] fieldA23_0 fieldA23_1 fieldA23_2
theorem addP {a b : Bool} {s t : ByteArray} {e f : Int} (h : OkS s e) (g : OkS t f) : arith_Add.f a s e b t f = some (sumD a (vB s) e b (vB t) f) := by
  have hs := h.ok.val
  have hsz := h.sz
  have hlo := h.lo
  have hhi := h.hi
  have gs := g.ok.val
  have gsz := g.sz
  have glo := g.lo
  have ghi := g.hi
  have hm : mn e f = min e f := by unfold mn; omega
  obtain ⟨m, hm2⟩ : ∃ m, m = min e f := ⟨_, rfl⟩
  have x1 := size_vZ a (n := vB s) (p := 10000) e m (by omega)
  have y1 := size_vZ b (n := vB t) (p := 10000) f m (by omega)
  rw [vZ_natAbs] at x1 y1
  have lx := coef_len h.ok
  have ly := coef_len g.ok
  have s1 : ten_Shift.f (limbs (vB s)) (wrap64 (e - m)) = some (limbs (atE (vB s) e m)) := by
    rw [w64 (x := e - m) (by omega) (by omega), shiftP (limbs_good _) (by omega) (by omega), limbs_val]; rfl
  have s2 : ten_Shift.f (limbs (vB t)) (wrap64 (f - m)) = some (limbs (atE (vB t) f m)) := by
    rw [w64 (x := f - m) (by omega) (by omega), shiftP (limbs_good _) (by omega) (by omega), limbs_val]; rfl
  unfold arith_Add.f
  rw [hm, ← hm2, coefP h.ok]
  simp only [Option.bind_some]
  rw [s1]
  simp only [Option.bind_some]
  rw [coefP g.ok]
  simp only [Option.bind_some]
  rw [s2]
  simp only [Option.bind_some]
  rw [sumD_at (k := m) (by omega) (by omega)]
  unfold vZ
  obtain ⟨x, hx⟩ : ∃ x, x = atE (vB s) e m := ⟨_, rfl⟩
  obtain ⟨y, hy⟩ : ∃ y, y = atE (vB t) f m := ⟨_, rfl⟩
  rw [← hx, ← hy]
  rw [← hx] at x1
  rw [← hy] at y1
  have x2 : (digB x).size ≤ 30000 := by omega
  have y2 : (digB y).size ≤ 30000 := by omega
  have l1 := limbs_len_digB x
  have l2 := limbs_len_digB y
  cases hab : (a == b)
  · rw [if_neg (by decide)]
    by_cases hl : x < y
    · have q1 : nat_Sub.f (limbs x) (limbs y) = some ([], false) := subF_lt (limbs_good _) (limbs_good _) (by omega) (by omega) (by rw [limbs_val, limbs_val]; exact hl)
      have q2 : nat_Sub.f (limbs y) (limbs x) = some (limbs (y - x), true) := by
        have := subF_ge (limbs_good y) (limbs_good x) (by omega) (by omega) (by rw [limbs_val, limbs_val]; omega)
        rwa [limbs_val, limbs_val] at this
      rw [q1]
      simp only [Option.bind_some]
      rw [if_neg (by decide), q2]
      simp only [Option.bind_some]
      have := digB_mono (Nat.sub_le y x) y2
      rw [madeP (by omega) (by omega) (by omega), sg_sub' hab (by omega)]; rfl
    · have q1 : nat_Sub.f (limbs x) (limbs y) = some (limbs (x - y), true) := by
        have := subF_ge (limbs_good x) (limbs_good y) (by omega) (by omega) (by rw [limbs_val, limbs_val]; omega)
        rwa [limbs_val, limbs_val] at this
      rw [q1]
      simp only [Option.bind_some]
      rw [if_pos trivial]
      have := digB_mono (Nat.sub_le x y) x2
      rw [madeP (by omega) (by omega) (by omega), sg_sub hab (by omega)]; rfl
  · obtain rfl := beq_iff_eq.1 hab
    have q1 : nat_Add.f (limbs x) (limbs y) = some (limbs (x + y)) := by
      have := addF_eq (limbs_good x) (limbs_good y) (by omega) (by omega)
      rwa [limbs_val, limbs_val] at this
    rw [if_pos rfl, q1]
    simp only [Option.bind_some]
    have := digB_add_le x2 y2
    rw [madeP (by omega) (by omega) (by omega), sg_add]; rfl
end Go.Proofs.YtbjaiphfehnncaaDoor.Px
end
section
namespace Go.Proofs.YtbjaiphfehnncaaDoor.Px
open Fig Go.RowKit Go.Proofs.YtbjaiphfehnncaaDoorW.PrintWords Go.Proofs.YtbjaiphfehnncaaDoorW.PrintLast Go.Proofs.YtbjaiphfehnncaaDoorW.PrintMore
attribute [local go_sem] max2_int min2_int max_two min_two max_three min_three max_four min_four   -- for this text's walks alone
attribute [local go_sem] fieldA23_0 fieldA23_1 fieldA23_2
theorem subP {a b : Bool} {s t : ByteArray} {e f : Int} (h : OkS s e) (g : OkS t f) : arith_Sub.f a s e b t f = some (sumD a (vB s) e (!b) (vB t) f) := by
  unfold arith_Sub.f; rw [addP h g]; rfl
end Go.Proofs.YtbjaiphfehnncaaDoor.Px
end
section
namespace Go.Proofs.YtbjaiphfehnncaaDoor.Px
open Fig Go.RowKit Go.Proofs.YtbjaiphfehnncaaDoorW.PrintWords Go.Proofs.YtbjaiphfehnncaaDoorW.PrintLast Go.Proofs.YtbjaiphfehnncaaDoorW.PrintMore
attribute [local go_sem] max2_int min2_int max_two min_two max_three min_three max_four min_four   -- for this text's walks alone
attribute [local go_sem] fieldA23_0 fieldA23_1 fieldA23_2
theorem Mul_loop (a b : List Int) (ga : goodL a = true) (gb : goodL b = true) (la : a.length ≤ 1000000) (lb : b.length ≤ 1000000) : ∀ (d n : Nat) (x : List Int), b.length - n = d → n ≤ b.length → goodL x = true → x.length = a.length + b.length + 1 → valL x = valL a * valL (b.take n) →
    Ev (fun k => mul_Mul.l0 k a x b (b.length : Int) (n : Int)) (limbs (valL a * valL b))
  | 0, n, x, h1, h2, gx, hx, hv => by
    refine evDone (r' := limbs (valL x)) (fun k => ?_) ?_
    · simp only [mul_Mul.l0, nat_Trim.f]; rw [if_neg (by omega), trimF_eq gx (by omega)]; rfl
    · rw [hv, List.take_of_length_le (by omega)]
  | d + 1, n, x, h1, h2, gx, hx, hv => by
    have hnb : n < b.length := by omega
    have pb := goodL_iff.1 gb _ (List.getElem_mem hnb)
    obtain ⟨y, hy⟩ : ∃ v : Nat, b[n] = (v : Int) := ⟨b[n].toNat, by omega⟩
    have e : valL (b.take (n + 1)) = valL (b.take n) + 1000000000 ^ n * y := by
      rw [List.take_succ_eq_append_getElem hnb, valL_snoc, hy, Int.toNat_natCast, List.length_take, Nat.min_eq_left (by omega)]
    have key : valL x + 1000000000 ^ n * (valL a * y) = valL a * valL (b.take (n + 1)) := by
      rw [hv, e, Nat.mul_add, Nat.mul_left_comm (1000000000 ^ n)]
    have hlt : valL x + 1000000000 ^ n * (valL a * y) < 1000000000 ^ x.length := by
      rw [key, hx]
      have va := valL_lt ga
      have vb := valL_lt (goodL_take gb (n + 1))
      have h3 := Nat.mul_lt_mul'' va vb
      rw [← Nat.pow_add] at h3
      exact Nat.lt_of_lt_of_le h3 (Nat.pow_le_pow_right (by omega) (by rw [List.length_take]; omega))
    obtain ⟨r, hr, g1, g2, g3⟩ := row_ev (p := n) gx ga (show y < 1000000000 by omega) (by omega) (by omega) hlt
    refine Ev.step (f := fun k => (mul_row.f k x a (y : Int) (n : Int)).bind fun t => mul_Mul.l0 k a t b (b.length : Int) ((n + 1 : Nat) : Int)) (fun k => ?_) (Ev.bind hr (Mul_loop a b ga gb la lb d (n + 1) r (by omega) (by omega) g1 (by omega) (by rw [g3, key])))
    simp only [mul_Mul.l0]; rw [if_pos (by omega), if_pos (by omega), if_pos (by omega), rd_get hnb, hy, succ64 _ (by omega)]
theorem Mul_ev {a b : List Int} (ga : goodL a = true) (gb : goodL b = true) (la : a.length ≤ 1000000) (lb : b.length ≤ 1000000) : Ev (fun k => mul_Mul.f k a b) (limbs (valL a * valL b)) := by
  unfold mul_Mul.f
  rw [times_len _ _ la lb]
  have c1 : (0 : Int) ≤ ((a.length + b.length + 1 : Nat) : Int) := by omega
  have c2 : a.length + b.length + 1 ≤ 70368744177664 := by omega
  simp only [Int.toNat_natCast, c1, c2, if_true]
  exact Mul_loop a b ga gb la lb b.length 0 _ rfl (by omega) (goodL_replicate _) (by simp) (by rw [valL_replicate]; simp [valL])
end Go.Proofs.YtbjaiphfehnncaaDoor.Px
end
section
namespace Go.Proofs.YtbjaiphfehnncaaDoor.Px
open Fig Go.RowKit Go.Proofs.YtbjaiphfehnncaaDoorW.PrintWords Go.Proofs.YtbjaiphfehnncaaDoorW.PrintLast Go.Proofs.YtbjaiphfehnncaaDoorW.PrintMore
attribute [local go_sem] max2_int min2_int max_two min_two max_three min_three max_four min_four   -- for this text's walks alone
attribute [local go_sem] fieldA23_0 fieldA23_1 fieldA23_2
theorem mulP_ev {a b : Bool} {s t : ByteArray} {e f : Int} (h : OkS s e) (g : OkS t f) : Ev (fun k => arith_Mul.f k a s e b t f) (prodD a (vB s) e b (vB t) f) := by
  have hsz := h.sz
  have hlo := h.lo
  have hhi := h.hi
  have gsz := g.sz
  have glo := g.lo
  have ghi := g.hi
  have hs := h.ok.val
  have gs := g.ok.val
  have hm := digB_mul_le (p := 10000) (q := 10000) (show (digB (vB s)).size ≤ 10000 by omega) (show (digB (vB t)).size ≤ 10000 by omega)
  have lx := coef_len h.ok
  have ly := coef_len g.ok
  unfold arith_Mul.f
  refine evE (coefP h.ok) (evE (coefP g.ok) (Ev.bind (Mul_ev (limbs_good _) (limbs_good _) (by omega) (by omega)) ?_))
  rw [limbs_val, limbs_val, w64 (x := e + f) (by omega) (by omega)]
  refine evE (madeP (by omega) (by omega) (by omega)) ?_
  rw [sg_mul]; exact Ev.now _
end Go.Proofs.YtbjaiphfehnncaaDoor.Px
end
section
namespace Go.Proofs.YtbjaiphfehnncaaDoor.Px
open Fig Go.RowKit Go.Proofs.YtbjaiphfehnncaaDoorW.PrintWords Go.Proofs.YtbjaiphfehnncaaDoorW.PrintLast Go.Proofs.YtbjaiphfehnncaaDoorW.PrintMore
attribute [local go_sem] max2_int min2_int max_two min_two max_three min_three max_four min_four   -- for this text's walks alone
attribute [local go_sem] fieldA23_0 fieldA23_1 fieldA23_2
theorem negP {b : Bool} {s : ByteArray} {e : Int} (h : OkD s e) : arith_Neg.f b s e = some (!b, nD (vB s), nE (vB s) e) := by
  unfold arith_Neg.f; rw [normP h]; rfl
end Go.Proofs.YtbjaiphfehnncaaDoor.Px
end
section
namespace Go.Proofs.YtbjaiphfehnncaaDoor.Px
open Fig Go.RowKit Go.Proofs.YtbjaiphfehnncaaDoorW.PrintWords Go.Proofs.YtbjaiphfehnncaaDoorW.PrintLast Go.Proofs.YtbjaiphfehnncaaDoorW.PrintMore
attribute [local go_sem] max2_int min2_int max_two min_two max_three min_three max_four min_four   -- for this text's walks alone
attribute [local go_sem] fieldA23_0 fieldA23_1 fieldA23_2
theorem scaleP {b : Bool} {s : ByteArray} {e n : Int} (h : OkD s (e + n)) (h1 : -1000000 ≤ e) (h2 : e ≤ 1000000) (h3 : -1000000 ≤ n) (h4 : n ≤ 1000000) : arith_Scale.f b s e n = some (b, nD (vB s), nE (vB s) (e + n)) := by
  unfold arith_Scale.f; rw [w64 (x := e + n) (by omega) (by omega), normP h]; rfl
end Go.Proofs.YtbjaiphfehnncaaDoor.Px
end
section
namespace Go.Proofs.YtbjaiphfehnncaaDoor.Px
open Fig Go.RowKit Go.Proofs.YtbjaiphfehnncaaDoorW.PrintWords Go.Proofs.YtbjaiphfehnncaaDoorW.PrintLast Go.Proofs.YtbjaiphfehnncaaDoorW.PrintMore
attribute [local go_sem] max2_int min2_int max_two min_two max_three min_three max_four min_four   -- for this text's walks alone
attribute [local go_sem] fieldA23_0 fieldA23_1 fieldA23_2
theorem nD_lit {n m k : Nat} {s : ByteArray} (h : n = m * 10 ^ k) (hm : m % 10 ≠ 0) (hd : dB s = true) (hv : vB s = m) (hs : stripB s = s) : nD n = s := by
  rw [h, nD_pow, nD_of hm, ← hv, ← stripB_eq hd, hs]
theorem answers06_ev : Ev (fun k => figureheadlaw06_answers.f k) true := by
  have ok1 : OkS (⟨#[49]⟩ : ByteArray) 0 := OkS.of_good (by decide)
  have ok2 : OkS (⟨#[50, 53]⟩ : ByteArray) (-2) := OkS.of_good (by decide)
  have ok3 : OkS (⟨#[50, 53]⟩ : ByteArray) (-2 + 2) := OkS.of_good (by decide)
  have v1 : vB (⟨#[49]⟩ : ByteArray) = 1 := by decide
  have v2 : vB (⟨#[50, 53]⟩ : ByteArray) = 25 := by decide
  have n75 : nD 75 = (⟨#[55, 53]⟩ : ByteArray) := nD_lit (m := 75) (k := 0) (by decide) (by decide) (by decide) (by decide) (by decide)
  have n625 : nD 625 = (⟨#[54, 50, 53]⟩ : ByteArray) := nD_lit (m := 625) (k := 0) (by decide) (by decide) (by decide) (by decide) (by decide)
  have n25 : nD 25 = (⟨#[50, 53]⟩ : ByteArray) := nD_lit (m := 25) (k := 0) (by decide) (by decide) (by decide) (by decide) (by decide)
  have e75 : nE 75 (-2) = -2 := nE_of (by decide)
  have e625 : nE 625 (-4) = -4 := nE_of (by decide)
  have e25 : nE 25 0 = 0 := nE_of (by decide)
  have r1 : sumD false 1 0 (!false) 25 (-2) = (false, (⟨#[55, 53]⟩ : ByteArray), -2) := by
    show (zN 75, nD 75, nE 75 (-2)) = _
    rw [n75, e75]; rfl
  have r2 : prodD false 25 (-2) false 25 (-2) = (false, (⟨#[54, 50, 53]⟩ : ByteArray), -4) := by
    show (zN 625, nD 625, nE 625 (-4)) = _
    rw [n625, e625]; rfl
  unfold figureheadlaw06_answers.f
  refine evE (subP ok1 ok2) ?_
  rw [v1, v2, r1]
  refine evT (by simp [ByteArray.toList_eq]) (Ev.bind (mulP_ev ok2 ok2) ?_)
  rw [v2, r2]
  refine evT (by simp [ByteArray.toList_eq]) (evE (scaleP ok3.ok (by decide) (by decide) (by decide) (by decide)) ?_)
  rw [v2, n25, show nE 25 (-2 + 2) = 0 from e25]
  refine evT (by simp [ByteArray.toList_eq]) (evE (negP ok1.ok) ?_)
  exact Ev.now true
end Go.Proofs.YtbjaiphfehnncaaDoor.Px
end
section
namespace Go.Proofs.YtbjaiphfehnncaaDoor.Px
open Fig Go.RowKit Go.Proofs.YtbjaiphfehnncaaDoorW.PrintWords Go.Proofs.YtbjaiphfehnncaaDoorW.PrintLast Go.Proofs.YtbjaiphfehnncaaDoorW.PrintMore
attribute [local go_sem] max2_int min2_int max_two min_two max_three min_three max_four min_four   -- for this text's walks alone
attribute [local go_sem] fieldA23_0 fieldA23_1 fieldA23_2
theorem absP {b : Bool} {s : ByteArray} {e : Int} (h : OkD s e) : arith_Abs.f b s e = some (false, nD (vB s), nE (vB s) e) := by
  unfold arith_Abs.f; rw [normP h]; rfl
end Go.Proofs.YtbjaiphfehnncaaDoor.Px
end
section
namespace Go.Proofs.YtbjaiphfehnncaaDoor.Px
open Fig Go.RowKit Go.Proofs.YtbjaiphfehnncaaDoorW.PrintWords Go.Proofs.YtbjaiphfehnncaaDoorW.PrintLast Go.Proofs.YtbjaiphfehnncaaDoorW.PrintMore
attribute [local go_sem] max2_int min2_int max_two min_two max_three min_three max_four min_four   -- for this text's walks alone
attribute [local go_sem] fieldA23_0 fieldA23_1 fieldA23_2
theorem zN_neg {S : Int} (h : S ≠ 0) : (!zN (-S)) = zN S := by
  unfold zN
  by_cases h1 : S < 0
  · rw [decide_eq_true h1, decide_eq_false (by omega)]; rfl
  · rw [decide_eq_false h1, decide_eq_true (by omega)]; rfl
theorem nD_bytes (n : Nat) : (nD n).toList = ([48] : List UInt8) ↔ n = 0 := by
  rw [← nD_nought_iff]
  constructor
  · intro h
    apply B_ext
    rw [ByteArray.toList_eq] at h
    exact h
  · intro h; rw [h, ByteArray.toList_eq]; rfl
theorem again_nD (n : Nat) : nD (vB (nD n)) = nD n := by rw [vB_nD, nD_core]
theorem again_nE (n : Nat) (e : Int) : nE (vB (nD n)) (nE n e) = nE n e := by rw [vB_nD, nE_core]
theorem ArithSigns_pure (a0_0 : Bool) (a0_1 : ByteArray) (a0_2 : Int) (a1_0 : Bool) (a1_1 : ByteArray) (a1_2 : Int) (w0_1 : a0_1.size ≤ 140737488351232) (w0_2 : (Lit.int .i64 a0_2).wf = true) (w1_1 : a1_1.size ≤ 140737488351232) (w1_2 : (Lit.int .i64 a1_2).wf = true) : ∃ k, figureheadlaw06_ArithSigns.f k a0_0 a0_1 a0_2 a1_0 a1_1 a1_2 = some true := by
  refine Ev.rounds (g := fun k => figureheadlaw06_ArithSigns.f k a0_0 a0_1 a0_2 a1_0 a1_1 a1_2) ?_
  unfold figureheadlaw06_ArithSigns.f
  refine Ev.bind (good06_ev (by simp) (by simp; exact ⟨w0_1, w1_1⟩)) ?_
  cases hg : [(⟨a0_0, a0_1, a0_2⟩ : S23), (⟨a1_0, a1_1, a1_2⟩ : S23)].all fun x => goodD x.f1 x.f2 && decide (x.f1.size ≤ 200)
  · exact evF (by decide) (Ev.bind answers06_ev (Ev.now true))
  obtain ⟨⟨g1, z1⟩, g2, z2⟩ : (goodD a0_1 a0_2 = true ∧ a0_1.size ≤ 200) ∧ goodD a1_1 a1_2 = true ∧ a1_1.size ≤ 200 := by simpa using hg
  have ok1 := OkS.of_good g1
  have ok2 := OkS.of_good g2
  obtain ⟨-, -, -, e1, e2⟩ := goodD_iff.1 g1
  obtain ⟨-, -, -, f1, f2⟩ := goodD_iff.1 g2
  have v1 := ok1.ok.val
  have v2 := ok2.ok.val
  obtain ⟨n, hn⟩ : ∃ n, n = vB a0_1 := ⟨_, rfl⟩
  obtain ⟨m, hm⟩ : ∃ m, m = vB a1_1 := ⟨_, rfl⟩
  rw [← hn] at v1
  rw [← hm] at v2
  obtain ⟨k, hk⟩ : ∃ k, k = min a0_2 a1_2 := ⟨_, rfl⟩
  obtain ⟨S, hS⟩ : ∃ S, S = vZ a0_0 n a0_2 k - vZ a1_0 m a1_2 k := ⟨_, rfl⟩
  have s1 := size_vZ a0_0 (n := n) (p := 200) a0_2 k (by omega)
  have s2 := size_vZ a1_0 (n := m) (p := 200) a1_2 k (by omega)
  have sS : (digB S.natAbs).size ≤ 5000 := by
    have h2 : (digB (-(vZ a1_0 m a1_2 k)).natAbs).size ≤ 3000 := by rw [size_neg]; omega
    have h3 := size_add (x := vZ a0_0 n a0_2 k) (y := -(vZ a1_0 m a1_2 k)) (p := 3000) (by omega) h2
    rw [← Int.sub_eq_add_neg, ← hS] at h3
    omega
  have hD : sumD a0_0 n a0_2 (!a1_0) m a1_2 = resD S k := by rw [sumD_at (k := k) (by omega) (by omega), vZ_not, hS, Int.sub_eq_add_neg]
  have hE : sumD a1_0 m a1_2 (!a0_0) n a0_2 = resD (-S) k := by rw [sumD_at (k := k) (by omega) (by omega), vZ_not, hS, Int.neg_sub, Int.sub_eq_add_neg]
  obtain ⟨i, hi⟩ : ∃ i, i = min a0_2 0 := ⟨_, rfl⟩
  obtain ⟨j, hj⟩ : ∃ j, j = min a1_2 0 := ⟨_, rfl⟩
  obtain ⟨Q, hQ⟩ : ∃ Q, Q = vZ a0_0 n a0_2 i * vZ a1_0 m a1_2 j := ⟨_, rfl⟩
  have hP : prodD a0_0 n a0_2 a1_0 m a1_2 = resD Q (i + j) := by rw [prodD_at (i := i) (j := j) (by omega) (by omega), hQ]
  have q1 := size_vZ a0_0 (n := n) (p := 200) a0_2 i (by omega)
  have q2 := size_vZ a1_0 (n := m) (p := 200) a1_2 j (by omega)
  have sQ : (digB Q.natAbs).size ≤ 5000 := by
    have h3 := size_mul (x := vZ a0_0 n a0_2 i) (y := vZ a1_0 m a1_2 j) (p := 1200) (q := 1200) (by omega) (by omega)
    rw [← hQ] at h3; omega
  have okn : OkS (nD n) (nE n a0_2) := OkS.norm (by omega) (by omega) (by omega)
  have okm : OkS (nD m) (nE m a1_2) := OkS.norm (by omega) (by omega) (by omega)
  have okS : OkS (nD S.natAbs) (nE S.natAbs k) := OkS.norm sS (by omega) (by omega)
  have okQ : OkS (nD Q.natAbs) (nE Q.natAbs (i + j)) := OkS.norm sQ (by omega) (by omega)
  have hA : prodD false (vB (nD n)) (nE n a0_2) false (vB (nD m)) (nE m a1_2) = (false, nD Q.natAbs, nE Q.natAbs (i + j)) := by
    rw [vB_nD, vB_nD, prodD_at (i := i) (j := j) (by have := nE_ge' n a0_2; omega) (by have := nE_ge' m a1_2; omega), vZ_core false (by omega), vZ_core false (by omega)]
    have hz : vZ false n a0_2 i * vZ false m a1_2 j = (Q.natAbs : Int) := by
      rw [hQ, Int.natAbs_mul, vZ_natAbs, vZ_natAbs]; unfold vZ sg; simp
    rw [hz]
    unfold resD
    rw [Int.natAbs_natCast, show zN (Q.natAbs : Int) = false by unfold zN; exact decide_eq_false (by omega)]
  have hsgn : Q ≠ 0 → zN Q = (a0_0 != a1_0) := by
    intro h
    have h2 : Q = sg (a0_0 != a1_0) (atE n a0_2 i * atE m a1_2 j) := by rw [hQ]; unfold vZ; rw [sg_mul]
    rw [h2] at h ⊢
    rw [zN_sg]
    have h3 : atE n a0_2 i * atE m a1_2 j ≠ 0 := fun hh => h (sg_eq_zero.2 hh)
    simp [h3]
  have hD2 : sumD a0_0 (vB a0_1) a0_2 (!a1_0) (vB a1_1) a1_2 = resD S k := by rw [← hn, ← hm]; exact hD
  have hE2 : sumD a1_0 (vB a1_1) a1_2 (!a0_0) (vB a0_1) a0_2 = resD (-S) k := by rw [← hn, ← hm]; exact hE
  have hP2 : prodD a0_0 (vB a0_1) a0_2 a1_0 (vB a1_1) a1_2 = resD Q (i + j) := by rw [← hn, ← hm]; exact hP
  refine evT rfl (evE ((subP ok1 ok2).trans (congrArg some hD2)) (evE ((subP ok2 ok1).trans (congrArg some hE2)) (Ev.bind (evIs (mulP_ev ok1 ok2) hP2) (Ev.bind answers06_ev (evT rfl ?_)))))
  unfold resD
  refine evE (negP ok1.ok) ?_
  rw [← hn]
  refine evE (negP okn.ok) ?_
  rw [again_nD, again_nE]
  refine Ev.bind (Norm05_ev ok1.ok) ?_
  rw [← hn]
  refine evT (by simp) ?_
  rw [Int.natAbs_neg]
  have tail : ∀ x : Bool, Ev (fun k_ => if (nD Q.natAbs).toList = ([48] : List UInt8) then ((arith_Abs.f a0_0 a0_1 a0_2).bind fun bt611 => ((arith_Abs.f a1_0 a1_1 a1_2).bind fun bt614 => ((arith_Mul.f k_ bt611.1 bt611.2.1 bt611.2.2 bt614.1 bt614.2.1 bt614.2.2).bind fun bt617 => ((arith_Abs.f (zN Q) (nD Q.natAbs) (nE Q.natAbs (i + j))).bind fun bt620 => (some (bt617.1 == bt620.1 && (bt617.2.1.toList == bt620.2.1.toList && (bt617.2.2 == bt620.2.2)))))))) else (if (zN Q == (a0_0 != a1_0)) = true then ((arith_Abs.f a0_0 a0_1 a0_2).bind fun bt623 => ((arith_Abs.f a1_0 a1_1 a1_2).bind fun bt626 => ((arith_Mul.f k_ bt623.1 bt623.2.1 bt623.2.2 bt626.1 bt626.2.1 bt626.2.2).bind fun bt629 => ((arith_Abs.f (zN Q) (nD Q.natAbs) (nE Q.natAbs (i + j))).bind fun bt632 => (some (bt629.1 == bt632.1 && (bt629.2.1.toList == bt632.2.1.toList && (bt629.2.2 == bt632.2.2)))))))) else (some false))) true := by
    intro _
    have fin : Ev (fun k_ => ((arith_Abs.f a0_0 a0_1 a0_2).bind fun bt611 => ((arith_Abs.f a1_0 a1_1 a1_2).bind fun bt614 => ((arith_Mul.f k_ bt611.1 bt611.2.1 bt611.2.2 bt614.1 bt614.2.1 bt614.2.2).bind fun bt617 => ((arith_Abs.f (zN Q) (nD Q.natAbs) (nE Q.natAbs (i + j))).bind fun bt620 => (some (bt617.1 == bt620.1 && (bt617.2.1.toList == bt620.2.1.toList && (bt617.2.2 == bt620.2.2))))))))) true := by
      refine evE (absP ok1.ok) (evE (absP ok2.ok) ?_)
      rw [← hn, ← hm]
      refine Ev.bind (evIs (mulP_ev okn okm) hA) (evE (absP okQ.ok) (evIs (Ev.now _) ?_))
      rw [again_nD, again_nE]; simp
    by_cases hq : Q = 0
    · exact evT (by rw [nD_bytes]; omega) fin
    · exact evF (by rw [nD_bytes]; omega) (evT (by rw [hsgn hq]; simp) fin)
  by_cases h0 : S = 0
  · refine evT (by rw [nD_bytes]; omega) (evT (by rw [h0]; simp) ?_)
    refine evE (absP okS.ok) (evE (absP okS.ok) (evT (by simp) ?_))
    exact tail true
  · refine evF (by rw [nD_bytes]; omega) (evE (negP okS.ok) ?_)
    rw [again_nD, again_nE, zN_neg h0]
    refine evT (by simp) (evE (absP okS.ok) (evE (absP okS.ok) (evT (by simp) ?_)))
    exact tail true
end Go.Proofs.YtbjaiphfehnncaaDoor.Px
end
section
namespace Go.Proofs.YtbjaiphfehnncaaDoorW.PrintWords
open Go.ChangeShapes Go.WideShapes
end Go.Proofs.YtbjaiphfehnncaaDoorW.PrintWords
end
section
namespace Fig
open Go Go.ChangeShapes
end Fig
end
section
namespace Fig
open Go Go.Proofs Go.Proofs.YtbjaiphfehnncaaDoor
set_option maxRecDepth 100000
def plainL : List (String × DataW Unit) := [("unicode/utf8.acceptRanges", Rows.laid_unicode_utf8_acceptRanges), ("figurehead/ten.powers", Rows.laid_figurehead_ten_powers), ("unicode/utf8.first", Rows.laid_unicode_utf8_first)]
def laidL : List (String × DataW Unit) := [("unicode/utf8.acceptRanges", Rows.laid_unicode_utf8_acceptRanges), ("figurehead/ten.powers", Rows.laid_figurehead_ten_powers), ("unicode/utf8.first", Rows.laid_unicode_utf8_first)]
noncomputable def startW (os : Os) : World := World.laidAll Tryd.prog os plainL
theorem startW_os (os : Os) : (startW os).os = os := World.laidAll_os _ _ _
theorem met (os : Os) (args : Array Value) : laidMetH Tryd.prog laidL ((startW os).forCall (fun _ _ => 0) ⟨#[], args, []⟩).memory := by
  rw [MakeChecks.laidMetH_plain _ _ _ (by kernel_rfl)]; exact laidMet_laidAll _ (by kernel_rfl) (by kernel_rfl)
theorem plainFilter : (laidL.filter fun x => x.2.handleName?.isNone) = plainL := by kernel_rfl
theorem plain_of {W : World} (h : laidMetH Tryd.prog laidL W) : laidMet Tryd.prog plainL W := plainFilter ▸ (laidMetH_iff.1 h).1
theorem pows_of {W : World} (h : laidMetH Tryd.prog laidL W) : ∀ i, i < 9 → W.cell? ⟨0, i, none⟩ = some (.int .u32 (([1, 10, 100, 1000, 10000, 100000, 1000000, 10000000, 100000000] : List Int).getD i 0)) := by
  have gN : Tryd.prog.globalNamed "figurehead/ten.powers" = some 0 := by kernel_rfl
  have gT : (Tryd.prog.globals[0]?).map (·.type) = some 72 := by kernel_rfl
  have hT := Lib.tabIs_of_head (k := .u32) (zs := [1, 10, 100, 1000, 10000, 100000, 1000000, 10000000, 100000000]) gN gT Tryd.underlying72 Tryd.underlying47 (by kernel_rfl) (by kernel_rfl) (laidMet.tail (plain_of h))
  exact fun i hi => hT.cell gN i hi
theorem of_laid {W : World} (h : laidMetH Tryd.prog laidL W) : Glob W := ⟨pows_of h⟩
end Fig
end
section
namespace Fig
open Go Go.ChangeShapes Go.WideShapes Go.RowKit Go.Deep Go.WideElems Go.Joins
theorem open_dec {H : Type} {enc : TypeId × Value → H} {P : Program} {w : World} {base : Nat} {spare : Nat → Bool} {held : Bool} {r : Reach} {b0 : Nat} {t : TypeId} {f0 f1 f2 : Field} {v : Value} {d : DataW H} {p : List MemPlace} {k : IntKind} (hs : P.underlying t = some (.struct #[f0, f1, f2])) (hone : oneCellFields P #[f0, f1, f2] = true) (hC : P.cellsOf t = 3)
    (u0 : P.underlying f0.type = some .bool) (u1 : P.underlying f1.type = some .string) (u2 : P.underlying f2.type = some (.int k)) (hv : Value.okWide P w r b0 t v) (h : DataW.Trod enc P w base spare held t v d p) :
    ∃ (x : Bool) (s : ByteArray) (n : Int), v = .agg #[.bool x, .string s, .int k n] ∧ d = .agg [.lit (.bool x), .lit (.string s.data.toList), .lit (.int k n)] ∧ p = [] ∧ s.size ≤ maxLen ∧ (Lit.int k n).wf = true := by
  obtain ⟨v0, v1, v2, y0, y1, y2, n, rfl, rfl, rfl, h0, h1, h2⟩ := open_agg3 hs hone hC hv h
  obtain ⟨x, e0, rfl⟩ := DataW.trod_bool u0 h0
  obtain ⟨s, e1, rfl, hl⟩ := DataW.trod_string u1 h1
  obtain ⟨m, e2, rfl, hw⟩ := DataW.trod_int u2 h2
  simp only [List.cons.injEq, and_true] at e0 e1 e2
  subst e0 e1 e2
  exact ⟨x, s, m, rfl, rfl, rfl, hl, hw⟩
theorem shut_dec {H : Type} {enc : TypeId × Value → H} {P : Program} {w : World} {base : Nat} {spare : Nat → Bool} {held : Bool} {t : TypeId} {f0 f1 f2 : Field} {k : IntKind} {x : Bool} {s : ByteArray} {n : Int} (hs : P.underlying t = some (.struct #[f0, f1, f2])) (hone : oneCellFields P #[f0, f1, f2] = true) (hC : P.cellsOf t = 3)
    (u0 : P.underlying f0.type = some .bool) (u1 : P.underlying f1.type = some .string) (u2 : P.underlying f2.type = some (.int k)) (hl : s.size ≤ maxLen) (hw : (Lit.int k n).wf = true) :
    DataW.Trod enc P w base spare held t (.agg #[.bool x, .string s, .int k n]) (.agg [.lit (.bool x), .lit (.string s.data.toList), .lit (.int k n)]) [] :=
  shut_agg3 (y0 := (.lit (.bool x), [])) (y1 := (.lit (.string s.data.toList), [])) (y2 := (.lit (.int k n), [])) hs hone hC ⟨1, by simp [DataW.trod, u0]⟩ ⟨1, by simp [DataW.trod, u1, hl]⟩ ⟨1, by simp [DataW.trod, u2, hw]⟩
theorem sized_dec {H : Type} {P : Program} {ts : List TypeId} {ds : List (DataW H)} (h : (DataW.weightsEach P ts ds).all (· ≤ reachBytes) = true) {j : Nat} {t : TypeId} {f0 f1 f2 : Field} {x y : DataW H} {bytes : List UInt8} (ht : ts[j]? = some t) (hd : ds[j]? = some (.agg [x, .lit (.string bytes), y])) (hs : P.underlying t = some (.struct #[f0, f1, f2])) : bytes.length ≤ reachBytes := by
  have := List.all_eq_true.1 h _ (DataW.weights_mem_each ht hd bytes.length (by simp [DataW.weights, DataW.weightsEach, hs]))
  simpa using this
end Fig
end
