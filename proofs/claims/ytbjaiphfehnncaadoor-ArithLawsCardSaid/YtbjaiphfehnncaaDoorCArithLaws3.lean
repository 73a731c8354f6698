/- The functions that the law ArithLaws reaches, told as plain functions, with what is proved of them, and the words they need (part 3). -/
import Derived.Test.YtbjaiphfehnncaaDoorCArithLaws0
import Derived.Test.YtbjaiphfehnncaaDoorCArithLaws2
import Derived.Test.YtbjaiphfehnncaaDoorCArithLaws1
import Derived.SizedLaws
import Derived.ChangeSlices
import Derived.LaidMore
import Derived.LaidHandle
import Derived.LaidSub
import Derived.OpenShut
import Derived.ChangeSame
import Derived.Lay
import Derived.Lib.LaidTab
import Derived.Test.YtbjaiphfehnncaaDoorRows
import Derived.Stop.LaidErr
import Derived.Lib.SmallJoins
import Derived.ChangeMaps5
set_option linter.unusedVariables false
set_option linter.unusedSimpArgs false
section
namespace Go.Proofs.YtbjaiphfehnncaaDoor.Px
open Fig Go.RowKit Go.Proofs.YtbjaiphfehnncaaDoorW.PrintWords Go.Proofs.YtbjaiphfehnncaaDoorW.PrintLast Go.Proofs.YtbjaiphfehnncaaDoorW.PrintMore
attribute [local go_sem] max2_int min2_int max_two min_two max_three min_three max_four min_four   -- for this text's walks alone
attribute [local go_sem high] eqA23
attribute [local go_sem] fieldA23_0 fieldA23_1 fieldA23_2
def figureheadlaw06_ArithLaws.j0 : Nat → Bool → Bool → ByteArray → Int → Bool → ByteArray → Int → Bool → ByteArray → Int → Option (Bool)
  | 0, _, _, _, _, _, _, _, _, _, _ => none
  | k + 1, x42, x530000, x530001, x530002, x531000, x531001, x531002, x532000, x532001, x532002 => if x42 = true then ((figureheadlaw06_answers.f k).bind fun t536 => (some t536)) else ((figureheadlaw06_answers.f k).bind fun t537 => (if t537 = true then ((arith_Add.f x530000 x530001 x530002 x531000 x531001 x531002).bind fun bt538 => ((arith_Add.f x531000 x531001 x531002 x530000 x530001 x530002).bind fun bt541 => (if (bt538.1 == bt541.1 && (bt538.2.1.toList == bt541.2.1.toList && (bt538.2.2 == bt541.2.2))) = true then ((arith_Add.f x530000 x530001 x530002 x531000 x531001 x531002).bind fun bt544 => ((arith_Add.f bt544.1 bt544.2.1 bt544.2.2 x532000 x532001 x532002).bind fun bt547 => ((arith_Add.f x531000 x531001 x531002 x532000 x532001 x532002).bind fun bt550 => ((arith_Add.f x530000 x530001 x530002 bt550.1 bt550.2.1 bt550.2.2).bind fun bt553 => (if (bt547.1 == bt553.1 && (bt547.2.1.toList == bt553.2.1.toList && (bt547.2.2 == bt553.2.2))) = true then ((arith_Add.f x531000 x531001 x531002 x532000 x532001 x532002).bind fun bt556 => ((arith_Mul.f k x530000 x530001 x530002 bt556.1 bt556.2.1 bt556.2.2).bind fun bt559 => ((arith_Mul.f k x530000 x530001 x530002 x531000 x531001 x531002).bind fun bt562 => ((arith_Mul.f k x530000 x530001 x530002 x532000 x532001 x532002).bind fun bt565 => ((arith_Add.f bt562.1 bt562.2.1 bt562.2.2 bt565.1 bt565.2.1 bt565.2.2).bind fun bt568 => (if (bt559.1 == bt568.1 && (bt559.2.1.toList == bt568.2.1.toList && (bt559.2.2 == bt568.2.2))) = true then ((arith_Sub.f x530000 x530001 x530002 x530000 x530001 x530002).bind fun bt571 => (some (!bt571.1 && (bt571.2.1.toList == ([48] : List UInt8) && (bt571.2.2 == 0))))) else (some false))))))) else (some false)))))) else (some false)))) else (some false)))
def figureheadlaw06_ArithLaws.f (k : Nat) (a0_0 : Bool) (a0_1 : ByteArray) (a0_2 : Int) (a1_0 : Bool) (a1_1 : ByteArray) (a1_2 : Int) (a2_0 : Bool) (a2_1 : ByteArray) (a2_2 : Int) : Option (Bool) := (figureheadlaw06_good.f k (([(⟨a0_0, a0_1, a0_2⟩ : S23), (⟨a1_0, a1_1, a1_2⟩ : S23), (⟨a2_0, a2_1, a2_2⟩ : S23)] : List (S23)))).bind fun t535 => (if t535 = true then (if a0_2 < (-300) then (figureheadlaw06_ArithLaws.j0 k true a0_0 a0_1 a0_2 a1_0 a1_1 a1_2 a2_0 a2_1 a2_2) else (if a0_2 > 300 then (figureheadlaw06_ArithLaws.j0 k true a0_0 a0_1 a0_2 a1_0 a1_1 a1_2 a2_0 a2_1 a2_2) else (if a1_2 < (-300) then (figureheadlaw06_ArithLaws.j0 k true a0_0 a0_1 a0_2 a1_0 a1_1 a1_2 a2_0 a2_1 a2_2) else (if a1_2 > 300 then (figureheadlaw06_ArithLaws.j0 k true a0_0 a0_1 a0_2 a1_0 a1_1 a1_2 a2_0 a2_1 a2_2) else (if a2_2 < (-300) then (figureheadlaw06_ArithLaws.j0 k true a0_0 a0_1 a0_2 a1_0 a1_1 a1_2 a2_0 a2_1 a2_2) else (figureheadlaw06_ArithLaws.j0 k (decide (a2_2 > 300)) a0_0 a0_1 a0_2 a1_0 a1_1 a1_2 a2_0 a2_1 a2_2)))))) else (figureheadlaw06_ArithLaws.j0 k true a0_0 a0_1 a0_2 a1_0 a1_1 a1_2 a2_0 a2_1 a2_2))
theorem figureheadlaw06_ArithLaws.mono_l : ∀ k, (∀ y0 y1 y2 y3 y4 y5 y6 y7 y8 y9, LeO (figureheadlaw06_ArithLaws.j0 k y0 y1 y2 y3 y4 y5 y6 y7 y8 y9) (figureheadlaw06_ArithLaws.j0 (k + 1) y0 y1 y2 y3 y4 y5 y6 y7 y8 y9))
  | 0 => fun _ _ _ _ _ _ _ _ _ _ r h => by simp [figureheadlaw06_ArithLaws.j0] at h
  | k + 1 => by
    have ih0 := figureheadlaw06_ArithLaws.mono_l k
    · intro y0 y1 y2 y3 y4 y5 y6 y7 y8 y9
      unfold figureheadlaw06_ArithLaws.j0
      repeat' first
      | (with_reducible exact ih0 _ _ _ _ _ _ _ _ _ _)
      | (with_reducible exact arith_Mul.mono _ _ _ _ _ _ _)
      | (with_reducible exact figureheadlaw06_answers.mono _)
      | (with_reducible exact figureheadlaw06_good.mono _ _)
      | (with_reducible exact LeO.refl _)
      | (with_reducible exact LeO.none _)
      | (with_reducible refine LeO.ite ?_ ?_)
      | (with_reducible refine LeO.bind ?_ (fun _ => ?_))
      | exact ih0 _ _ _ _ _ _ _ _ _ _
      | exact arith_Mul.mono _ _ _ _ _ _ _
      | exact figureheadlaw06_answers.mono _
      | exact figureheadlaw06_good.mono _ _
      | exact LeO.none _
      | refine LeO.ite ?_ ?_
      | refine LeO.bind ?_ (fun _ => ?_)
theorem figureheadlaw06_ArithLaws.mono : ∀ a0 a1 a2 a3 a4 a5 a6 a7 a8 k, LeO (figureheadlaw06_ArithLaws.f k a0 a1 a2 a3 a4 a5 a6 a7 a8) (figureheadlaw06_ArithLaws.f (k + 1) a0 a1 a2 a3 a4 a5 a6 a7 a8) := by
  intro a0 a1 a2 a3 a4 a5 a6 a7 a8 k
  have ih0 := figureheadlaw06_ArithLaws.mono_l k
  unfold figureheadlaw06_ArithLaws.f
  repeat' first
      | (with_reducible exact ih0 _ _ _ _ _ _ _ _ _ _)
      | (with_reducible exact arith_Mul.mono _ _ _ _ _ _ _)
      | (with_reducible exact figureheadlaw06_answers.mono _)
      | (with_reducible exact figureheadlaw06_good.mono _ _)
      | (with_reducible exact LeO.refl _)
      | (with_reducible exact LeO.none _)
      | (with_reducible refine LeO.ite ?_ ?_)
      | (with_reducible refine LeO.bind ?_ (fun _ => ?_))
      | exact ih0 _ _ _ _ _ _ _ _ _ _
      | exact arith_Mul.mono _ _ _ _ _ _ _
      | exact figureheadlaw06_answers.mono _
      | exact figureheadlaw06_good.mono _ _
      | exact LeO.none _
      | refine LeO.ite ?_ ?_
      | refine LeO.bind ?_ (fun _ => ?_)
def figureheadlaw06_ArithLaws.T3 : Bool × List (List Nat × List Nat) := (true, [([], []), ([0, 0], [0]), ([1], [1]), ([1], [1]), ([2, 3, 1, 1], [1, 2, 3]), ([1], [1]), ([1], [1]), ([5, 6, 4, 1], [1, 5, 6]), ([4, 7, 1], [1, 4, 7]), ([1, 8], [1, 8]), ([9, 7], [9]), ([10], [10]), ([10], [10]), ([11, 12, 10, 10], [10, 11, 12]), ([10], [10]), ([13, 14, 13, 10], [10, 13, 14]), ([10], [10]), ([10], [10]), ([10], [10]), ([17, 18, 15, 10], [10, 17, 18]), ([16, 19, 19, 10], [10, 16, 19]), ([15, 20, 10], [10, 15, 20]), ([10, 21], [10, 21]), ([22, 20], [22]), ([23], [23]), ([23], [23]), ([23], [23]), ([25, 26, 23, 23], [23, 25, 26]), ([24, 27, 27, 23], [23, 24, 27]), ([23], [23]), ([23], [23]), ([29, 30, 28, 23], [23, 29, 30]), ([23], [23]), ([23], [23]), ([32, 33, 31, 23], [23, 32, 33]), ([31, 34, 34, 23], [23, 31, 34]), ([28, 35, 23], [23, 28, 35]), ([23, 36], [23, 36]), ([37, 35], [37]), ([38], [38]), ([38], [38]), ([39, 40, 38, 38], [38, 39, 40]), ([38], [38]), ([41, 42, 38], [38, 41, 42]), ([38, 43], [38, 43]), ([44, 41, 0, 1, 2, 3, 4, 5, 6, 7, 8, 9, 10, 11, 12, 13, 14, 15, 16, 17, 18, 19, 20, 21, 22, 23, 24, 25, 26, 27, 28, 29, 30, 31, 32, 33, 34, 35, 36, 37, 38, 39, 40, 41, 42, 43, 44], [44])])
def figureheadlaw06_ArithLaws.B3 : List Nat := [0, 1, 3, 3, 15, 3, 3, 127, 255, 511, 1023, 2047, 2047, 8191, 2047, 32767, 2047, 2047, 2047, 458751, 1048575, 2097151, 4194303, 8388607, 16777215, 16777215, 16777215, 117440511, 268435455, 16777215, 16777215, 2147483647, 16777215, 16777215, 17179869183, 34359738367, 68719476735, 137438953471, 274877906943, 549755813887, 549755813887, 2199023255551, 549755813887, 8796093022207, 17592186044415, 35184372088831]
theorem figureheadlaw06_ArithLaws.tab3 : rtab .any (opsOf Tryd.f12 3) = figureheadlaw06_ArithLaws.T3 := by kernel_rfl
theorem figureheadlaw06_ArithLaws.bits3 : waitsOk figureheadlaw06_ArithLaws.T3.2 figureheadlaw06_ArithLaws.B3 = true := by kernel_rfl
set_option maxHeartbeats 8000000 in
set_option maxRecDepth 100000 in
theorem figureheadlaw06_ArithLaws.calls (k : Nat) (a0_0 : Bool) (a0_1 : ByteArray) (a0_2 : Int) (a1_0 : Bool) (a1_1 : ByteArray) (a1_2 : Int) (a2_0 : Bool) (a2_1 : ByteArray) (a2_2 : Int) (r : Bool) (w : World) (hG : Fig.Glob w) (HT : Aside0 (r = true)) (h : figureheadlaw06_ArithLaws.f k a0_0 a0_1 a0_2 a1_0 a1_1 a1_2 a2_0 a2_1 a2_2 = some r) :
    Calls Tryd.prog 12 #[.agg #[.bool a0_0, .string a0_1, .int .i64 a0_2], .agg #[.bool a1_0, .string a1_1, .int .i64 a1_2], .agg #[.bool a2_0, .string a2_1, .int .i64 a2_2]] w fun e w' => e = .returned (.bool r) ∧ Below w.heap.size w w' := by
  have hu23 := Tryd.underlying23
  have HG := Aside0.mk hG
  clear hG
  have HB := Aside0.mk (Below.refl w.heap.size w)
  have H : ((figureheadlaw06_good.f k (([(⟨a0_0, a0_1, a0_2⟩ : S23), (⟨a1_0, a1_1, a1_2⟩ : S23), (⟨a2_0, a2_1, a2_2⟩ : S23)] : List (S23)))).bind fun t535 => (if t535 = true then (if a0_2 < (-300) then (figureheadlaw06_ArithLaws.j0 k true a0_0 a0_1 a0_2 a1_0 a1_1 a1_2 a2_0 a2_1 a2_2) else (if a0_2 > 300 then (figureheadlaw06_ArithLaws.j0 k true a0_0 a0_1 a0_2 a1_0 a1_1 a1_2 a2_0 a2_1 a2_2) else (if a1_2 < (-300) then (figureheadlaw06_ArithLaws.j0 k true a0_0 a0_1 a0_2 a1_0 a1_1 a1_2 a2_0 a2_1 a2_2) else (if a1_2 > 300 then (figureheadlaw06_ArithLaws.j0 k true a0_0 a0_1 a0_2 a1_0 a1_1 a1_2 a2_0 a2_1 a2_2) else (if a2_2 < (-300) then (figureheadlaw06_ArithLaws.j0 k true a0_0 a0_1 a0_2 a1_0 a1_1 a1_2 a2_0 a2_1 a2_2) else (figureheadlaw06_ArithLaws.j0 k (decide (a2_2 > 300)) a0_0 a0_1 a0_2 a1_0 a1_1 a1_2 a2_0 a2_1 a2_2)))))) else (figureheadlaw06_ArithLaws.j0 k true a0_0 a0_1 a0_2 a1_0 a1_1 a1_2 a2_0 a2_1 a2_2))) = some r := h
  clear h
  have HC4 := Aside0.mk H
  clear H
  go_enter Tryd.func12, Tryd.ntmps12
  go_upto_region 1 with (first | ((with_reducible refine gate_dst (N := 3) rfl ?_); refine box_event ?hg (N := 3) ?hd (cs := #[.bool a0_0, .string a0_1, .int .i64 a0_2]) (t := 23) ?hr ?_; (case hd => rfl); (case hg => rfl); (case hr => first | (go_simp; done) | (go_simp; rfl)); intro gb529 hg w5 hbox hb; have n0_ := Aside0.mk (below_step (by repeat (first | (with_reducible first | exact HB.out | apply below_alloc | apply pw_below_drewN | apply below_drew1) | exact HB.out)) hb); have n1_ := Aside0.mk (hbox); have n2_ := Aside0.mk ((by rw [hg]; exact (below_size (by repeat (first | (with_reducible first | exact HB.out | apply below_alloc | apply pw_below_drewN | apply below_drew1) | exact HB.out))) : w.heap.size ≤ gb529)); have n3_ := Aside0.mk ((by rw [hg]; exact (below_size (by repeat (first | (with_reducible first | exact HB.out | apply below_alloc | apply pw_below_drewN | apply below_drew1) | exact HB.out))) : w.heap.size ≤ gb529)); clear HB; have HB := n0_; have BK529 := n1_; have GW529 := n2_; have GE529 := n3_; clear n0_ n1_ n2_ n3_; clear hb hbox hg) | ((with_reducible refine gate_dst (N := 4) rfl ?_); refine box_event ?hg (N := 4) ?hd (cs := #[.bool a1_0, .string a1_1, .int .i64 a1_2]) (t := 23) ?hr ?_; (case hd => rfl); (case hg => rfl); (case hr => first | (go_simp; done) | (go_simp; rfl)); intro gb530 hg w6 hbox hb; have n0_ := Aside0.mk (blk_below (g := gb529) (o := .cells #[.bool a0_0, .string a0_1, .int .i64 a0_2] 23 (0, 0)) (by (with_reducible repeat (first | refine blk_drewN ?_ _ | refine blk_drew ?_ | refine blk_alloc ?_ _)); exact BK529.out) hb); have n1_ := Aside0.mk (below_step (by repeat (first | (with_reducible first | exact HB.out | apply below_alloc | apply pw_below_drewN | apply below_drew1 | refine below_set ?_ GE529.out) | exact HB.out)) hb); have n2_ := Aside0.mk (hbox); have n3_ := Aside0.mk ((by rw [hg]; exact (below_size (by repeat (first | (with_reducible first | exact HB.out | apply below_alloc | apply pw_below_drewN | apply below_drew1 | refine below_set ?_ GE529.out) | exact HB.out))) : w.heap.size ≤ gb530)); have n4_ := Aside0.mk ((by rw [hg]; exact (below_size (by repeat (first | (with_reducible first | exact HB.out | apply below_alloc | apply pw_below_drewN | apply below_drew1 | refine below_set ?_ GE529.out) | exact HB.out))) : w.heap.size ≤ gb530)); have n5_ := Aside0.mk ((by rw [hg]; exact Nat.ne_of_lt (blk_lt (g := gb529) (o := .cells #[.bool a0_0, .string a0_1, .int .i64 a0_2] 23 (0, 0)) (by (with_reducible repeat (first | refine blk_drewN ?_ _ | refine blk_drew ?_ | refine blk_alloc ?_ _)); exact BK529.out)) : gb529 ≠ gb530)); have n6_ := Aside0.mk ((by rw [hg]; exact Nat.ne_of_gt (blk_lt (g := gb529) (o := .cells #[.bool a0_0, .string a0_1, .int .i64 a0_2] 23 (0, 0)) (by (with_reducible repeat (first | refine blk_drewN ?_ _ | refine blk_drew ?_ | refine blk_alloc ?_ _)); exact BK529.out)) : gb530 ≠ gb529)); clear BK529; clear HB; have BK529 := n0_; have HB := n1_; have BK530 := n2_; have GW530 := n3_; have GE530 := n4_; have NB529_530 := n5_; have NB530_529 := n6_; clear n0_ n1_ n2_ n3_ n4_ n5_ n6_; clear hb hbox hg) | ((with_reducible refine gate_dst (N := 5) rfl ?_); refine box_event ?hg (N := 5) ?hd (cs := #[.bool a2_0, .string a2_1, .int .i64 a2_2]) (t := 23) ?hr ?_; (case hd => rfl); (case hg => rfl); (case hr => first | (go_simp; done) | (go_simp; rfl)); intro gb531 hg w7 hbox hb; have n0_ := Aside0.mk (blk_below (g := gb529) (o := .cells #[.bool a0_0, .string a0_1, .int .i64 a0_2] 23 (0, 0)) (by (with_reducible repeat (first | refine blk_drewN ?_ _ | refine blk_drew ?_ | refine blk_alloc ?_ _)); exact BK529.out) hb); have n1_ := Aside0.mk (blk_below (g := gb530) (o := .cells #[.bool a1_0, .string a1_1, .int .i64 a1_2] 23 (0, 0)) (by (with_reducible repeat (first | refine blk_drewN ?_ _ | refine blk_drew ?_ | refine blk_alloc ?_ _)); exact BK530.out) hb); have n2_ := Aside0.mk (below_step (by repeat (first | (with_reducible first | exact HB.out | apply below_alloc | apply pw_below_drewN | apply below_drew1 | refine below_set ?_ GE529.out | refine below_set ?_ GE530.out) | exact HB.out)) hb); have n3_ := Aside0.mk (hbox); have n4_ := Aside0.mk ((by rw [hg]; exact (below_size (by repeat (first | (with_reducible first | exact HB.out | apply below_alloc | apply pw_below_drewN | apply below_drew1 | refine below_set ?_ GE529.out | refine below_set ?_ GE530.out) | exact HB.out))) : w.heap.size ≤ gb531)); have n5_ := Aside0.mk ((by rw [hg]; exact (below_size (by repeat (first | (with_reducible first | exact HB.out | apply below_alloc | apply pw_below_drewN | apply below_drew1 | refine below_set ?_ GE529.out | refine below_set ?_ GE530.out) | exact HB.out))) : w.heap.size ≤ gb531)); have n6_ := Aside0.mk ((by rw [hg]; exact Nat.ne_of_lt (blk_lt (g := gb529) (o := .cells #[.bool a0_0, .string a0_1, .int .i64 a0_2] 23 (0, 0)) (by (with_reducible repeat (first | refine blk_drewN ?_ _ | refine blk_drew ?_ | refine blk_alloc ?_ _)); exact BK529.out)) : gb529 ≠ gb531)); have n7_ := Aside0.mk ((by rw [hg]; exact Nat.ne_of_gt (blk_lt (g := gb529) (o := .cells #[.bool a0_0, .string a0_1, .int .i64 a0_2] 23 (0, 0)) (by (with_reducible repeat (first | refine blk_drewN ?_ _ | refine blk_drew ?_ | refine blk_alloc ?_ _)); exact BK529.out)) : gb531 ≠ gb529)); have n8_ := Aside0.mk ((by rw [hg]; exact Nat.ne_of_lt (blk_lt (g := gb530) (o := .cells #[.bool a1_0, .string a1_1, .int .i64 a1_2] 23 (0, 0)) (by (with_reducible repeat (first | refine blk_drewN ?_ _ | refine blk_drew ?_ | refine blk_alloc ?_ _)); exact BK530.out)) : gb530 ≠ gb531)); have n9_ := Aside0.mk ((by rw [hg]; exact Nat.ne_of_gt (blk_lt (g := gb530) (o := .cells #[.bool a1_0, .string a1_1, .int .i64 a1_2] 23 (0, 0)) (by (with_reducible repeat (first | refine blk_drewN ?_ _ | refine blk_drew ?_ | refine blk_alloc ?_ _)); exact BK530.out)) : gb531 ≠ gb530)); clear BK529; clear BK530; clear HB; have BK529 := n0_; have BK530 := n1_; have HB := n2_; have BK531 := n3_; have GW531 := n4_; have GE531 := n5_; have NB529_531 := n6_; have NB531_529 := n7_; have NB530_531 := n8_; have NB531_530 := n9_; clear n0_ n1_ n2_ n3_ n4_ n5_ n6_ n7_ n8_ n9_; clear hb hbox hg))
  (try simp only [Act.put, List.setIfInBounds_toArray, List.set_cons_zero, List.set_cons_succ])
  go_cut [42] (fun v42 wc => ∃ (kq : Nat) (x42_3 : Bool), v42 = .bool x42_3 ∧ Aside0 (figureheadlaw06_ArithLaws.j0 kq x42_3 a0_0 a0_1 a0_2 a1_0 a1_1 a1_2 a2_0 a2_1 a2_2 = some r) ∧ Aside0 (kq ≤ k) ∧ Aside0 (wc.heap[gb529]? = some (.cells #[.bool a0_0, .string a0_1, .int .i64 a0_2] 23 (0, 0))) ∧ Aside0 (wc.heap[gb530]? = some (.cells #[.bool a1_0, .string a1_1, .int .i64 a1_2] 23 (0, 0))) ∧ Aside0 (wc.heap[gb531]? = some (.cells #[.bool a2_0, .string a2_1, .int .i64 a2_2] 23 (0, 0))) ∧ Aside0 (Below w.heap.size w wc))
  case first =>
    have H := HC4.out
    clear HC4
    obtain ⟨y532, hy532⟩ : ∃ y_ : List (S23), y_ = (([(⟨a0_0, a0_1, a0_2⟩ : S23), (⟨a1_0, a1_1, a1_2⟩ : S23), (⟨a2_0, a2_1, a2_2⟩ : S23)] : List (S23))) := ⟨_, rfl⟩
    replace H : ((figureheadlaw06_good.f k y532).bind fun t535 => (if t535 = true then (if a0_2 < (-300) then (figureheadlaw06_ArithLaws.j0 k true a0_0 a0_1 a0_2 a1_0 a1_1 a1_2 a2_0 a2_1 a2_2) else (if a0_2 > 300 then (figureheadlaw06_ArithLaws.j0 k true a0_0 a0_1 a0_2 a1_0 a1_1 a1_2 a2_0 a2_1 a2_2) else (if a1_2 < (-300) then (figureheadlaw06_ArithLaws.j0 k true a0_0 a0_1 a0_2 a1_0 a1_1 a1_2 a2_0 a2_1 a2_2) else (if a1_2 > 300 then (figureheadlaw06_ArithLaws.j0 k true a0_0 a0_1 a0_2 a1_0 a1_1 a1_2 a2_0 a2_1 a2_2) else (if a2_2 < (-300) then (figureheadlaw06_ArithLaws.j0 k true a0_0 a0_1 a0_2 a1_0 a1_1 a1_2 a2_0 a2_1 a2_2) else (figureheadlaw06_ArithLaws.j0 k (decide (a2_2 > 300)) a0_0 a0_1 a0_2 a1_0 a1_1 a1_2 a2_0 a2_1 a2_2)))))) else (figureheadlaw06_ArithLaws.j0 k true a0_0 a0_1 a0_2 a1_0 a1_1 a1_2 a2_0 a2_1 a2_2))) = some r := by first | (rw [hy532]; with_reducible exact H) | (have H2_ := (Option.bind_some _ _).symm.trans H; rw [hy532]; with_reducible exact H2_) | (have H2_ := (Option.bind_some _ _).symm.trans H; with_reducible exact H2_) | with_reducible exact H | (rw [hy532]; exact H) | exact H
    have Ny532 := Aside0.mk hy532
    clear hy532
    replace H := Option.bind_eq_some_iff.mp H
    obtain ⟨t535, A80, H⟩ := H
    replace H : (if t535 = true then (if a0_2 < (-300) then (figureheadlaw06_ArithLaws.j0 k true a0_0 a0_1 a0_2 a1_0 a1_1 a1_2 a2_0 a2_1 a2_2) else (if a0_2 > 300 then (figureheadlaw06_ArithLaws.j0 k true a0_0 a0_1 a0_2 a1_0 a1_1 a1_2 a2_0 a2_1 a2_2) else (if a1_2 < (-300) then (figureheadlaw06_ArithLaws.j0 k true a0_0 a0_1 a0_2 a1_0 a1_1 a1_2 a2_0 a2_1 a2_2) else (if a1_2 > 300 then (figureheadlaw06_ArithLaws.j0 k true a0_0 a0_1 a0_2 a1_0 a1_1 a1_2 a2_0 a2_1 a2_2) else (if a2_2 < (-300) then (figureheadlaw06_ArithLaws.j0 k true a0_0 a0_1 a0_2 a1_0 a1_1 a1_2 a2_0 a2_1 a2_2) else (figureheadlaw06_ArithLaws.j0 k (decide (a2_2 > 300)) a0_0 a0_1 a0_2 a1_0 a1_1 a1_2 a2_0 a2_1 a2_2)))))) else (figureheadlaw06_ArithLaws.j0 k true a0_0 a0_1 a0_2 a1_0 a1_1 a1_2 a2_0 a2_1 a2_2)) = some r := H
    have A8 := Aside0.mk A80
    clear A80
    by_cases c9 : t535 = true
    · subst c9
      have H1 : (if a0_2 < (-300) then (figureheadlaw06_ArithLaws.j0 k true a0_0 a0_1 a0_2 a1_0 a1_1 a1_2 a2_0 a2_1 a2_2) else (if a0_2 > 300 then (figureheadlaw06_ArithLaws.j0 k true a0_0 a0_1 a0_2 a1_0 a1_1 a1_2 a2_0 a2_1 a2_2) else (if a1_2 < (-300) then (figureheadlaw06_ArithLaws.j0 k true a0_0 a0_1 a0_2 a1_0 a1_1 a1_2 a2_0 a2_1 a2_2) else (if a1_2 > 300 then (figureheadlaw06_ArithLaws.j0 k true a0_0 a0_1 a0_2 a1_0 a1_1 a1_2 a2_0 a2_1 a2_2) else (if a2_2 < (-300) then (figureheadlaw06_ArithLaws.j0 k true a0_0 a0_1 a0_2 a1_0 a1_1 a1_2 a2_0 a2_1 a2_2) else (figureheadlaw06_ArithLaws.j0 k (decide (a2_2 > 300)) a0_0 a0_1 a0_2 a1_0 a1_1 a1_2 a2_0 a2_1 a2_2)))))) = some r := by rw [if_pos rfl] at H; exact H
      clear H
      have H := H1
      clear H1
      by_cases c10 : a0_2 < (-300)
      · rw [if_pos c10] at H
        have c10b0 : decide (a0_2 < (-300)) = true := decide_eq_true c10
        clear c10
        (first | rw [c10b0] | (simp only [i64_w, i32_w]; rw [c10b0]) | skip)
        have H' := Aside0.mk H
        clear H
        have hnb11 := NB529_530.out
        have hnc11 := NB530_529.out
        have hnb12 := NB529_531.out
        have hnc12 := NB531_529.out
        have hcz13_0 : w7.cell? ⟨gb529, 0, none⟩ = some (.bool a0_0) := (blk_cell BK529.out 0).trans rfl
        have hcz13_1 : w7.cell? ⟨gb529, 1, none⟩ = some (.string a0_1) := (blk_cell BK529.out 1).trans rfl
        have hcz13_2 : w7.cell? ⟨gb529, 2, none⟩ = some (.int .i64 a0_2) := (blk_cell BK529.out 2).trans rfl
        have hfz13_0 := blk_frozen BK529.out 0
        have hfz13_1 := blk_frozen BK529.out 1
        have hfz13_2 := blk_frozen BK529.out 2
        have hnb14 := NB530_531.out
        have hnc14 := NB531_530.out
        have hcz15_0 : w7.cell? ⟨gb530, 0, none⟩ = some (.bool a1_0) := (blk_cell BK530.out 0).trans rfl
        have hcz15_1 : w7.cell? ⟨gb530, 1, none⟩ = some (.string a1_1) := (blk_cell BK530.out 1).trans rfl
        have hcz15_2 : w7.cell? ⟨gb530, 2, none⟩ = some (.int .i64 a1_2) := (blk_cell BK530.out 2).trans rfl
        have hfz15_0 := blk_frozen BK530.out 0
        have hfz15_1 := blk_frozen BK530.out 1
        have hfz15_2 := blk_frozen BK530.out 2
        have hcz16_0 : w7.cell? ⟨gb531, 0, none⟩ = some (.bool a2_0) := (blk_cell BK531.out 0).trans rfl
        have hcz16_1 : w7.cell? ⟨gb531, 1, none⟩ = some (.string a2_1) := (blk_cell BK531.out 1).trans rfl
        have hcz16_2 : w7.cell? ⟨gb531, 2, none⟩ = some (.int .i64 a2_2) := (blk_cell BK531.out 2).trans rfl
        have hfz16_0 := blk_frozen BK531.out 0
        have hfz16_1 := blk_frozen BK531.out 1
        have hfz16_2 := blk_frozen BK531.out 2
        go_wp2_with (first | ((with_reducible refine gate_dst (N := 10) rfl ?_); refine Kd.R_lit k23 _ 23 ?hg (N := 10) ?hd (xs := ([(⟨a0_0, a0_1, a0_2⟩ : S23), (⟨a1_0, a1_1, a1_2⟩ : S23), (⟨a2_0, a2_1, a2_2⟩ : S23)] : List (S23))) (inner := [.bool a0_0, .string a0_1, .int .i64 a0_2, .bool a1_0, .string a1_1, .int .i64 a1_2, .bool a2_0, .string a2_1, .int .i64 a2_2]) (ok := fun _ => True) (okp := fun _ => True) ?hr ?hp (fun _ hk => hk) trivial (Below.refl _ _) (Nat.le_refl _) (by simp) ?_; (case hd => rfl); (case hg => rfl); (case hr => first | (go_simp; done) | (go_simp; rfl)); (case hp => exact (Reps.c3 (show Kd.M k23 _ _ _ (⟨a0_0, a0_1, a0_2⟩ : S23) [.bool a0_0, .string a0_1, .int .i64 a0_2] from (k23_mkM _ _ _ (⟨a0_0, a0_1, a0_2⟩ : S23) )) (Reps.c3 (show Kd.M k23 _ _ _ (⟨a1_0, a1_1, a1_2⟩ : S23) [.bool a1_0, .string a1_1, .int .i64 a1_2] from (k23_mkM _ _ _ (⟨a1_0, a1_1, a1_2⟩ : S23) )) (Reps.c3 (show Kd.M k23 _ _ _ (⟨a2_0, a2_1, a2_2⟩ : S23) [.bool a2_0, .string a2_1, .int .i64 a2_2] from (k23_mkM _ _ _ (⟨a2_0, a2_1, a2_2⟩ : S23) )) (Reps.none _ _))))); intro v533 w17 ho18 hb hg_ hnew_; clear hg_ hnew_; (first | rw [← Ny532.out] at ho18 | (simp only [Int.reduceToNat] at ho18; rw [← Ny532.out] at ho18)); have n0_ := Aside0.mk (Kd.R_lower (Kd.R_newB (Kd.R_newB (Kd.R_newB ho18 (g := gb529) (o := .cells #[.bool a0_0, .string a0_1, .int .i64 a0_2] 23 (0, 0)) (by (with_reducible repeat (first | refine blk_drewN ?_ _ | refine blk_drew ?_ | refine blk_alloc ?_ _)); exact BK529.out)) (g := gb530) (o := .cells #[.bool a1_0, .string a1_1, .int .i64 a1_2] 23 (0, 0)) (by (with_reducible repeat (first | refine blk_drewN ?_ _ | refine blk_drew ?_ | refine blk_alloc ?_ _)); exact BK530.out)) (g := gb531) (o := .cells #[.bool a2_0, .string a2_1, .int .i64 a2_2] 23 (0, 0)) (by (with_reducible repeat (first | refine blk_drewN ?_ _ | refine blk_drew ?_ | refine blk_alloc ?_ _)); exact BK531.out)) (below_size (by repeat (first | (with_reducible first | exact HB.out | apply below_alloc | apply pw_below_drewN | apply below_drew1 | refine below_set ?_ GE529.out | refine below_set ?_ GE530.out | refine below_set ?_ GE531.out) | exact HB.out)))); have n1_ := Aside0.mk (blk_below (g := gb529) (o := .cells #[.bool a0_0, .string a0_1, .int .i64 a0_2] 23 (0, 0)) (by (with_reducible repeat (first | refine blk_drewN ?_ _ | refine blk_drew ?_ | refine blk_alloc ?_ _)); exact BK529.out) hb); have n2_ := Aside0.mk (blk_below (g := gb530) (o := .cells #[.bool a1_0, .string a1_1, .int .i64 a1_2] 23 (0, 0)) (by (with_reducible repeat (first | refine blk_drewN ?_ _ | refine blk_drew ?_ | refine blk_alloc ?_ _)); exact BK530.out) hb); have n3_ := Aside0.mk (blk_below (g := gb531) (o := .cells #[.bool a2_0, .string a2_1, .int .i64 a2_2] 23 (0, 0)) (by (with_reducible repeat (first | refine blk_drewN ?_ _ | refine blk_drew ?_ | refine blk_alloc ?_ _)); exact BK531.out) hb); have n4_ := Aside0.mk (below_step (by repeat (first | (with_reducible first | exact HB.out | apply below_alloc | apply pw_below_drewN | apply below_drew1 | refine below_set ?_ GE529.out | refine below_set ?_ GE530.out | refine below_set ?_ GE531.out) | exact HB.out)) hb); clear BK529; clear BK530; clear BK531; clear HB; have HO534 := n0_; have BK529 := n1_; have BK530 := n2_; have BK531 := n3_; have HB := n4_; clear n0_ n1_ n2_ n3_ n4_; clear hb ho18; obtain ⟨Ao19, co19, eo19⟩ := Kd.R_slice HO534.out; subst eo19) | ((with_reducible refine gate_callee (f := 32) rfl ?_); refine goesL_ (some 11) rfl rfl Tryd.func32 (by kernel_rfl) rfl #[.slice Ao19 y532.length co19] rfl (by (try simp only [List.map_toArray]); (try simp only [List.map_cons]); (try simp only [List.map_nil]); first | done | rfl | (simp only [List.length_drop, List.length_take]; rfl)) ?_; (with_reducible refine (figureheadlaw06_good.calls k _ _ y532 true _ ?side1 ?side2 A8.out).mono ?_); (case side1 => repeat (first | exact (Kd.R_reads' HO534.out).2.2 | (with_reducible refine Kd.C_alloc ?_ _) | (with_reducible refine Kd.C_drewN ?_ _) | (with_reducible refine Kd.C_drew ?_))); (case side2 => exact (Kd.R_reads' HO534.out).2.1); rintro e w20 ⟨rfl, hb⟩; refine ⟨_, rfl, ?_⟩; have n0_ := Aside0.mk (Kd.R_below (by (with_reducible repeat (first | apply Kd.R_alloc | apply Kd.R_drewN | apply Kd.R_drew)); exact HO534.out) hb); have n1_ := Aside0.mk (blk_below (g := gb529) (o := .cells #[.bool a0_0, .string a0_1, .int .i64 a0_2] 23 (0, 0)) (by (with_reducible repeat (first | refine blk_drewN ?_ _ | refine blk_drew ?_ | refine blk_alloc ?_ _)); exact BK529.out) hb); have n2_ := Aside0.mk (blk_below (g := gb530) (o := .cells #[.bool a1_0, .string a1_1, .int .i64 a1_2] 23 (0, 0)) (by (with_reducible repeat (first | refine blk_drewN ?_ _ | refine blk_drew ?_ | refine blk_alloc ?_ _)); exact BK530.out) hb); have n3_ := Aside0.mk (blk_below (g := gb531) (o := .cells #[.bool a2_0, .string a2_1, .int .i64 a2_2] 23 (0, 0)) (by (with_reducible repeat (first | refine blk_drewN ?_ _ | refine blk_drew ?_ | refine blk_alloc ?_ _)); exact BK531.out) hb); have n4_ := Aside0.mk (below_step (by repeat (first | (with_reducible first | exact HB.out | apply below_alloc | apply pw_below_drewN | apply below_drew1 | refine below_set ?_ GE529.out | refine below_set ?_ GE530.out | refine below_set ?_ GE531.out) | exact HB.out)) hb); clear HO534; clear BK529; clear BK530; clear BK531; clear HB; have HO534 := n0_; have BK529 := n1_; have BK530 := n2_; have BK531 := n3_; have HB := n4_; clear n0_ n1_ n2_ n3_ n4_; (try clear hb); (try clear hb2); (try clear hk); (try clear hi); have hcz21_0 : w20.cell? ⟨gb529, 0, none⟩ = some (.bool a0_0) := (blk_cell BK529.out 0).trans rfl; have hcz21_1 : w20.cell? ⟨gb529, 1, none⟩ = some (.string a0_1) := (blk_cell BK529.out 1).trans rfl; have hcz21_2 : w20.cell? ⟨gb529, 2, none⟩ = some (.int .i64 a0_2) := (blk_cell BK529.out 2).trans rfl; have hfz21_0 := blk_frozen BK529.out 0; have hfz21_1 := blk_frozen BK529.out 1; have hfz21_2 := blk_frozen BK529.out 2))
        go_meet
        case rel => exact ⟨_, (true), (by first | rfl | (simp; done) | (simp [*]; done) | (simp [*, Fig.bne_nil]; done)), H', ⟨by first | omega | exact Nat.le_refl _⟩, ⟨by (with_reducible repeat (first | refine blk_drewN ?_ _ | refine blk_drew ?_ | refine blk_alloc ?_ _)); exact BK529.out⟩, ⟨by (with_reducible repeat (first | refine blk_drewN ?_ _ | refine blk_drew ?_ | refine blk_alloc ?_ _)); exact BK530.out⟩, ⟨by (with_reducible repeat (first | refine blk_drewN ?_ _ | refine blk_drew ?_ | refine blk_alloc ?_ _)); exact BK531.out⟩, ⟨by repeat (first | (with_reducible first | exact HB.out | apply below_alloc | apply pw_below_drewN | apply below_drew1 | refine below_set ?_ GE529.out | refine below_set ?_ GE530.out | refine below_set ?_ GE531.out) | exact HB.out)⟩⟩
      · rw [if_neg c10] at H
        have c10b0 : decide (a0_2 < (-300)) = false := decide_eq_false c10
        clear c10
        (first | rw [c10b0] | (simp only [i64_w, i32_w]; rw [c10b0]) | skip)
        by_cases c22 : a0_2 > 300
        · rw [if_pos c22] at H
          have c22b0 : decide (300 < a0_2) = true := decide_eq_true c22
          clear c22
          have H' := Aside0.mk H
          clear H
          have hnb23 := NB529_530.out
          have hnc23 := NB530_529.out
          have hnb24 := NB529_531.out
          have hnc24 := NB531_529.out
          have hcz25_0 : w7.cell? ⟨gb529, 0, none⟩ = some (.bool a0_0) := (blk_cell BK529.out 0).trans rfl
          have hcz25_1 : w7.cell? ⟨gb529, 1, none⟩ = some (.string a0_1) := (blk_cell BK529.out 1).trans rfl
          have hcz25_2 : w7.cell? ⟨gb529, 2, none⟩ = some (.int .i64 a0_2) := (blk_cell BK529.out 2).trans rfl
          have hfz25_0 := blk_frozen BK529.out 0
          have hfz25_1 := blk_frozen BK529.out 1
          have hfz25_2 := blk_frozen BK529.out 2
          have hnb26 := NB530_531.out
          have hnc26 := NB531_530.out
          have hcz27_0 : w7.cell? ⟨gb530, 0, none⟩ = some (.bool a1_0) := (blk_cell BK530.out 0).trans rfl
          have hcz27_1 : w7.cell? ⟨gb530, 1, none⟩ = some (.string a1_1) := (blk_cell BK530.out 1).trans rfl
          have hcz27_2 : w7.cell? ⟨gb530, 2, none⟩ = some (.int .i64 a1_2) := (blk_cell BK530.out 2).trans rfl
          have hfz27_0 := blk_frozen BK530.out 0
          have hfz27_1 := blk_frozen BK530.out 1
          have hfz27_2 := blk_frozen BK530.out 2
          have hcz28_0 : w7.cell? ⟨gb531, 0, none⟩ = some (.bool a2_0) := (blk_cell BK531.out 0).trans rfl
          have hcz28_1 : w7.cell? ⟨gb531, 1, none⟩ = some (.string a2_1) := (blk_cell BK531.out 1).trans rfl
          have hcz28_2 : w7.cell? ⟨gb531, 2, none⟩ = some (.int .i64 a2_2) := (blk_cell BK531.out 2).trans rfl
          have hfz28_0 := blk_frozen BK531.out 0
          have hfz28_1 := blk_frozen BK531.out 1
          have hfz28_2 := blk_frozen BK531.out 2
          go_wp2_with (first | ((with_reducible refine gate_dst (N := 10) rfl ?_); refine Kd.R_lit k23 _ 23 ?hg (N := 10) ?hd (xs := ([(⟨a0_0, a0_1, a0_2⟩ : S23), (⟨a1_0, a1_1, a1_2⟩ : S23), (⟨a2_0, a2_1, a2_2⟩ : S23)] : List (S23))) (inner := [.bool a0_0, .string a0_1, .int .i64 a0_2, .bool a1_0, .string a1_1, .int .i64 a1_2, .bool a2_0, .string a2_1, .int .i64 a2_2]) (ok := fun _ => True) (okp := fun _ => True) ?hr ?hp (fun _ hk => hk) trivial (Below.refl _ _) (Nat.le_refl _) (by simp) ?_; (case hd => rfl); (case hg => rfl); (case hr => first | (go_simp; done) | (go_simp; rfl)); (case hp => exact (Reps.c3 (show Kd.M k23 _ _ _ (⟨a0_0, a0_1, a0_2⟩ : S23) [.bool a0_0, .string a0_1, .int .i64 a0_2] from (k23_mkM _ _ _ (⟨a0_0, a0_1, a0_2⟩ : S23) )) (Reps.c3 (show Kd.M k23 _ _ _ (⟨a1_0, a1_1, a1_2⟩ : S23) [.bool a1_0, .string a1_1, .int .i64 a1_2] from (k23_mkM _ _ _ (⟨a1_0, a1_1, a1_2⟩ : S23) )) (Reps.c3 (show Kd.M k23 _ _ _ (⟨a2_0, a2_1, a2_2⟩ : S23) [.bool a2_0, .string a2_1, .int .i64 a2_2] from (k23_mkM _ _ _ (⟨a2_0, a2_1, a2_2⟩ : S23) )) (Reps.none _ _))))); intro v533 w29 ho30 hb hg_ hnew_; clear hg_ hnew_; (first | rw [← Ny532.out] at ho30 | (simp only [Int.reduceToNat] at ho30; rw [← Ny532.out] at ho30)); have n0_ := Aside0.mk (Kd.R_lower (Kd.R_newB (Kd.R_newB (Kd.R_newB ho30 (g := gb529) (o := .cells #[.bool a0_0, .string a0_1, .int .i64 a0_2] 23 (0, 0)) (by (with_reducible repeat (first | refine blk_drewN ?_ _ | refine blk_drew ?_ | refine blk_alloc ?_ _)); exact BK529.out)) (g := gb530) (o := .cells #[.bool a1_0, .string a1_1, .int .i64 a1_2] 23 (0, 0)) (by (with_reducible repeat (first | refine blk_drewN ?_ _ | refine blk_drew ?_ | refine blk_alloc ?_ _)); exact BK530.out)) (g := gb531) (o := .cells #[.bool a2_0, .string a2_1, .int .i64 a2_2] 23 (0, 0)) (by (with_reducible repeat (first | refine blk_drewN ?_ _ | refine blk_drew ?_ | refine blk_alloc ?_ _)); exact BK531.out)) (below_size (by repeat (first | (with_reducible first | exact HB.out | apply below_alloc | apply pw_below_drewN | apply below_drew1 | refine below_set ?_ GE529.out | refine below_set ?_ GE530.out | refine below_set ?_ GE531.out) | exact HB.out)))); have n1_ := Aside0.mk (blk_below (g := gb529) (o := .cells #[.bool a0_0, .string a0_1, .int .i64 a0_2] 23 (0, 0)) (by (with_reducible repeat (first | refine blk_drewN ?_ _ | refine blk_drew ?_ | refine blk_alloc ?_ _)); exact BK529.out) hb); have n2_ := Aside0.mk (blk_below (g := gb530) (o := .cells #[.bool a1_0, .string a1_1, .int .i64 a1_2] 23 (0, 0)) (by (with_reducible repeat (first | refine blk_drewN ?_ _ | refine blk_drew ?_ | refine blk_alloc ?_ _)); exact BK530.out) hb); have n3_ := Aside0.mk (blk_below (g := gb531) (o := .cells #[.bool a2_0, .string a2_1, .int .i64 a2_2] 23 (0, 0)) (by (with_reducible repeat (first | refine blk_drewN ?_ _ | refine blk_drew ?_ | refine blk_alloc ?_ _)); exact BK531.out) hb); have n4_ := Aside0.mk (below_step (by repeat (first | (with_reducible first | exact HB.out | apply below_alloc | apply pw_below_drewN | apply below_drew1 | refine below_set ?_ GE529.out | refine below_set ?_ GE530.out | refine below_set ?_ GE531.out) | exact HB.out)) hb); clear BK529; clear BK530; clear BK531; clear HB; have HO534 := n0_; have BK529 := n1_; have BK530 := n2_; have BK531 := n3_; have HB := n4_; clear n0_ n1_ n2_ n3_ n4_; clear hb ho30; obtain ⟨Ao31, co31, eo31⟩ := Kd.R_slice HO534.out; subst eo31) | ((with_reducible refine gate_callee (f := 32) rfl ?_); refine goesL_ (some 11) rfl rfl Tryd.func32 (by kernel_rfl) rfl #[.slice Ao31 y532.length co31] rfl (by (try simp only [List.map_toArray]); (try simp only [List.map_cons]); (try simp only [List.map_nil]); first | done | rfl | (simp only [List.length_drop, List.length_take]; rfl)) ?_; (with_reducible refine (figureheadlaw06_good.calls k _ _ y532 true _ ?side1 ?side2 A8.out).mono ?_); (case side1 => repeat (first | exact (Kd.R_reads' HO534.out).2.2 | (with_reducible refine Kd.C_alloc ?_ _) | (with_reducible refine Kd.C_drewN ?_ _) | (with_reducible refine Kd.C_drew ?_))); (case side2 => exact (Kd.R_reads' HO534.out).2.1); rintro e w32 ⟨rfl, hb⟩; refine ⟨_, rfl, ?_⟩; have n0_ := Aside0.mk (Kd.R_below (by (with_reducible repeat (first | apply Kd.R_alloc | apply Kd.R_drewN | apply Kd.R_drew)); exact HO534.out) hb); have n1_ := Aside0.mk (blk_below (g := gb529) (o := .cells #[.bool a0_0, .string a0_1, .int .i64 a0_2] 23 (0, 0)) (by (with_reducible repeat (first | refine blk_drewN ?_ _ | refine blk_drew ?_ | refine blk_alloc ?_ _)); exact BK529.out) hb); have n2_ := Aside0.mk (blk_below (g := gb530) (o := .cells #[.bool a1_0, .string a1_1, .int .i64 a1_2] 23 (0, 0)) (by (with_reducible repeat (first | refine blk_drewN ?_ _ | refine blk_drew ?_ | refine blk_alloc ?_ _)); exact BK530.out) hb); have n3_ := Aside0.mk (blk_below (g := gb531) (o := .cells #[.bool a2_0, .string a2_1, .int .i64 a2_2] 23 (0, 0)) (by (with_reducible repeat (first | refine blk_drewN ?_ _ | refine blk_drew ?_ | refine blk_alloc ?_ _)); exact BK531.out) hb); have n4_ := Aside0.mk (below_step (by repeat (first | (with_reducible first | exact HB.out | apply below_alloc | apply pw_below_drewN | apply below_drew1 | refine below_set ?_ GE529.out | refine below_set ?_ GE530.out | refine below_set ?_ GE531.out) | exact HB.out)) hb); clear HO534; clear BK529; clear BK530; clear BK531; clear HB; have HO534 := n0_; have BK529 := n1_; have BK530 := n2_; have BK531 := n3_; have HB := n4_; clear n0_ n1_ n2_ n3_ n4_; (try clear hb); (try clear hb2); (try clear hk); (try clear hi); have hcz33_0 : w32.cell? ⟨gb529, 0, none⟩ = some (.bool a0_0) := (blk_cell BK529.out 0).trans rfl; have hcz33_1 : w32.cell? ⟨gb529, 1, none⟩ = some (.string a0_1) := (blk_cell BK529.out 1).trans rfl; have hcz33_2 : w32.cell? ⟨gb529, 2, none⟩ = some (.int .i64 a0_2) := (blk_cell BK529.out 2).trans rfl; have hfz33_0 := blk_frozen BK529.out 0; have hfz33_1 := blk_frozen BK529.out 1; have hfz33_2 := blk_frozen BK529.out 2))
          go_meet
          case rel => exact ⟨_, (true), (by first | rfl | (simp; done) | (simp [*]; done) | (simp [*, Fig.bne_nil]; done)), H', ⟨by first | omega | exact Nat.le_refl _⟩, ⟨by (with_reducible repeat (first | refine blk_drewN ?_ _ | refine blk_drew ?_ | refine blk_alloc ?_ _)); exact BK529.out⟩, ⟨by (with_reducible repeat (first | refine blk_drewN ?_ _ | refine blk_drew ?_ | refine blk_alloc ?_ _)); exact BK530.out⟩, ⟨by (with_reducible repeat (first | refine blk_drewN ?_ _ | refine blk_drew ?_ | refine blk_alloc ?_ _)); exact BK531.out⟩, ⟨by repeat (first | (with_reducible first | exact HB.out | apply below_alloc | apply pw_below_drewN | apply below_drew1 | refine below_set ?_ GE529.out | refine below_set ?_ GE530.out | refine below_set ?_ GE531.out) | exact HB.out)⟩⟩
        · rw [if_neg c22] at H
          have c22b0 : decide (300 < a0_2) = false := decide_eq_false c22
          clear c22
          by_cases c34 : a1_2 < (-300)
          · rw [if_pos c34] at H
            have c34b0 : decide (a1_2 < (-300)) = true := decide_eq_true c34
            clear c34
            have H' := Aside0.mk H
            clear H
            have hnb35 := NB529_530.out
            have hnc35 := NB530_529.out
            have hnb36 := NB529_531.out
            have hnc36 := NB531_529.out
            have hcz37_0 : w7.cell? ⟨gb529, 0, none⟩ = some (.bool a0_0) := (blk_cell BK529.out 0).trans rfl
            have hcz37_1 : w7.cell? ⟨gb529, 1, none⟩ = some (.string a0_1) := (blk_cell BK529.out 1).trans rfl
            have hcz37_2 : w7.cell? ⟨gb529, 2, none⟩ = some (.int .i64 a0_2) := (blk_cell BK529.out 2).trans rfl
            have hfz37_0 := blk_frozen BK529.out 0
            have hfz37_1 := blk_frozen BK529.out 1
            have hfz37_2 := blk_frozen BK529.out 2
            have hnb38 := NB530_531.out
            have hnc38 := NB531_530.out
            have hcz39_0 : w7.cell? ⟨gb530, 0, none⟩ = some (.bool a1_0) := (blk_cell BK530.out 0).trans rfl
            have hcz39_1 : w7.cell? ⟨gb530, 1, none⟩ = some (.string a1_1) := (blk_cell BK530.out 1).trans rfl
            have hcz39_2 : w7.cell? ⟨gb530, 2, none⟩ = some (.int .i64 a1_2) := (blk_cell BK530.out 2).trans rfl
            have hfz39_0 := blk_frozen BK530.out 0
            have hfz39_1 := blk_frozen BK530.out 1
            have hfz39_2 := blk_frozen BK530.out 2
            have hcz40_0 : w7.cell? ⟨gb531, 0, none⟩ = some (.bool a2_0) := (blk_cell BK531.out 0).trans rfl
            have hcz40_1 : w7.cell? ⟨gb531, 1, none⟩ = some (.string a2_1) := (blk_cell BK531.out 1).trans rfl
            have hcz40_2 : w7.cell? ⟨gb531, 2, none⟩ = some (.int .i64 a2_2) := (blk_cell BK531.out 2).trans rfl
            have hfz40_0 := blk_frozen BK531.out 0
            have hfz40_1 := blk_frozen BK531.out 1
            have hfz40_2 := blk_frozen BK531.out 2
            go_wp2_with (first | ((with_reducible refine gate_dst (N := 10) rfl ?_); refine Kd.R_lit k23 _ 23 ?hg (N := 10) ?hd (xs := ([(⟨a0_0, a0_1, a0_2⟩ : S23), (⟨a1_0, a1_1, a1_2⟩ : S23), (⟨a2_0, a2_1, a2_2⟩ : S23)] : List (S23))) (inner := [.bool a0_0, .string a0_1, .int .i64 a0_2, .bool a1_0, .string a1_1, .int .i64 a1_2, .bool a2_0, .string a2_1, .int .i64 a2_2]) (ok := fun _ => True) (okp := fun _ => True) ?hr ?hp (fun _ hk => hk) trivial (Below.refl _ _) (Nat.le_refl _) (by simp) ?_; (case hd => rfl); (case hg => rfl); (case hr => first | (go_simp; done) | (go_simp; rfl)); (case hp => exact (Reps.c3 (show Kd.M k23 _ _ _ (⟨a0_0, a0_1, a0_2⟩ : S23) [.bool a0_0, .string a0_1, .int .i64 a0_2] from (k23_mkM _ _ _ (⟨a0_0, a0_1, a0_2⟩ : S23) )) (Reps.c3 (show Kd.M k23 _ _ _ (⟨a1_0, a1_1, a1_2⟩ : S23) [.bool a1_0, .string a1_1, .int .i64 a1_2] from (k23_mkM _ _ _ (⟨a1_0, a1_1, a1_2⟩ : S23) )) (Reps.c3 (show Kd.M k23 _ _ _ (⟨a2_0, a2_1, a2_2⟩ : S23) [.bool a2_0, .string a2_1, .int .i64 a2_2] from (k23_mkM _ _ _ (⟨a2_0, a2_1, a2_2⟩ : S23) )) (Reps.none _ _))))); intro v533 w41 ho42 hb hg_ hnew_; clear hg_ hnew_; (first | rw [← Ny532.out] at ho42 | (simp only [Int.reduceToNat] at ho42; rw [← Ny532.out] at ho42)); have n0_ := Aside0.mk (Kd.R_lower (Kd.R_newB (Kd.R_newB (Kd.R_newB ho42 (g := gb529) (o := .cells #[.bool a0_0, .string a0_1, .int .i64 a0_2] 23 (0, 0)) (by (with_reducible repeat (first | refine blk_drewN ?_ _ | refine blk_drew ?_ | refine blk_alloc ?_ _)); exact BK529.out)) (g := gb530) (o := .cells #[.bool a1_0, .string a1_1, .int .i64 a1_2] 23 (0, 0)) (by (with_reducible repeat (first | refine blk_drewN ?_ _ | refine blk_drew ?_ | refine blk_alloc ?_ _)); exact BK530.out)) (g := gb531) (o := .cells #[.bool a2_0, .string a2_1, .int .i64 a2_2] 23 (0, 0)) (by (with_reducible repeat (first | refine blk_drewN ?_ _ | refine blk_drew ?_ | refine blk_alloc ?_ _)); exact BK531.out)) (below_size (by repeat (first | (with_reducible first | exact HB.out | apply below_alloc | apply pw_below_drewN | apply below_drew1 | refine below_set ?_ GE529.out | refine below_set ?_ GE530.out | refine below_set ?_ GE531.out) | exact HB.out)))); have n1_ := Aside0.mk (blk_below (g := gb529) (o := .cells #[.bool a0_0, .string a0_1, .int .i64 a0_2] 23 (0, 0)) (by (with_reducible repeat (first | refine blk_drewN ?_ _ | refine blk_drew ?_ | refine blk_alloc ?_ _)); exact BK529.out) hb); have n2_ := Aside0.mk (blk_below (g := gb530) (o := .cells #[.bool a1_0, .string a1_1, .int .i64 a1_2] 23 (0, 0)) (by (with_reducible repeat (first | refine blk_drewN ?_ _ | refine blk_drew ?_ | refine blk_alloc ?_ _)); exact BK530.out) hb); have n3_ := Aside0.mk (blk_below (g := gb531) (o := .cells #[.bool a2_0, .string a2_1, .int .i64 a2_2] 23 (0, 0)) (by (with_reducible repeat (first | refine blk_drewN ?_ _ | refine blk_drew ?_ | refine blk_alloc ?_ _)); exact BK531.out) hb); have n4_ := Aside0.mk (below_step (by repeat (first | (with_reducible first | exact HB.out | apply below_alloc | apply pw_below_drewN | apply below_drew1 | refine below_set ?_ GE529.out | refine below_set ?_ GE530.out | refine below_set ?_ GE531.out) | exact HB.out)) hb); clear BK529; clear BK530; clear BK531; clear HB; have HO534 := n0_; have BK529 := n1_; have BK530 := n2_; have BK531 := n3_; have HB := n4_; clear n0_ n1_ n2_ n3_ n4_; clear hb ho42; obtain ⟨Ao43, co43, eo43⟩ := Kd.R_slice HO534.out; subst eo43) | ((with_reducible refine gate_callee (f := 32) rfl ?_); refine goesL_ (some 11) rfl rfl Tryd.func32 (by kernel_rfl) rfl #[.slice Ao43 y532.length co43] rfl (by (try simp only [List.map_toArray]); (try simp only [List.map_cons]); (try simp only [List.map_nil]); first | done | rfl | (simp only [List.length_drop, List.length_take]; rfl)) ?_; (with_reducible refine (figureheadlaw06_good.calls k _ _ y532 true _ ?side1 ?side2 A8.out).mono ?_); (case side1 => repeat (first | exact (Kd.R_reads' HO534.out).2.2 | (with_reducible refine Kd.C_alloc ?_ _) | (with_reducible refine Kd.C_drewN ?_ _) | (with_reducible refine Kd.C_drew ?_))); (case side2 => exact (Kd.R_reads' HO534.out).2.1); rintro e w44 ⟨rfl, hb⟩; refine ⟨_, rfl, ?_⟩; have n0_ := Aside0.mk (Kd.R_below (by (with_reducible repeat (first | apply Kd.R_alloc | apply Kd.R_drewN | apply Kd.R_drew)); exact HO534.out) hb); have n1_ := Aside0.mk (blk_below (g := gb529) (o := .cells #[.bool a0_0, .string a0_1, .int .i64 a0_2] 23 (0, 0)) (by (with_reducible repeat (first | refine blk_drewN ?_ _ | refine blk_drew ?_ | refine blk_alloc ?_ _)); exact BK529.out) hb); have n2_ := Aside0.mk (blk_below (g := gb530) (o := .cells #[.bool a1_0, .string a1_1, .int .i64 a1_2] 23 (0, 0)) (by (with_reducible repeat (first | refine blk_drewN ?_ _ | refine blk_drew ?_ | refine blk_alloc ?_ _)); exact BK530.out) hb); have n3_ := Aside0.mk (blk_below (g := gb531) (o := .cells #[.bool a2_0, .string a2_1, .int .i64 a2_2] 23 (0, 0)) (by (with_reducible repeat (first | refine blk_drewN ?_ _ | refine blk_drew ?_ | refine blk_alloc ?_ _)); exact BK531.out) hb); have n4_ := Aside0.mk (below_step (by repeat (first | (with_reducible first | exact HB.out | apply below_alloc | apply pw_below_drewN | apply below_drew1 | refine below_set ?_ GE529.out | refine below_set ?_ GE530.out | refine below_set ?_ GE531.out) | exact HB.out)) hb); clear HO534; clear BK529; clear BK530; clear BK531; clear HB; have HO534 := n0_; have BK529 := n1_; have BK530 := n2_; have BK531 := n3_; have HB := n4_; clear n0_ n1_ n2_ n3_ n4_; (try clear hb); (try clear hb2); (try clear hk); (try clear hi); have hcz45_0 : w44.cell? ⟨gb529, 0, none⟩ = some (.bool a0_0) := (blk_cell BK529.out 0).trans rfl; have hcz45_1 : w44.cell? ⟨gb529, 1, none⟩ = some (.string a0_1) := (blk_cell BK529.out 1).trans rfl; have hcz45_2 : w44.cell? ⟨gb529, 2, none⟩ = some (.int .i64 a0_2) := (blk_cell BK529.out 2).trans rfl; have hfz45_0 := blk_frozen BK529.out 0; have hfz45_1 := blk_frozen BK529.out 1; have hfz45_2 := blk_frozen BK529.out 2; have hcz46_0 : w44.cell? ⟨gb530, 0, none⟩ = some (.bool a1_0) := (blk_cell BK530.out 0).trans rfl; have hcz46_1 : w44.cell? ⟨gb530, 1, none⟩ = some (.string a1_1) := (blk_cell BK530.out 1).trans rfl; have hcz46_2 : w44.cell? ⟨gb530, 2, none⟩ = some (.int .i64 a1_2) := (blk_cell BK530.out 2).trans rfl; have hfz46_0 := blk_frozen BK530.out 0; have hfz46_1 := blk_frozen BK530.out 1; have hfz46_2 := blk_frozen BK530.out 2))
            go_meet
            case rel => exact ⟨_, (true), (by first | rfl | (simp; done) | (simp [*]; done) | (simp [*, Fig.bne_nil]; done)), H', ⟨by first | omega | exact Nat.le_refl _⟩, ⟨by (with_reducible repeat (first | refine blk_drewN ?_ _ | refine blk_drew ?_ | refine blk_alloc ?_ _)); exact BK529.out⟩, ⟨by (with_reducible repeat (first | refine blk_drewN ?_ _ | refine blk_drew ?_ | refine blk_alloc ?_ _)); exact BK530.out⟩, ⟨by (with_reducible repeat (first | refine blk_drewN ?_ _ | refine blk_drew ?_ | refine blk_alloc ?_ _)); exact BK531.out⟩, ⟨by repeat (first | (with_reducible first | exact HB.out | apply below_alloc | apply pw_below_drewN | apply below_drew1 | refine below_set ?_ GE529.out | refine below_set ?_ GE530.out | refine below_set ?_ GE531.out) | exact HB.out)⟩⟩
          · rw [if_neg c34] at H
            have c34b0 : decide (a1_2 < (-300)) = false := decide_eq_false c34
            clear c34
            by_cases c47 : a1_2 > 300
            · rw [if_pos c47] at H
              have c47b0 : decide (300 < a1_2) = true := decide_eq_true c47
              clear c47
              have H' := Aside0.mk H
              clear H
              have hnb48 := NB529_530.out
              have hnc48 := NB530_529.out
              have hnb49 := NB529_531.out
              have hnc49 := NB531_529.out
              have hcz50_0 : w7.cell? ⟨gb529, 0, none⟩ = some (.bool a0_0) := (blk_cell BK529.out 0).trans rfl
              have hcz50_1 : w7.cell? ⟨gb529, 1, none⟩ = some (.string a0_1) := (blk_cell BK529.out 1).trans rfl
              have hcz50_2 : w7.cell? ⟨gb529, 2, none⟩ = some (.int .i64 a0_2) := (blk_cell BK529.out 2).trans rfl
              have hfz50_0 := blk_frozen BK529.out 0
              have hfz50_1 := blk_frozen BK529.out 1
              have hfz50_2 := blk_frozen BK529.out 2
              have hnb51 := NB530_531.out
              have hnc51 := NB531_530.out
              have hcz52_0 : w7.cell? ⟨gb530, 0, none⟩ = some (.bool a1_0) := (blk_cell BK530.out 0).trans rfl
              have hcz52_1 : w7.cell? ⟨gb530, 1, none⟩ = some (.string a1_1) := (blk_cell BK530.out 1).trans rfl
              have hcz52_2 : w7.cell? ⟨gb530, 2, none⟩ = some (.int .i64 a1_2) := (blk_cell BK530.out 2).trans rfl
              have hfz52_0 := blk_frozen BK530.out 0
              have hfz52_1 := blk_frozen BK530.out 1
              have hfz52_2 := blk_frozen BK530.out 2
              have hcz53_0 : w7.cell? ⟨gb531, 0, none⟩ = some (.bool a2_0) := (blk_cell BK531.out 0).trans rfl
              have hcz53_1 : w7.cell? ⟨gb531, 1, none⟩ = some (.string a2_1) := (blk_cell BK531.out 1).trans rfl
              have hcz53_2 : w7.cell? ⟨gb531, 2, none⟩ = some (.int .i64 a2_2) := (blk_cell BK531.out 2).trans rfl
              have hfz53_0 := blk_frozen BK531.out 0
              have hfz53_1 := blk_frozen BK531.out 1
              have hfz53_2 := blk_frozen BK531.out 2
              go_wp2_with (first | ((with_reducible refine gate_dst (N := 10) rfl ?_); refine Kd.R_lit k23 _ 23 ?hg (N := 10) ?hd (xs := ([(⟨a0_0, a0_1, a0_2⟩ : S23), (⟨a1_0, a1_1, a1_2⟩ : S23), (⟨a2_0, a2_1, a2_2⟩ : S23)] : List (S23))) (inner := [.bool a0_0, .string a0_1, .int .i64 a0_2, .bool a1_0, .string a1_1, .int .i64 a1_2, .bool a2_0, .string a2_1, .int .i64 a2_2]) (ok := fun _ => True) (okp := fun _ => True) ?hr ?hp (fun _ hk => hk) trivial (Below.refl _ _) (Nat.le_refl _) (by simp) ?_; (case hd => rfl); (case hg => rfl); (case hr => first | (go_simp; done) | (go_simp; rfl)); (case hp => exact (Reps.c3 (show Kd.M k23 _ _ _ (⟨a0_0, a0_1, a0_2⟩ : S23) [.bool a0_0, .string a0_1, .int .i64 a0_2] from (k23_mkM _ _ _ (⟨a0_0, a0_1, a0_2⟩ : S23) )) (Reps.c3 (show Kd.M k23 _ _ _ (⟨a1_0, a1_1, a1_2⟩ : S23) [.bool a1_0, .string a1_1, .int .i64 a1_2] from (k23_mkM _ _ _ (⟨a1_0, a1_1, a1_2⟩ : S23) )) (Reps.c3 (show Kd.M k23 _ _ _ (⟨a2_0, a2_1, a2_2⟩ : S23) [.bool a2_0, .string a2_1, .int .i64 a2_2] from (k23_mkM _ _ _ (⟨a2_0, a2_1, a2_2⟩ : S23) )) (Reps.none _ _))))); intro v533 w54 ho55 hb hg_ hnew_; clear hg_ hnew_; (first | rw [← Ny532.out] at ho55 | (simp only [Int.reduceToNat] at ho55; rw [← Ny532.out] at ho55)); have n0_ := Aside0.mk (Kd.R_lower (Kd.R_newB (Kd.R_newB (Kd.R_newB ho55 (g := gb529) (o := .cells #[.bool a0_0, .string a0_1, .int .i64 a0_2] 23 (0, 0)) (by (with_reducible repeat (first | refine blk_drewN ?_ _ | refine blk_drew ?_ | refine blk_alloc ?_ _)); exact BK529.out)) (g := gb530) (o := .cells #[.bool a1_0, .string a1_1, .int .i64 a1_2] 23 (0, 0)) (by (with_reducible repeat (first | refine blk_drewN ?_ _ | refine blk_drew ?_ | refine blk_alloc ?_ _)); exact BK530.out)) (g := gb531) (o := .cells #[.bool a2_0, .string a2_1, .int .i64 a2_2] 23 (0, 0)) (by (with_reducible repeat (first | refine blk_drewN ?_ _ | refine blk_drew ?_ | refine blk_alloc ?_ _)); exact BK531.out)) (below_size (by repeat (first | (with_reducible first | exact HB.out | apply below_alloc | apply pw_below_drewN | apply below_drew1 | refine below_set ?_ GE529.out | refine below_set ?_ GE530.out | refine below_set ?_ GE531.out) | exact HB.out)))); have n1_ := Aside0.mk (blk_below (g := gb529) (o := .cells #[.bool a0_0, .string a0_1, .int .i64 a0_2] 23 (0, 0)) (by (with_reducible repeat (first | refine blk_drewN ?_ _ | refine blk_drew ?_ | refine blk_alloc ?_ _)); exact BK529.out) hb); have n2_ := Aside0.mk (blk_below (g := gb530) (o := .cells #[.bool a1_0, .string a1_1, .int .i64 a1_2] 23 (0, 0)) (by (with_reducible repeat (first | refine blk_drewN ?_ _ | refine blk_drew ?_ | refine blk_alloc ?_ _)); exact BK530.out) hb); have n3_ := Aside0.mk (blk_below (g := gb531) (o := .cells #[.bool a2_0, .string a2_1, .int .i64 a2_2] 23 (0, 0)) (by (with_reducible repeat (first | refine blk_drewN ?_ _ | refine blk_drew ?_ | refine blk_alloc ?_ _)); exact BK531.out) hb); have n4_ := Aside0.mk (below_step (by repeat (first | (with_reducible first | exact HB.out | apply below_alloc | apply pw_below_drewN | apply below_drew1 | refine below_set ?_ GE529.out | refine below_set ?_ GE530.out | refine below_set ?_ GE531.out) | exact HB.out)) hb); clear BK529; clear BK530; clear BK531; clear HB; have HO534 := n0_; have BK529 := n1_; have BK530 := n2_; have BK531 := n3_; have HB := n4_; clear n0_ n1_ n2_ n3_ n4_; clear hb ho55; obtain ⟨Ao56, co56, eo56⟩ := Kd.R_slice HO534.out; subst eo56) | ((with_reducible refine gate_callee (f := 32) rfl ?_); refine goesL_ (some 11) rfl rfl Tryd.func32 (by kernel_rfl) rfl #[.slice Ao56 y532.length co56] rfl (by (try simp only [List.map_toArray]); (try simp only [List.map_cons]); (try simp only [List.map_nil]); first | done | rfl | (simp only [List.length_drop, List.length_take]; rfl)) ?_; (with_reducible refine (figureheadlaw06_good.calls k _ _ y532 true _ ?side1 ?side2 A8.out).mono ?_); (case side1 => repeat (first | exact (Kd.R_reads' HO534.out).2.2 | (with_reducible refine Kd.C_alloc ?_ _) | (with_reducible refine Kd.C_drewN ?_ _) | (with_reducible refine Kd.C_drew ?_))); (case side2 => exact (Kd.R_reads' HO534.out).2.1); rintro e w57 ⟨rfl, hb⟩; refine ⟨_, rfl, ?_⟩; have n0_ := Aside0.mk (Kd.R_below (by (with_reducible repeat (first | apply Kd.R_alloc | apply Kd.R_drewN | apply Kd.R_drew)); exact HO534.out) hb); have n1_ := Aside0.mk (blk_below (g := gb529) (o := .cells #[.bool a0_0, .string a0_1, .int .i64 a0_2] 23 (0, 0)) (by (with_reducible repeat (first | refine blk_drewN ?_ _ | refine blk_drew ?_ | refine blk_alloc ?_ _)); exact BK529.out) hb); have n2_ := Aside0.mk (blk_below (g := gb530) (o := .cells #[.bool a1_0, .string a1_1, .int .i64 a1_2] 23 (0, 0)) (by (with_reducible repeat (first | refine blk_drewN ?_ _ | refine blk_drew ?_ | refine blk_alloc ?_ _)); exact BK530.out) hb); have n3_ := Aside0.mk (blk_below (g := gb531) (o := .cells #[.bool a2_0, .string a2_1, .int .i64 a2_2] 23 (0, 0)) (by (with_reducible repeat (first | refine blk_drewN ?_ _ | refine blk_drew ?_ | refine blk_alloc ?_ _)); exact BK531.out) hb); have n4_ := Aside0.mk (below_step (by repeat (first | (with_reducible first | exact HB.out | apply below_alloc | apply pw_below_drewN | apply below_drew1 | refine below_set ?_ GE529.out | refine below_set ?_ GE530.out | refine below_set ?_ GE531.out) | exact HB.out)) hb); clear HO534; clear BK529; clear BK530; clear BK531; clear HB; have HO534 := n0_; have BK529 := n1_; have BK530 := n2_; have BK531 := n3_; have HB := n4_; clear n0_ n1_ n2_ n3_ n4_; (try clear hb); (try clear hb2); (try clear hk); (try clear hi); have hcz58_0 : w57.cell? ⟨gb529, 0, none⟩ = some (.bool a0_0) := (blk_cell BK529.out 0).trans rfl; have hcz58_1 : w57.cell? ⟨gb529, 1, none⟩ = some (.string a0_1) := (blk_cell BK529.out 1).trans rfl; have hcz58_2 : w57.cell? ⟨gb529, 2, none⟩ = some (.int .i64 a0_2) := (blk_cell BK529.out 2).trans rfl; have hfz58_0 := blk_frozen BK529.out 0; have hfz58_1 := blk_frozen BK529.out 1; have hfz58_2 := blk_frozen BK529.out 2; have hcz59_0 : w57.cell? ⟨gb530, 0, none⟩ = some (.bool a1_0) := (blk_cell BK530.out 0).trans rfl; have hcz59_1 : w57.cell? ⟨gb530, 1, none⟩ = some (.string a1_1) := (blk_cell BK530.out 1).trans rfl; have hcz59_2 : w57.cell? ⟨gb530, 2, none⟩ = some (.int .i64 a1_2) := (blk_cell BK530.out 2).trans rfl; have hfz59_0 := blk_frozen BK530.out 0; have hfz59_1 := blk_frozen BK530.out 1; have hfz59_2 := blk_frozen BK530.out 2))
              go_meet
              case rel => exact ⟨_, (true), (by first | rfl | (simp; done) | (simp [*]; done) | (simp [*, Fig.bne_nil]; done)), H', ⟨by first | omega | exact Nat.le_refl _⟩, ⟨by (with_reducible repeat (first | refine blk_drewN ?_ _ | refine blk_drew ?_ | refine blk_alloc ?_ _)); exact BK529.out⟩, ⟨by (with_reducible repeat (first | refine blk_drewN ?_ _ | refine blk_drew ?_ | refine blk_alloc ?_ _)); exact BK530.out⟩, ⟨by (with_reducible repeat (first | refine blk_drewN ?_ _ | refine blk_drew ?_ | refine blk_alloc ?_ _)); exact BK531.out⟩, ⟨by repeat (first | (with_reducible first | exact HB.out | apply below_alloc | apply pw_below_drewN | apply below_drew1 | refine below_set ?_ GE529.out | refine below_set ?_ GE530.out | refine below_set ?_ GE531.out) | exact HB.out)⟩⟩
            · rw [if_neg c47] at H
              have c47b0 : decide (300 < a1_2) = false := decide_eq_false c47
              clear c47
              by_cases c60 : a2_2 < (-300)
              · rw [if_pos c60] at H
                have c60b0 : decide (a2_2 < (-300)) = true := decide_eq_true c60
                clear c60
                have H' := Aside0.mk H
                clear H
                have hnb61 := NB529_530.out
                have hnc61 := NB530_529.out
                have hnb62 := NB529_531.out
                have hnc62 := NB531_529.out
                have hcz63_0 : w7.cell? ⟨gb529, 0, none⟩ = some (.bool a0_0) := (blk_cell BK529.out 0).trans rfl
                have hcz63_1 : w7.cell? ⟨gb529, 1, none⟩ = some (.string a0_1) := (blk_cell BK529.out 1).trans rfl
                have hcz63_2 : w7.cell? ⟨gb529, 2, none⟩ = some (.int .i64 a0_2) := (blk_cell BK529.out 2).trans rfl
                have hfz63_0 := blk_frozen BK529.out 0
                have hfz63_1 := blk_frozen BK529.out 1
                have hfz63_2 := blk_frozen BK529.out 2
                have hnb64 := NB530_531.out
                have hnc64 := NB531_530.out
                have hcz65_0 : w7.cell? ⟨gb530, 0, none⟩ = some (.bool a1_0) := (blk_cell BK530.out 0).trans rfl
                have hcz65_1 : w7.cell? ⟨gb530, 1, none⟩ = some (.string a1_1) := (blk_cell BK530.out 1).trans rfl
                have hcz65_2 : w7.cell? ⟨gb530, 2, none⟩ = some (.int .i64 a1_2) := (blk_cell BK530.out 2).trans rfl
                have hfz65_0 := blk_frozen BK530.out 0
                have hfz65_1 := blk_frozen BK530.out 1
                have hfz65_2 := blk_frozen BK530.out 2
                have hcz66_0 : w7.cell? ⟨gb531, 0, none⟩ = some (.bool a2_0) := (blk_cell BK531.out 0).trans rfl
                have hcz66_1 : w7.cell? ⟨gb531, 1, none⟩ = some (.string a2_1) := (blk_cell BK531.out 1).trans rfl
                have hcz66_2 : w7.cell? ⟨gb531, 2, none⟩ = some (.int .i64 a2_2) := (blk_cell BK531.out 2).trans rfl
                have hfz66_0 := blk_frozen BK531.out 0
                have hfz66_1 := blk_frozen BK531.out 1
                have hfz66_2 := blk_frozen BK531.out 2
                go_wp2_with (first | ((with_reducible refine gate_dst (N := 10) rfl ?_); refine Kd.R_lit k23 _ 23 ?hg (N := 10) ?hd (xs := ([(⟨a0_0, a0_1, a0_2⟩ : S23), (⟨a1_0, a1_1, a1_2⟩ : S23), (⟨a2_0, a2_1, a2_2⟩ : S23)] : List (S23))) (inner := [.bool a0_0, .string a0_1, .int .i64 a0_2, .bool a1_0, .string a1_1, .int .i64 a1_2, .bool a2_0, .string a2_1, .int .i64 a2_2]) (ok := fun _ => True) (okp := fun _ => True) ?hr ?hp (fun _ hk => hk) trivial (Below.refl _ _) (Nat.le_refl _) (by simp) ?_; (case hd => rfl); (case hg => rfl); (case hr => first | (go_simp; done) | (go_simp; rfl)); (case hp => exact (Reps.c3 (show Kd.M k23 _ _ _ (⟨a0_0, a0_1, a0_2⟩ : S23) [.bool a0_0, .string a0_1, .int .i64 a0_2] from (k23_mkM _ _ _ (⟨a0_0, a0_1, a0_2⟩ : S23) )) (Reps.c3 (show Kd.M k23 _ _ _ (⟨a1_0, a1_1, a1_2⟩ : S23) [.bool a1_0, .string a1_1, .int .i64 a1_2] from (k23_mkM _ _ _ (⟨a1_0, a1_1, a1_2⟩ : S23) )) (Reps.c3 (show Kd.M k23 _ _ _ (⟨a2_0, a2_1, a2_2⟩ : S23) [.bool a2_0, .string a2_1, .int .i64 a2_2] from (k23_mkM _ _ _ (⟨a2_0, a2_1, a2_2⟩ : S23) )) (Reps.none _ _))))); intro v533 w67 ho68 hb hg_ hnew_; clear hg_ hnew_; (first | rw [← Ny532.out] at ho68 | (simp only [Int.reduceToNat] at ho68; rw [← Ny532.out] at ho68)); have n0_ := Aside0.mk (Kd.R_lower (Kd.R_newB (Kd.R_newB (Kd.R_newB ho68 (g := gb529) (o := .cells #[.bool a0_0, .string a0_1, .int .i64 a0_2] 23 (0, 0)) (by (with_reducible repeat (first | refine blk_drewN ?_ _ | refine blk_drew ?_ | refine blk_alloc ?_ _)); exact BK529.out)) (g := gb530) (o := .cells #[.bool a1_0, .string a1_1, .int .i64 a1_2] 23 (0, 0)) (by (with_reducible repeat (first | refine blk_drewN ?_ _ | refine blk_drew ?_ | refine blk_alloc ?_ _)); exact BK530.out)) (g := gb531) (o := .cells #[.bool a2_0, .string a2_1, .int .i64 a2_2] 23 (0, 0)) (by (with_reducible repeat (first | refine blk_drewN ?_ _ | refine blk_drew ?_ | refine blk_alloc ?_ _)); exact BK531.out)) (below_size (by repeat (first | (with_reducible first | exact HB.out | apply below_alloc | apply pw_below_drewN | apply below_drew1 | refine below_set ?_ GE529.out | refine below_set ?_ GE530.out | refine below_set ?_ GE531.out) | exact HB.out)))); have n1_ := Aside0.mk (blk_below (g := gb529) (o := .cells #[.bool a0_0, .string a0_1, .int .i64 a0_2] 23 (0, 0)) (by (with_reducible repeat (first | refine blk_drewN ?_ _ | refine blk_drew ?_ | refine blk_alloc ?_ _)); exact BK529.out) hb); have n2_ := Aside0.mk (blk_below (g := gb530) (o := .cells #[.bool a1_0, .string a1_1, .int .i64 a1_2] 23 (0, 0)) (by (with_reducible repeat (first | refine blk_drewN ?_ _ | refine blk_drew ?_ | refine blk_alloc ?_ _)); exact BK530.out) hb); have n3_ := Aside0.mk (blk_below (g := gb531) (o := .cells #[.bool a2_0, .string a2_1, .int .i64 a2_2] 23 (0, 0)) (by (with_reducible repeat (first | refine blk_drewN ?_ _ | refine blk_drew ?_ | refine blk_alloc ?_ _)); exact BK531.out) hb); have n4_ := Aside0.mk (below_step (by repeat (first | (with_reducible first | exact HB.out | apply below_alloc | apply pw_below_drewN | apply below_drew1 | refine below_set ?_ GE529.out | refine below_set ?_ GE530.out | refine below_set ?_ GE531.out) | exact HB.out)) hb); clear BK529; clear BK530; clear BK531; clear HB; have HO534 := n0_; have BK529 := n1_; have BK530 := n2_; have BK531 := n3_; have HB := n4_; clear n0_ n1_ n2_ n3_ n4_; clear hb ho68; obtain ⟨Ao69, co69, eo69⟩ := Kd.R_slice HO534.out; subst eo69) | ((with_reducible refine gate_callee (f := 32) rfl ?_); refine goesL_ (some 11) rfl rfl Tryd.func32 (by kernel_rfl) rfl #[.slice Ao69 y532.length co69] rfl (by (try simp only [List.map_toArray]); (try simp only [List.map_cons]); (try simp only [List.map_nil]); first | done | rfl | (simp only [List.length_drop, List.length_take]; rfl)) ?_; (with_reducible refine (figureheadlaw06_good.calls k _ _ y532 true _ ?side1 ?side2 A8.out).mono ?_); (case side1 => repeat (first | exact (Kd.R_reads' HO534.out).2.2 | (with_reducible refine Kd.C_alloc ?_ _) | (with_reducible refine Kd.C_drewN ?_ _) | (with_reducible refine Kd.C_drew ?_))); (case side2 => exact (Kd.R_reads' HO534.out).2.1); rintro e w70 ⟨rfl, hb⟩; refine ⟨_, rfl, ?_⟩; have n0_ := Aside0.mk (Kd.R_below (by (with_reducible repeat (first | apply Kd.R_alloc | apply Kd.R_drewN | apply Kd.R_drew)); exact HO534.out) hb); have n1_ := Aside0.mk (blk_below (g := gb529) (o := .cells #[.bool a0_0, .string a0_1, .int .i64 a0_2] 23 (0, 0)) (by (with_reducible repeat (first | refine blk_drewN ?_ _ | refine blk_drew ?_ | refine blk_alloc ?_ _)); exact BK529.out) hb); have n2_ := Aside0.mk (blk_below (g := gb530) (o := .cells #[.bool a1_0, .string a1_1, .int .i64 a1_2] 23 (0, 0)) (by (with_reducible repeat (first | refine blk_drewN ?_ _ | refine blk_drew ?_ | refine blk_alloc ?_ _)); exact BK530.out) hb); have n3_ := Aside0.mk (blk_below (g := gb531) (o := .cells #[.bool a2_0, .string a2_1, .int .i64 a2_2] 23 (0, 0)) (by (with_reducible repeat (first | refine blk_drewN ?_ _ | refine blk_drew ?_ | refine blk_alloc ?_ _)); exact BK531.out) hb); have n4_ := Aside0.mk (below_step (by repeat (first | (with_reducible first | exact HB.out | apply below_alloc | apply pw_below_drewN | apply below_drew1 | refine below_set ?_ GE529.out | refine below_set ?_ GE530.out | refine below_set ?_ GE531.out) | exact HB.out)) hb); clear HO534; clear BK529; clear BK530; clear BK531; clear HB; have HO534 := n0_; have BK529 := n1_; have BK530 := n2_; have BK531 := n3_; have HB := n4_; clear n0_ n1_ n2_ n3_ n4_; (try clear hb); (try clear hb2); (try clear hk); (try clear hi); have hcz71_0 : w70.cell? ⟨gb529, 0, none⟩ = some (.bool a0_0) := (blk_cell BK529.out 0).trans rfl; have hcz71_1 : w70.cell? ⟨gb529, 1, none⟩ = some (.string a0_1) := (blk_cell BK529.out 1).trans rfl; have hcz71_2 : w70.cell? ⟨gb529, 2, none⟩ = some (.int .i64 a0_2) := (blk_cell BK529.out 2).trans rfl; have hfz71_0 := blk_frozen BK529.out 0; have hfz71_1 := blk_frozen BK529.out 1; have hfz71_2 := blk_frozen BK529.out 2; have hcz72_0 : w70.cell? ⟨gb530, 0, none⟩ = some (.bool a1_0) := (blk_cell BK530.out 0).trans rfl; have hcz72_1 : w70.cell? ⟨gb530, 1, none⟩ = some (.string a1_1) := (blk_cell BK530.out 1).trans rfl; have hcz72_2 : w70.cell? ⟨gb530, 2, none⟩ = some (.int .i64 a1_2) := (blk_cell BK530.out 2).trans rfl; have hfz72_0 := blk_frozen BK530.out 0; have hfz72_1 := blk_frozen BK530.out 1; have hfz72_2 := blk_frozen BK530.out 2; have hcz73_0 : w70.cell? ⟨gb531, 0, none⟩ = some (.bool a2_0) := (blk_cell BK531.out 0).trans rfl; have hcz73_1 : w70.cell? ⟨gb531, 1, none⟩ = some (.string a2_1) := (blk_cell BK531.out 1).trans rfl; have hcz73_2 : w70.cell? ⟨gb531, 2, none⟩ = some (.int .i64 a2_2) := (blk_cell BK531.out 2).trans rfl; have hfz73_0 := blk_frozen BK531.out 0; have hfz73_1 := blk_frozen BK531.out 1; have hfz73_2 := blk_frozen BK531.out 2))
                go_meet
                case rel => exact ⟨_, (true), (by first | rfl | (simp; done) | (simp [*]; done) | (simp [*, Fig.bne_nil]; done)), H', ⟨by first | omega | exact Nat.le_refl _⟩, ⟨by (with_reducible repeat (first | refine blk_drewN ?_ _ | refine blk_drew ?_ | refine blk_alloc ?_ _)); exact BK529.out⟩, ⟨by (with_reducible repeat (first | refine blk_drewN ?_ _ | refine blk_drew ?_ | refine blk_alloc ?_ _)); exact BK530.out⟩, ⟨by (with_reducible repeat (first | refine blk_drewN ?_ _ | refine blk_drew ?_ | refine blk_alloc ?_ _)); exact BK531.out⟩, ⟨by repeat (first | (with_reducible first | exact HB.out | apply below_alloc | apply pw_below_drewN | apply below_drew1 | refine below_set ?_ GE529.out | refine below_set ?_ GE530.out | refine below_set ?_ GE531.out) | exact HB.out)⟩⟩
              · rw [if_neg c60] at H
                have c60b0 : decide (a2_2 < (-300)) = false := decide_eq_false c60
                clear c60
                have H' := Aside0.mk H
                clear H
                have hnb74 := NB529_530.out
                have hnc74 := NB530_529.out
                have hnb75 := NB529_531.out
                have hnc75 := NB531_529.out
                have hcz76_0 : w7.cell? ⟨gb529, 0, none⟩ = some (.bool a0_0) := (blk_cell BK529.out 0).trans rfl
                have hcz76_1 : w7.cell? ⟨gb529, 1, none⟩ = some (.string a0_1) := (blk_cell BK529.out 1).trans rfl
                have hcz76_2 : w7.cell? ⟨gb529, 2, none⟩ = some (.int .i64 a0_2) := (blk_cell BK529.out 2).trans rfl
                have hfz76_0 := blk_frozen BK529.out 0
                have hfz76_1 := blk_frozen BK529.out 1
                have hfz76_2 := blk_frozen BK529.out 2
                have hnb77 := NB530_531.out
                have hnc77 := NB531_530.out
                have hcz78_0 : w7.cell? ⟨gb530, 0, none⟩ = some (.bool a1_0) := (blk_cell BK530.out 0).trans rfl
                have hcz78_1 : w7.cell? ⟨gb530, 1, none⟩ = some (.string a1_1) := (blk_cell BK530.out 1).trans rfl
                have hcz78_2 : w7.cell? ⟨gb530, 2, none⟩ = some (.int .i64 a1_2) := (blk_cell BK530.out 2).trans rfl
                have hfz78_0 := blk_frozen BK530.out 0
                have hfz78_1 := blk_frozen BK530.out 1
                have hfz78_2 := blk_frozen BK530.out 2
                have hcz79_0 : w7.cell? ⟨gb531, 0, none⟩ = some (.bool a2_0) := (blk_cell BK531.out 0).trans rfl
                have hcz79_1 : w7.cell? ⟨gb531, 1, none⟩ = some (.string a2_1) := (blk_cell BK531.out 1).trans rfl
                have hcz79_2 : w7.cell? ⟨gb531, 2, none⟩ = some (.int .i64 a2_2) := (blk_cell BK531.out 2).trans rfl
                have hfz79_0 := blk_frozen BK531.out 0
                have hfz79_1 := blk_frozen BK531.out 1
                have hfz79_2 := blk_frozen BK531.out 2
                go_wp2_with (first | ((with_reducible refine gate_dst (N := 10) rfl ?_); refine Kd.R_lit k23 _ 23 ?hg (N := 10) ?hd (xs := ([(⟨a0_0, a0_1, a0_2⟩ : S23), (⟨a1_0, a1_1, a1_2⟩ : S23), (⟨a2_0, a2_1, a2_2⟩ : S23)] : List (S23))) (inner := [.bool a0_0, .string a0_1, .int .i64 a0_2, .bool a1_0, .string a1_1, .int .i64 a1_2, .bool a2_0, .string a2_1, .int .i64 a2_2]) (ok := fun _ => True) (okp := fun _ => True) ?hr ?hp (fun _ hk => hk) trivial (Below.refl _ _) (Nat.le_refl _) (by simp) ?_; (case hd => rfl); (case hg => rfl); (case hr => first | (go_simp; done) | (go_simp; rfl)); (case hp => exact (Reps.c3 (show Kd.M k23 _ _ _ (⟨a0_0, a0_1, a0_2⟩ : S23) [.bool a0_0, .string a0_1, .int .i64 a0_2] from (k23_mkM _ _ _ (⟨a0_0, a0_1, a0_2⟩ : S23) )) (Reps.c3 (show Kd.M k23 _ _ _ (⟨a1_0, a1_1, a1_2⟩ : S23) [.bool a1_0, .string a1_1, .int .i64 a1_2] from (k23_mkM _ _ _ (⟨a1_0, a1_1, a1_2⟩ : S23) )) (Reps.c3 (show Kd.M k23 _ _ _ (⟨a2_0, a2_1, a2_2⟩ : S23) [.bool a2_0, .string a2_1, .int .i64 a2_2] from (k23_mkM _ _ _ (⟨a2_0, a2_1, a2_2⟩ : S23) )) (Reps.none _ _))))); intro v533 w80 ho81 hb hg_ hnew_; clear hg_ hnew_; (first | rw [← Ny532.out] at ho81 | (simp only [Int.reduceToNat] at ho81; rw [← Ny532.out] at ho81)); have n0_ := Aside0.mk (Kd.R_lower (Kd.R_newB (Kd.R_newB (Kd.R_newB ho81 (g := gb529) (o := .cells #[.bool a0_0, .string a0_1, .int .i64 a0_2] 23 (0, 0)) (by (with_reducible repeat (first | refine blk_drewN ?_ _ | refine blk_drew ?_ | refine blk_alloc ?_ _)); exact BK529.out)) (g := gb530) (o := .cells #[.bool a1_0, .string a1_1, .int .i64 a1_2] 23 (0, 0)) (by (with_reducible repeat (first | refine blk_drewN ?_ _ | refine blk_drew ?_ | refine blk_alloc ?_ _)); exact BK530.out)) (g := gb531) (o := .cells #[.bool a2_0, .string a2_1, .int .i64 a2_2] 23 (0, 0)) (by (with_reducible repeat (first | refine blk_drewN ?_ _ | refine blk_drew ?_ | refine blk_alloc ?_ _)); exact BK531.out)) (below_size (by repeat (first | (with_reducible first | exact HB.out | apply below_alloc | apply pw_below_drewN | apply below_drew1 | refine below_set ?_ GE529.out | refine below_set ?_ GE530.out | refine below_set ?_ GE531.out) | exact HB.out)))); have n1_ := Aside0.mk (blk_below (g := gb529) (o := .cells #[.bool a0_0, .string a0_1, .int .i64 a0_2] 23 (0, 0)) (by (with_reducible repeat (first | refine blk_drewN ?_ _ | refine blk_drew ?_ | refine blk_alloc ?_ _)); exact BK529.out) hb); have n2_ := Aside0.mk (blk_below (g := gb530) (o := .cells #[.bool a1_0, .string a1_1, .int .i64 a1_2] 23 (0, 0)) (by (with_reducible repeat (first | refine blk_drewN ?_ _ | refine blk_drew ?_ | refine blk_alloc ?_ _)); exact BK530.out) hb); have n3_ := Aside0.mk (blk_below (g := gb531) (o := .cells #[.bool a2_0, .string a2_1, .int .i64 a2_2] 23 (0, 0)) (by (with_reducible repeat (first | refine blk_drewN ?_ _ | refine blk_drew ?_ | refine blk_alloc ?_ _)); exact BK531.out) hb); have n4_ := Aside0.mk (below_step (by repeat (first | (with_reducible first | exact HB.out | apply below_alloc | apply pw_below_drewN | apply below_drew1 | refine below_set ?_ GE529.out | refine below_set ?_ GE530.out | refine below_set ?_ GE531.out) | exact HB.out)) hb); clear BK529; clear BK530; clear BK531; clear HB; have HO534 := n0_; have BK529 := n1_; have BK530 := n2_; have BK531 := n3_; have HB := n4_; clear n0_ n1_ n2_ n3_ n4_; clear hb ho81; obtain ⟨Ao82, co82, eo82⟩ := Kd.R_slice HO534.out; subst eo82) | ((with_reducible refine gate_callee (f := 32) rfl ?_); refine goesL_ (some 11) rfl rfl Tryd.func32 (by kernel_rfl) rfl #[.slice Ao82 y532.length co82] rfl (by (try simp only [List.map_toArray]); (try simp only [List.map_cons]); (try simp only [List.map_nil]); first | done | rfl | (simp only [List.length_drop, List.length_take]; rfl)) ?_; (with_reducible refine (figureheadlaw06_good.calls k _ _ y532 true _ ?side1 ?side2 A8.out).mono ?_); (case side1 => repeat (first | exact (Kd.R_reads' HO534.out).2.2 | (with_reducible refine Kd.C_alloc ?_ _) | (with_reducible refine Kd.C_drewN ?_ _) | (with_reducible refine Kd.C_drew ?_))); (case side2 => exact (Kd.R_reads' HO534.out).2.1); rintro e w83 ⟨rfl, hb⟩; refine ⟨_, rfl, ?_⟩; have n0_ := Aside0.mk (Kd.R_below (by (with_reducible repeat (first | apply Kd.R_alloc | apply Kd.R_drewN | apply Kd.R_drew)); exact HO534.out) hb); have n1_ := Aside0.mk (blk_below (g := gb529) (o := .cells #[.bool a0_0, .string a0_1, .int .i64 a0_2] 23 (0, 0)) (by (with_reducible repeat (first | refine blk_drewN ?_ _ | refine blk_drew ?_ | refine blk_alloc ?_ _)); exact BK529.out) hb); have n2_ := Aside0.mk (blk_below (g := gb530) (o := .cells #[.bool a1_0, .string a1_1, .int .i64 a1_2] 23 (0, 0)) (by (with_reducible repeat (first | refine blk_drewN ?_ _ | refine blk_drew ?_ | refine blk_alloc ?_ _)); exact BK530.out) hb); have n3_ := Aside0.mk (blk_below (g := gb531) (o := .cells #[.bool a2_0, .string a2_1, .int .i64 a2_2] 23 (0, 0)) (by (with_reducible repeat (first | refine blk_drewN ?_ _ | refine blk_drew ?_ | refine blk_alloc ?_ _)); exact BK531.out) hb); have n4_ := Aside0.mk (below_step (by repeat (first | (with_reducible first | exact HB.out | apply below_alloc | apply pw_below_drewN | apply below_drew1 | refine below_set ?_ GE529.out | refine below_set ?_ GE530.out | refine below_set ?_ GE531.out) | exact HB.out)) hb); clear HO534; clear BK529; clear BK530; clear BK531; clear HB; have HO534 := n0_; have BK529 := n1_; have BK530 := n2_; have BK531 := n3_; have HB := n4_; clear n0_ n1_ n2_ n3_ n4_; (try clear hb); (try clear hb2); (try clear hk); (try clear hi); have hcz84_0 : w83.cell? ⟨gb529, 0, none⟩ = some (.bool a0_0) := (blk_cell BK529.out 0).trans rfl; have hcz84_1 : w83.cell? ⟨gb529, 1, none⟩ = some (.string a0_1) := (blk_cell BK529.out 1).trans rfl; have hcz84_2 : w83.cell? ⟨gb529, 2, none⟩ = some (.int .i64 a0_2) := (blk_cell BK529.out 2).trans rfl; have hfz84_0 := blk_frozen BK529.out 0; have hfz84_1 := blk_frozen BK529.out 1; have hfz84_2 := blk_frozen BK529.out 2; have hcz85_0 : w83.cell? ⟨gb530, 0, none⟩ = some (.bool a1_0) := (blk_cell BK530.out 0).trans rfl; have hcz85_1 : w83.cell? ⟨gb530, 1, none⟩ = some (.string a1_1) := (blk_cell BK530.out 1).trans rfl; have hcz85_2 : w83.cell? ⟨gb530, 2, none⟩ = some (.int .i64 a1_2) := (blk_cell BK530.out 2).trans rfl; have hfz85_0 := blk_frozen BK530.out 0; have hfz85_1 := blk_frozen BK530.out 1; have hfz85_2 := blk_frozen BK530.out 2; have hcz86_0 : w83.cell? ⟨gb531, 0, none⟩ = some (.bool a2_0) := (blk_cell BK531.out 0).trans rfl; have hcz86_1 : w83.cell? ⟨gb531, 1, none⟩ = some (.string a2_1) := (blk_cell BK531.out 1).trans rfl; have hcz86_2 : w83.cell? ⟨gb531, 2, none⟩ = some (.int .i64 a2_2) := (blk_cell BK531.out 2).trans rfl; have hfz86_0 := blk_frozen BK531.out 0; have hfz86_1 := blk_frozen BK531.out 1; have hfz86_2 := blk_frozen BK531.out 2))
                go_meet
                case rel => exact ⟨_, (decide (a2_2 > 300)), (by first | rfl | (simp; done) | (simp [*]; done) | (simp [*, Fig.bne_nil]; done)), H', ⟨by first | omega | exact Nat.le_refl _⟩, ⟨by (with_reducible repeat (first | refine blk_drewN ?_ _ | refine blk_drew ?_ | refine blk_alloc ?_ _)); exact BK529.out⟩, ⟨by (with_reducible repeat (first | refine blk_drewN ?_ _ | refine blk_drew ?_ | refine blk_alloc ?_ _)); exact BK530.out⟩, ⟨by (with_reducible repeat (first | refine blk_drewN ?_ _ | refine blk_drew ?_ | refine blk_alloc ?_ _)); exact BK531.out⟩, ⟨by repeat (first | (with_reducible first | exact HB.out | apply below_alloc | apply pw_below_drewN | apply below_drew1 | refine below_set ?_ GE529.out | refine below_set ?_ GE530.out | refine below_set ?_ GE531.out) | exact HB.out)⟩⟩
    · replace c9 := Bool.eq_false_iff.mpr c9
      subst c9
      have H1 : (figureheadlaw06_ArithLaws.j0 k true a0_0 a0_1 a0_2 a1_0 a1_1 a1_2 a2_0 a2_1 a2_2) = some r := by rw [if_neg (show ¬ (false = true) by decide)] at H; exact H
      clear H
      have H := H1
      clear H1
      have H' := Aside0.mk H
      clear H
      have hnb87 := NB529_530.out
      have hnc87 := NB530_529.out
      have hnb88 := NB529_531.out
      have hnc88 := NB531_529.out
      have hcz89_0 : w7.cell? ⟨gb529, 0, none⟩ = some (.bool a0_0) := (blk_cell BK529.out 0).trans rfl
      have hcz89_1 : w7.cell? ⟨gb529, 1, none⟩ = some (.string a0_1) := (blk_cell BK529.out 1).trans rfl
      have hcz89_2 : w7.cell? ⟨gb529, 2, none⟩ = some (.int .i64 a0_2) := (blk_cell BK529.out 2).trans rfl
      have hfz89_0 := blk_frozen BK529.out 0
      have hfz89_1 := blk_frozen BK529.out 1
      have hfz89_2 := blk_frozen BK529.out 2
      have hnb90 := NB530_531.out
      have hnc90 := NB531_530.out
      have hcz91_0 : w7.cell? ⟨gb530, 0, none⟩ = some (.bool a1_0) := (blk_cell BK530.out 0).trans rfl
      have hcz91_1 : w7.cell? ⟨gb530, 1, none⟩ = some (.string a1_1) := (blk_cell BK530.out 1).trans rfl
      have hcz91_2 : w7.cell? ⟨gb530, 2, none⟩ = some (.int .i64 a1_2) := (blk_cell BK530.out 2).trans rfl
      have hfz91_0 := blk_frozen BK530.out 0
      have hfz91_1 := blk_frozen BK530.out 1
      have hfz91_2 := blk_frozen BK530.out 2
      have hcz92_0 : w7.cell? ⟨gb531, 0, none⟩ = some (.bool a2_0) := (blk_cell BK531.out 0).trans rfl
      have hcz92_1 : w7.cell? ⟨gb531, 1, none⟩ = some (.string a2_1) := (blk_cell BK531.out 1).trans rfl
      have hcz92_2 : w7.cell? ⟨gb531, 2, none⟩ = some (.int .i64 a2_2) := (blk_cell BK531.out 2).trans rfl
      have hfz92_0 := blk_frozen BK531.out 0
      have hfz92_1 := blk_frozen BK531.out 1
      have hfz92_2 := blk_frozen BK531.out 2
      go_wp2_with (first | ((with_reducible refine gate_dst (N := 10) rfl ?_); refine Kd.R_lit k23 _ 23 ?hg (N := 10) ?hd (xs := ([(⟨a0_0, a0_1, a0_2⟩ : S23), (⟨a1_0, a1_1, a1_2⟩ : S23), (⟨a2_0, a2_1, a2_2⟩ : S23)] : List (S23))) (inner := [.bool a0_0, .string a0_1, .int .i64 a0_2, .bool a1_0, .string a1_1, .int .i64 a1_2, .bool a2_0, .string a2_1, .int .i64 a2_2]) (ok := fun _ => True) (okp := fun _ => True) ?hr ?hp (fun _ hk => hk) trivial (Below.refl _ _) (Nat.le_refl _) (by simp) ?_; (case hd => rfl); (case hg => rfl); (case hr => first | (go_simp; done) | (go_simp; rfl)); (case hp => exact (Reps.c3 (show Kd.M k23 _ _ _ (⟨a0_0, a0_1, a0_2⟩ : S23) [.bool a0_0, .string a0_1, .int .i64 a0_2] from (k23_mkM _ _ _ (⟨a0_0, a0_1, a0_2⟩ : S23) )) (Reps.c3 (show Kd.M k23 _ _ _ (⟨a1_0, a1_1, a1_2⟩ : S23) [.bool a1_0, .string a1_1, .int .i64 a1_2] from (k23_mkM _ _ _ (⟨a1_0, a1_1, a1_2⟩ : S23) )) (Reps.c3 (show Kd.M k23 _ _ _ (⟨a2_0, a2_1, a2_2⟩ : S23) [.bool a2_0, .string a2_1, .int .i64 a2_2] from (k23_mkM _ _ _ (⟨a2_0, a2_1, a2_2⟩ : S23) )) (Reps.none _ _))))); intro v533 w93 ho94 hb hg_ hnew_; clear hg_ hnew_; (first | rw [← Ny532.out] at ho94 | (simp only [Int.reduceToNat] at ho94; rw [← Ny532.out] at ho94)); have n0_ := Aside0.mk (Kd.R_lower (Kd.R_newB (Kd.R_newB (Kd.R_newB ho94 (g := gb529) (o := .cells #[.bool a0_0, .string a0_1, .int .i64 a0_2] 23 (0, 0)) (by (with_reducible repeat (first | refine blk_drewN ?_ _ | refine blk_drew ?_ | refine blk_alloc ?_ _)); exact BK529.out)) (g := gb530) (o := .cells #[.bool a1_0, .string a1_1, .int .i64 a1_2] 23 (0, 0)) (by (with_reducible repeat (first | refine blk_drewN ?_ _ | refine blk_drew ?_ | refine blk_alloc ?_ _)); exact BK530.out)) (g := gb531) (o := .cells #[.bool a2_0, .string a2_1, .int .i64 a2_2] 23 (0, 0)) (by (with_reducible repeat (first | refine blk_drewN ?_ _ | refine blk_drew ?_ | refine blk_alloc ?_ _)); exact BK531.out)) (below_size (by repeat (first | (with_reducible first | exact HB.out | apply below_alloc | apply pw_below_drewN | apply below_drew1 | refine below_set ?_ GE529.out | refine below_set ?_ GE530.out | refine below_set ?_ GE531.out) | exact HB.out)))); have n1_ := Aside0.mk (blk_below (g := gb529) (o := .cells #[.bool a0_0, .string a0_1, .int .i64 a0_2] 23 (0, 0)) (by (with_reducible repeat (first | refine blk_drewN ?_ _ | refine blk_drew ?_ | refine blk_alloc ?_ _)); exact BK529.out) hb); have n2_ := Aside0.mk (blk_below (g := gb530) (o := .cells #[.bool a1_0, .string a1_1, .int .i64 a1_2] 23 (0, 0)) (by (with_reducible repeat (first | refine blk_drewN ?_ _ | refine blk_drew ?_ | refine blk_alloc ?_ _)); exact BK530.out) hb); have n3_ := Aside0.mk (blk_below (g := gb531) (o := .cells #[.bool a2_0, .string a2_1, .int .i64 a2_2] 23 (0, 0)) (by (with_reducible repeat (first | refine blk_drewN ?_ _ | refine blk_drew ?_ | refine blk_alloc ?_ _)); exact BK531.out) hb); have n4_ := Aside0.mk (below_step (by repeat (first | (with_reducible first | exact HB.out | apply below_alloc | apply pw_below_drewN | apply below_drew1 | refine below_set ?_ GE529.out | refine below_set ?_ GE530.out | refine below_set ?_ GE531.out) | exact HB.out)) hb); clear BK529; clear BK530; clear BK531; clear HB; have HO534 := n0_; have BK529 := n1_; have BK530 := n2_; have BK531 := n3_; have HB := n4_; clear n0_ n1_ n2_ n3_ n4_; clear hb ho94; obtain ⟨Ao95, co95, eo95⟩ := Kd.R_slice HO534.out; subst eo95) | ((with_reducible refine gate_callee (f := 32) rfl ?_); refine goesL_ (some 11) rfl rfl Tryd.func32 (by kernel_rfl) rfl #[.slice Ao95 y532.length co95] rfl (by (try simp only [List.map_toArray]); (try simp only [List.map_cons]); (try simp only [List.map_nil]); first | done | rfl | (simp only [List.length_drop, List.length_take]; rfl)) ?_; (with_reducible refine (figureheadlaw06_good.calls k _ _ y532 false _ ?side1 ?side2 A8.out).mono ?_); (case side1 => repeat (first | exact (Kd.R_reads' HO534.out).2.2 | (with_reducible refine Kd.C_alloc ?_ _) | (with_reducible refine Kd.C_drewN ?_ _) | (with_reducible refine Kd.C_drew ?_))); (case side2 => exact (Kd.R_reads' HO534.out).2.1); rintro e w96 ⟨rfl, hb⟩; refine ⟨_, rfl, ?_⟩; have n0_ := Aside0.mk (Kd.R_below (by (with_reducible repeat (first | apply Kd.R_alloc | apply Kd.R_drewN | apply Kd.R_drew)); exact HO534.out) hb); have n1_ := Aside0.mk (blk_below (g := gb529) (o := .cells #[.bool a0_0, .string a0_1, .int .i64 a0_2] 23 (0, 0)) (by (with_reducible repeat (first | refine blk_drewN ?_ _ | refine blk_drew ?_ | refine blk_alloc ?_ _)); exact BK529.out) hb); have n2_ := Aside0.mk (blk_below (g := gb530) (o := .cells #[.bool a1_0, .string a1_1, .int .i64 a1_2] 23 (0, 0)) (by (with_reducible repeat (first | refine blk_drewN ?_ _ | refine blk_drew ?_ | refine blk_alloc ?_ _)); exact BK530.out) hb); have n3_ := Aside0.mk (blk_below (g := gb531) (o := .cells #[.bool a2_0, .string a2_1, .int .i64 a2_2] 23 (0, 0)) (by (with_reducible repeat (first | refine blk_drewN ?_ _ | refine blk_drew ?_ | refine blk_alloc ?_ _)); exact BK531.out) hb); have n4_ := Aside0.mk (below_step (by repeat (first | (with_reducible first | exact HB.out | apply below_alloc | apply pw_below_drewN | apply below_drew1 | refine below_set ?_ GE529.out | refine below_set ?_ GE530.out | refine below_set ?_ GE531.out) | exact HB.out)) hb); clear HO534; clear BK529; clear BK530; clear BK531; clear HB; have HO534 := n0_; have BK529 := n1_; have BK530 := n2_; have BK531 := n3_; have HB := n4_; clear n0_ n1_ n2_ n3_ n4_; (try clear hb); (try clear hb2); (try clear hk); (try clear hi)))
      go_meet
      case rel => exact ⟨_, (true), (by first | rfl | (simp; done) | (simp [*]; done) | (simp [*, Fig.bne_nil]; done)), H', ⟨by first | omega | exact Nat.le_refl _⟩, ⟨by (with_reducible repeat (first | refine blk_drewN ?_ _ | refine blk_drew ?_ | refine blk_alloc ?_ _)); exact BK529.out⟩, ⟨by (with_reducible repeat (first | refine blk_drewN ?_ _ | refine blk_drew ?_ | refine blk_alloc ?_ _)); exact BK530.out⟩, ⟨by (with_reducible repeat (first | refine blk_drewN ?_ _ | refine blk_drew ?_ | refine blk_alloc ?_ _)); exact BK531.out⟩, ⟨by repeat (first | (with_reducible first | exact HB.out | apply below_alloc | apply pw_below_drewN | apply below_drew1 | refine below_set ?_ GE529.out | refine below_set ?_ GE530.out | refine below_set ?_ GE531.out) | exact HB.out)⟩⟩
  case rest =>
    clear HC4
    try clear c1
    try clear c2
    try clear p2
    try clear c3
    try clear c4
    try clear c5
    try clear c6
    try clear c7
    try clear c8
    try clear c9
    try clear c10
    try clear c10b0
    try clear c11
    try clear c12
    try clear c14
    try clear c22
    try clear c22b0
    try clear c23
    try clear c24
    try clear c26
    try clear c32
    try clear c34
    try clear c34b0
    try clear c35
    try clear c36
    try clear c38
    try clear c47
    try clear c47b0
    try clear c48
    try clear c49
    try clear c51
    try clear c60
    try clear c60b0
    try clear c61
    try clear c62
    try clear c64
    try clear c74
    try clear c75
    try clear c77
    try clear c87
    try clear c88
    try clear c90
    try clear hcz13_0
    try clear hcz13_1
    try clear hcz13_2
    try clear hcz15_0
    try clear hcz15_1
    try clear hcz15_2
    try clear hcz16_0
    try clear hcz16_1
    try clear hcz16_2
    try clear hcz21_0
    try clear hcz21_1
    try clear hcz21_2
    try clear hcz25_0
    try clear hcz25_1
    try clear hcz25_2
    try clear hcz27_0
    try clear hcz27_1
    try clear hcz27_2
    try clear hcz28_0
    try clear hcz28_1
    try clear hcz28_2
    try clear hcz33_0
    try clear hcz33_1
    try clear hcz33_2
    try clear hcz37_0
    try clear hcz37_1
    try clear hcz37_2
    try clear hcz39_0
    try clear hcz39_1
    try clear hcz39_2
    try clear hcz40_0
    try clear hcz40_1
    try clear hcz40_2
    try clear hcz45_0
    try clear hcz45_1
    try clear hcz45_2
    try clear hcz46_0
    try clear hcz46_1
    try clear hcz46_2
    try clear hcz50_0
    try clear hcz50_1
    try clear hcz50_2
    try clear hcz52_0
    try clear hcz52_1
    try clear hcz52_2
    try clear hcz53_0
    try clear hcz53_1
    try clear hcz53_2
    try clear hcz58_0
    try clear hcz58_1
    try clear hcz58_2
    try clear hcz59_0
    try clear hcz59_1
    try clear hcz59_2
    try clear hcz63_0
    try clear hcz63_1
    try clear hcz63_2
    try clear hcz65_0
    try clear hcz65_1
    try clear hcz65_2
    try clear hcz66_0
    try clear hcz66_1
    try clear hcz66_2
    try clear hcz71_0
    try clear hcz71_1
    try clear hcz71_2
    try clear hcz72_0
    try clear hcz72_1
    try clear hcz72_2
    try clear hcz73_0
    try clear hcz73_1
    try clear hcz73_2
    try clear hcz76_0
    try clear hcz76_1
    try clear hcz76_2
    try clear hcz78_0
    try clear hcz78_1
    try clear hcz78_2
    try clear hcz79_0
    try clear hcz79_1
    try clear hcz79_2
    try clear hcz84_0
    try clear hcz84_1
    try clear hcz84_2
    try clear hcz85_0
    try clear hcz85_1
    try clear hcz85_2
    try clear hcz86_0
    try clear hcz86_1
    try clear hcz86_2
    try clear hcz89_0
    try clear hcz89_1
    try clear hcz89_2
    try clear hcz91_0
    try clear hcz91_1
    try clear hcz91_2
    try clear hcz92_0
    try clear hcz92_1
    try clear hcz92_2
    try clear hfz13_0
    try clear hfz13_1
    try clear hfz13_2
    try clear hfz15_0
    try clear hfz15_1
    try clear hfz15_2
    try clear hfz16_0
    try clear hfz16_1
    try clear hfz16_2
    try clear hfz21_0
    try clear hfz21_1
    try clear hfz21_2
    try clear hfz25_0
    try clear hfz25_1
    try clear hfz25_2
    try clear hfz27_0
    try clear hfz27_1
    try clear hfz27_2
    try clear hfz28_0
    try clear hfz28_1
    try clear hfz28_2
    try clear hfz33_0
    try clear hfz33_1
    try clear hfz33_2
    try clear hfz37_0
    try clear hfz37_1
    try clear hfz37_2
    try clear hfz39_0
    try clear hfz39_1
    try clear hfz39_2
    try clear hfz40_0
    try clear hfz40_1
    try clear hfz40_2
    try clear hfz45_0
    try clear hfz45_1
    try clear hfz45_2
    try clear hfz46_0
    try clear hfz46_1
    try clear hfz46_2
    try clear hfz50_0
    try clear hfz50_1
    try clear hfz50_2
    try clear hfz52_0
    try clear hfz52_1
    try clear hfz52_2
    try clear hfz53_0
    try clear hfz53_1
    try clear hfz53_2
    try clear hfz58_0
    try clear hfz58_1
    try clear hfz58_2
    try clear hfz59_0
    try clear hfz59_1
    try clear hfz59_2
    try clear hfz63_0
    try clear hfz63_1
    try clear hfz63_2
    try clear hfz65_0
    try clear hfz65_1
    try clear hfz65_2
    try clear hfz66_0
    try clear hfz66_1
    try clear hfz66_2
    try clear hfz71_0
    try clear hfz71_1
    try clear hfz71_2
    try clear hfz72_0
    try clear hfz72_1
    try clear hfz72_2
    try clear hfz73_0
    try clear hfz73_1
    try clear hfz73_2
    try clear hfz76_0
    try clear hfz76_1
    try clear hfz76_2
    try clear hfz78_0
    try clear hfz78_1
    try clear hfz78_2
    try clear hfz79_0
    try clear hfz79_1
    try clear hfz79_2
    try clear hfz84_0
    try clear hfz84_1
    try clear hfz84_2
    try clear hfz85_0
    try clear hfz85_1
    try clear hfz85_2
    try clear hfz86_0
    try clear hfz86_1
    try clear hfz86_2
    try clear hfz89_0
    try clear hfz89_1
    try clear hfz89_2
    try clear hfz91_0
    try clear hfz91_1
    try clear hfz91_2
    try clear hfz92_0
    try clear hfz92_1
    try clear hfz92_2
    obtain ⟨kq, x42_3, rfl, HA, HJ3, BK529, BK530, BK531, HB⟩ := hcut
    cases kq with
    | zero => exact absurd HA.out (by simp [figureheadlaw06_ArithLaws.j0])
    | succ kj3 =>
      have H := HA.out
      clear HA
      simp only [figureheadlaw06_ArithLaws.j0] at H
      by_cases c97 : x42_3 = true
      · subst c97
        have H1 : ((figureheadlaw06_answers.f kj3).bind fun t536 => (some t536)) = some r := by rw [if_pos rfl] at H; exact H
        clear H
        have H := H1
        clear H1
        replace H := Option.bind_eq_some_iff.mp H
        obtain ⟨t536, A980, H⟩ := H
        replace H : (some t536) = some r := H
        have A98 := Aside0.mk A980
        clear A980
        obtain rfl := Option.some.inj H
        go_wp2_with (first | ((with_reducible refine gate_callee (f := 33) rfl ?_); refine goesL_ (some 43) rfl rfl Tryd.func33 (by kernel_rfl) rfl #[] rfl (by (try simp only [List.map_toArray]); (try simp only [List.map_cons]); (try simp only [List.map_nil]); first | done | rfl | (simp only [List.length_drop, List.length_take]; rfl)) ?_; (with_reducible refine (figureheadlaw06_answers.calls kj3  t536 _ ?side1 ?side2 A98.out).mono ?_); (case side1 => exact Fig.Glob.below HG.out (by repeat (first | (with_reducible first | exact HB.out | apply below_alloc | apply pw_below_drewN | apply below_drew1 | refine below_set ?_ GE529.out | refine below_set ?_ GE530.out | refine below_set ?_ GE531.out) | exact HB.out))); (case side2 => exact ⟨by first | rfl | exact HT.out⟩); rintro e w99 ⟨rfl, hb⟩; refine ⟨_, rfl, ?_⟩; have n0_ := Aside0.mk (blk_below (g := gb529) (o := .cells #[.bool a0_0, .string a0_1, .int .i64 a0_2] 23 (0, 0)) (by (with_reducible repeat (first | refine blk_drewN ?_ _ | refine blk_drew ?_ | refine blk_alloc ?_ _)); exact BK529.out) hb); have n1_ := Aside0.mk (blk_below (g := gb530) (o := .cells #[.bool a1_0, .string a1_1, .int .i64 a1_2] 23 (0, 0)) (by (with_reducible repeat (first | refine blk_drewN ?_ _ | refine blk_drew ?_ | refine blk_alloc ?_ _)); exact BK530.out) hb); have n2_ := Aside0.mk (blk_below (g := gb531) (o := .cells #[.bool a2_0, .string a2_1, .int .i64 a2_2] 23 (0, 0)) (by (with_reducible repeat (first | refine blk_drewN ?_ _ | refine blk_drew ?_ | refine blk_alloc ?_ _)); exact BK531.out) hb); have n3_ := Aside0.mk (below_step (by repeat (first | (with_reducible first | exact HB.out | apply below_alloc | apply pw_below_drewN | apply below_drew1 | refine below_set ?_ GE529.out | refine below_set ?_ GE530.out | refine below_set ?_ GE531.out) | exact HB.out)) hb); clear BK529; clear BK530; clear BK531; clear HB; have BK529 := n0_; have BK530 := n1_; have BK531 := n2_; have HB := n3_; clear n0_ n1_ n2_ n3_; (try clear hb); (try clear hb2); (try clear hk); (try clear hi)))
        go_ret
        exact ⟨by first | rfl | (simp [errW_none, errW_some] <;> rfl) | (simp [*, errW_none, errW_some] <;> rfl), by repeat (first | (with_reducible first | exact HB.out | apply below_alloc | apply pw_below_drewN | apply below_drew1 | refine below_set ?_ GE529.out | refine below_set ?_ GE530.out | refine below_set ?_ GE531.out) | exact HB.out)⟩
      · replace c97 := Bool.eq_false_iff.mpr c97
        subst c97
        have H1 : ((figureheadlaw06_answers.f kj3).bind fun t537 => (if t537 = true then ((arith_Add.f a0_0 a0_1 a0_2 a1_0 a1_1 a1_2).bind fun bt538 => ((arith_Add.f a1_0 a1_1 a1_2 a0_0 a0_1 a0_2).bind fun bt541 => (if (bt538.1 == bt541.1 && (bt538.2.1.toList == bt541.2.1.toList && (bt538.2.2 == bt541.2.2))) = true then ((arith_Add.f a0_0 a0_1 a0_2 a1_0 a1_1 a1_2).bind fun bt544 => ((arith_Add.f bt544.1 bt544.2.1 bt544.2.2 a2_0 a2_1 a2_2).bind fun bt547 => ((arith_Add.f a1_0 a1_1 a1_2 a2_0 a2_1 a2_2).bind fun bt550 => ((arith_Add.f a0_0 a0_1 a0_2 bt550.1 bt550.2.1 bt550.2.2).bind fun bt553 => (if (bt547.1 == bt553.1 && (bt547.2.1.toList == bt553.2.1.toList && (bt547.2.2 == bt553.2.2))) = true then ((arith_Add.f a1_0 a1_1 a1_2 a2_0 a2_1 a2_2).bind fun bt556 => ((arith_Mul.f kj3 a0_0 a0_1 a0_2 bt556.1 bt556.2.1 bt556.2.2).bind fun bt559 => ((arith_Mul.f kj3 a0_0 a0_1 a0_2 a1_0 a1_1 a1_2).bind fun bt562 => ((arith_Mul.f kj3 a0_0 a0_1 a0_2 a2_0 a2_1 a2_2).bind fun bt565 => ((arith_Add.f bt562.1 bt562.2.1 bt562.2.2 bt565.1 bt565.2.1 bt565.2.2).bind fun bt568 => (if (bt559.1 == bt568.1 && (bt559.2.1.toList == bt568.2.1.toList && (bt559.2.2 == bt568.2.2))) = true then ((arith_Sub.f a0_0 a0_1 a0_2 a0_0 a0_1 a0_2).bind fun bt571 => (some (!bt571.1 && (bt571.2.1.toList == ([48] : List UInt8) && (bt571.2.2 == 0))))) else (some false))))))) else (some false)))))) else (some false)))) else (some false))) = some r := by rw [if_neg (show ¬ (false = true) by decide)] at H; exact H
        clear H
        have H := H1
        clear H1
        replace H := Option.bind_eq_some_iff.mp H
        obtain ⟨t537, A1000, H⟩ := H
        replace H : (if t537 = true then ((arith_Add.f a0_0 a0_1 a0_2 a1_0 a1_1 a1_2).bind fun bt538 => ((arith_Add.f a1_0 a1_1 a1_2 a0_0 a0_1 a0_2).bind fun bt541 => (if (bt538.1 == bt541.1 && (bt538.2.1.toList == bt541.2.1.toList && (bt538.2.2 == bt541.2.2))) = true then ((arith_Add.f a0_0 a0_1 a0_2 a1_0 a1_1 a1_2).bind fun bt544 => ((arith_Add.f bt544.1 bt544.2.1 bt544.2.2 a2_0 a2_1 a2_2).bind fun bt547 => ((arith_Add.f a1_0 a1_1 a1_2 a2_0 a2_1 a2_2).bind fun bt550 => ((arith_Add.f a0_0 a0_1 a0_2 bt550.1 bt550.2.1 bt550.2.2).bind fun bt553 => (if (bt547.1 == bt553.1 && (bt547.2.1.toList == bt553.2.1.toList && (bt547.2.2 == bt553.2.2))) = true then ((arith_Add.f a1_0 a1_1 a1_2 a2_0 a2_1 a2_2).bind fun bt556 => ((arith_Mul.f kj3 a0_0 a0_1 a0_2 bt556.1 bt556.2.1 bt556.2.2).bind fun bt559 => ((arith_Mul.f kj3 a0_0 a0_1 a0_2 a1_0 a1_1 a1_2).bind fun bt562 => ((arith_Mul.f kj3 a0_0 a0_1 a0_2 a2_0 a2_1 a2_2).bind fun bt565 => ((arith_Add.f bt562.1 bt562.2.1 bt562.2.2 bt565.1 bt565.2.1 bt565.2.2).bind fun bt568 => (if (bt559.1 == bt568.1 && (bt559.2.1.toList == bt568.2.1.toList && (bt559.2.2 == bt568.2.2))) = true then ((arith_Sub.f a0_0 a0_1 a0_2 a0_0 a0_1 a0_2).bind fun bt571 => (some (!bt571.1 && (bt571.2.1.toList == ([48] : List UInt8) && (bt571.2.2 == 0))))) else (some false))))))) else (some false)))))) else (some false)))) else (some false)) = some r := H
        have A100 := Aside0.mk A1000
        clear A1000
        by_cases c101 : t537 = true
        · subst c101
          have H1 : ((arith_Add.f a0_0 a0_1 a0_2 a1_0 a1_1 a1_2).bind fun bt538 => ((arith_Add.f a1_0 a1_1 a1_2 a0_0 a0_1 a0_2).bind fun bt541 => (if (bt538.1 == bt541.1 && (bt538.2.1.toList == bt541.2.1.toList && (bt538.2.2 == bt541.2.2))) = true then ((arith_Add.f a0_0 a0_1 a0_2 a1_0 a1_1 a1_2).bind fun bt544 => ((arith_Add.f bt544.1 bt544.2.1 bt544.2.2 a2_0 a2_1 a2_2).bind fun bt547 => ((arith_Add.f a1_0 a1_1 a1_2 a2_0 a2_1 a2_2).bind fun bt550 => ((arith_Add.f a0_0 a0_1 a0_2 bt550.1 bt550.2.1 bt550.2.2).bind fun bt553 => (if (bt547.1 == bt553.1 && (bt547.2.1.toList == bt553.2.1.toList && (bt547.2.2 == bt553.2.2))) = true then ((arith_Add.f a1_0 a1_1 a1_2 a2_0 a2_1 a2_2).bind fun bt556 => ((arith_Mul.f kj3 a0_0 a0_1 a0_2 bt556.1 bt556.2.1 bt556.2.2).bind fun bt559 => ((arith_Mul.f kj3 a0_0 a0_1 a0_2 a1_0 a1_1 a1_2).bind fun bt562 => ((arith_Mul.f kj3 a0_0 a0_1 a0_2 a2_0 a2_1 a2_2).bind fun bt565 => ((arith_Add.f bt562.1 bt562.2.1 bt562.2.2 bt565.1 bt565.2.1 bt565.2.2).bind fun bt568 => (if (bt559.1 == bt568.1 && (bt559.2.1.toList == bt568.2.1.toList && (bt559.2.2 == bt568.2.2))) = true then ((arith_Sub.f a0_0 a0_1 a0_2 a0_0 a0_1 a0_2).bind fun bt571 => (some (!bt571.1 && (bt571.2.1.toList == ([48] : List UInt8) && (bt571.2.2 == 0))))) else (some false))))))) else (some false)))))) else (some false)))) = some r := by rw [if_pos rfl] at H; exact H
          clear H
          have H := H1
          clear H1
          replace H := Option.bind_eq_some_iff.mp H
          obtain ⟨⟨t538, t539, t540⟩, A1020, H⟩ := H
          replace H : ((arith_Add.f a1_0 a1_1 a1_2 a0_0 a0_1 a0_2).bind fun bt541 => (if (t538 == bt541.1 && (t539.toList == bt541.2.1.toList && (t540 == bt541.2.2))) = true then ((arith_Add.f a0_0 a0_1 a0_2 a1_0 a1_1 a1_2).bind fun bt544 => ((arith_Add.f bt544.1 bt544.2.1 bt544.2.2 a2_0 a2_1 a2_2).bind fun bt547 => ((arith_Add.f a1_0 a1_1 a1_2 a2_0 a2_1 a2_2).bind fun bt550 => ((arith_Add.f a0_0 a0_1 a0_2 bt550.1 bt550.2.1 bt550.2.2).bind fun bt553 => (if (bt547.1 == bt553.1 && (bt547.2.1.toList == bt553.2.1.toList && (bt547.2.2 == bt553.2.2))) = true then ((arith_Add.f a1_0 a1_1 a1_2 a2_0 a2_1 a2_2).bind fun bt556 => ((arith_Mul.f kj3 a0_0 a0_1 a0_2 bt556.1 bt556.2.1 bt556.2.2).bind fun bt559 => ((arith_Mul.f kj3 a0_0 a0_1 a0_2 a1_0 a1_1 a1_2).bind fun bt562 => ((arith_Mul.f kj3 a0_0 a0_1 a0_2 a2_0 a2_1 a2_2).bind fun bt565 => ((arith_Add.f bt562.1 bt562.2.1 bt562.2.2 bt565.1 bt565.2.1 bt565.2.2).bind fun bt568 => (if (bt559.1 == bt568.1 && (bt559.2.1.toList == bt568.2.1.toList && (bt559.2.2 == bt568.2.2))) = true then ((arith_Sub.f a0_0 a0_1 a0_2 a0_0 a0_1 a0_2).bind fun bt571 => (some (!bt571.1 && (bt571.2.1.toList == ([48] : List UInt8) && (bt571.2.2 == 0))))) else (some false))))))) else (some false)))))) else (some false))) = some r := H
          have A102 := Aside0.mk A1020
          clear A1020
          replace H := Option.bind_eq_some_iff.mp H
          obtain ⟨⟨t541, t542, t543⟩, A1030, H⟩ := H
          replace H : (if (t538 == t541 && (t539.toList == t542.toList && (t540 == t543))) = true then ((arith_Add.f a0_0 a0_1 a0_2 a1_0 a1_1 a1_2).bind fun bt544 => ((arith_Add.f bt544.1 bt544.2.1 bt544.2.2 a2_0 a2_1 a2_2).bind fun bt547 => ((arith_Add.f a1_0 a1_1 a1_2 a2_0 a2_1 a2_2).bind fun bt550 => ((arith_Add.f a0_0 a0_1 a0_2 bt550.1 bt550.2.1 bt550.2.2).bind fun bt553 => (if (bt547.1 == bt553.1 && (bt547.2.1.toList == bt553.2.1.toList && (bt547.2.2 == bt553.2.2))) = true then ((arith_Add.f a1_0 a1_1 a1_2 a2_0 a2_1 a2_2).bind fun bt556 => ((arith_Mul.f kj3 a0_0 a0_1 a0_2 bt556.1 bt556.2.1 bt556.2.2).bind fun bt559 => ((arith_Mul.f kj3 a0_0 a0_1 a0_2 a1_0 a1_1 a1_2).bind fun bt562 => ((arith_Mul.f kj3 a0_0 a0_1 a0_2 a2_0 a2_1 a2_2).bind fun bt565 => ((arith_Add.f bt562.1 bt562.2.1 bt562.2.2 bt565.1 bt565.2.1 bt565.2.2).bind fun bt568 => (if (bt559.1 == bt568.1 && (bt559.2.1.toList == bt568.2.1.toList && (bt559.2.2 == bt568.2.2))) = true then ((arith_Sub.f a0_0 a0_1 a0_2 a0_0 a0_1 a0_2).bind fun bt571 => (some (!bt571.1 && (bt571.2.1.toList == ([48] : List UInt8) && (bt571.2.2 == 0))))) else (some false))))))) else (some false)))))) else (some false)) = some r := H
          have A103 := Aside0.mk A1030
          clear A1030
          by_cases c104 : (t538 == t541 && (t539.toList == t542.toList && (t540 == t543))) = true
          · rw [if_pos c104] at H
            have c104b0 : (t538 == t541 && (t539.toList == t542.toList && (t540 == t543))) = true := c104
            (try (have c104b1 : decide (t538 = t541 && (t539.toList == t542.toList && (t540 == t543))) = true := by simpa using c104))
            (try (have c104b2 : (t538 == t541 && (t539.toList == t542.toList && (t540 == t543))) = true := by simpa using c104))
            clear c104
            replace H := Option.bind_eq_some_iff.mp H
            obtain ⟨⟨t544, t545, t546⟩, A1050, H⟩ := H
            replace H : ((arith_Add.f t544 t545 t546 a2_0 a2_1 a2_2).bind fun bt547 => ((arith_Add.f a1_0 a1_1 a1_2 a2_0 a2_1 a2_2).bind fun bt550 => ((arith_Add.f a0_0 a0_1 a0_2 bt550.1 bt550.2.1 bt550.2.2).bind fun bt553 => (if (bt547.1 == bt553.1 && (bt547.2.1.toList == bt553.2.1.toList && (bt547.2.2 == bt553.2.2))) = true then ((arith_Add.f a1_0 a1_1 a1_2 a2_0 a2_1 a2_2).bind fun bt556 => ((arith_Mul.f kj3 a0_0 a0_1 a0_2 bt556.1 bt556.2.1 bt556.2.2).bind fun bt559 => ((arith_Mul.f kj3 a0_0 a0_1 a0_2 a1_0 a1_1 a1_2).bind fun bt562 => ((arith_Mul.f kj3 a0_0 a0_1 a0_2 a2_0 a2_1 a2_2).bind fun bt565 => ((arith_Add.f bt562.1 bt562.2.1 bt562.2.2 bt565.1 bt565.2.1 bt565.2.2).bind fun bt568 => (if (bt559.1 == bt568.1 && (bt559.2.1.toList == bt568.2.1.toList && (bt559.2.2 == bt568.2.2))) = true then ((arith_Sub.f a0_0 a0_1 a0_2 a0_0 a0_1 a0_2).bind fun bt571 => (some (!bt571.1 && (bt571.2.1.toList == ([48] : List UInt8) && (bt571.2.2 == 0))))) else (some false))))))) else (some false))))) = some r := H
            have A105 := Aside0.mk A1050
            clear A1050
            replace H := Option.bind_eq_some_iff.mp H
            obtain ⟨⟨t547, t548, t549⟩, A1060, H⟩ := H
            replace H : ((arith_Add.f a1_0 a1_1 a1_2 a2_0 a2_1 a2_2).bind fun bt550 => ((arith_Add.f a0_0 a0_1 a0_2 bt550.1 bt550.2.1 bt550.2.2).bind fun bt553 => (if (t547 == bt553.1 && (t548.toList == bt553.2.1.toList && (t549 == bt553.2.2))) = true then ((arith_Add.f a1_0 a1_1 a1_2 a2_0 a2_1 a2_2).bind fun bt556 => ((arith_Mul.f kj3 a0_0 a0_1 a0_2 bt556.1 bt556.2.1 bt556.2.2).bind fun bt559 => ((arith_Mul.f kj3 a0_0 a0_1 a0_2 a1_0 a1_1 a1_2).bind fun bt562 => ((arith_Mul.f kj3 a0_0 a0_1 a0_2 a2_0 a2_1 a2_2).bind fun bt565 => ((arith_Add.f bt562.1 bt562.2.1 bt562.2.2 bt565.1 bt565.2.1 bt565.2.2).bind fun bt568 => (if (bt559.1 == bt568.1 && (bt559.2.1.toList == bt568.2.1.toList && (bt559.2.2 == bt568.2.2))) = true then ((arith_Sub.f a0_0 a0_1 a0_2 a0_0 a0_1 a0_2).bind fun bt571 => (some (!bt571.1 && (bt571.2.1.toList == ([48] : List UInt8) && (bt571.2.2 == 0))))) else (some false))))))) else (some false)))) = some r := H
            have A106 := Aside0.mk A1060
            clear A1060
            replace H := Option.bind_eq_some_iff.mp H
            obtain ⟨⟨t550, t551, t552⟩, A1070, H⟩ := H
            replace H : ((arith_Add.f a0_0 a0_1 a0_2 t550 t551 t552).bind fun bt553 => (if (t547 == bt553.1 && (t548.toList == bt553.2.1.toList && (t549 == bt553.2.2))) = true then ((arith_Add.f a1_0 a1_1 a1_2 a2_0 a2_1 a2_2).bind fun bt556 => ((arith_Mul.f kj3 a0_0 a0_1 a0_2 bt556.1 bt556.2.1 bt556.2.2).bind fun bt559 => ((arith_Mul.f kj3 a0_0 a0_1 a0_2 a1_0 a1_1 a1_2).bind fun bt562 => ((arith_Mul.f kj3 a0_0 a0_1 a0_2 a2_0 a2_1 a2_2).bind fun bt565 => ((arith_Add.f bt562.1 bt562.2.1 bt562.2.2 bt565.1 bt565.2.1 bt565.2.2).bind fun bt568 => (if (bt559.1 == bt568.1 && (bt559.2.1.toList == bt568.2.1.toList && (bt559.2.2 == bt568.2.2))) = true then ((arith_Sub.f a0_0 a0_1 a0_2 a0_0 a0_1 a0_2).bind fun bt571 => (some (!bt571.1 && (bt571.2.1.toList == ([48] : List UInt8) && (bt571.2.2 == 0))))) else (some false))))))) else (some false))) = some r := H
            have A107 := Aside0.mk A1070
            clear A1070
            replace H := Option.bind_eq_some_iff.mp H
            obtain ⟨⟨t553, t554, t555⟩, A1080, H⟩ := H
            replace H : (if (t547 == t553 && (t548.toList == t554.toList && (t549 == t555))) = true then ((arith_Add.f a1_0 a1_1 a1_2 a2_0 a2_1 a2_2).bind fun bt556 => ((arith_Mul.f kj3 a0_0 a0_1 a0_2 bt556.1 bt556.2.1 bt556.2.2).bind fun bt559 => ((arith_Mul.f kj3 a0_0 a0_1 a0_2 a1_0 a1_1 a1_2).bind fun bt562 => ((arith_Mul.f kj3 a0_0 a0_1 a0_2 a2_0 a2_1 a2_2).bind fun bt565 => ((arith_Add.f bt562.1 bt562.2.1 bt562.2.2 bt565.1 bt565.2.1 bt565.2.2).bind fun bt568 => (if (bt559.1 == bt568.1 && (bt559.2.1.toList == bt568.2.1.toList && (bt559.2.2 == bt568.2.2))) = true then ((arith_Sub.f a0_0 a0_1 a0_2 a0_0 a0_1 a0_2).bind fun bt571 => (some (!bt571.1 && (bt571.2.1.toList == ([48] : List UInt8) && (bt571.2.2 == 0))))) else (some false))))))) else (some false)) = some r := H
            have A108 := Aside0.mk A1080
            clear A1080
            by_cases c109 : (t547 == t553 && (t548.toList == t554.toList && (t549 == t555))) = true
            · rw [if_pos c109] at H
              have c109b0 : (t547 == t553 && (t548.toList == t554.toList && (t549 == t555))) = true := c109
              (try (have c109b1 : decide (t547 = t553 && (t548.toList == t554.toList && (t549 == t555))) = true := by simpa using c109))
              (try (have c109b2 : (t547 == t553 && (t548.toList == t554.toList && (t549 == t555))) = true := by simpa using c109))
              clear c109
              replace H := Option.bind_eq_some_iff.mp H
              obtain ⟨⟨t556, t557, t558⟩, A1100, H⟩ := H
              replace H : ((arith_Mul.f kj3 a0_0 a0_1 a0_2 t556 t557 t558).bind fun bt559 => ((arith_Mul.f kj3 a0_0 a0_1 a0_2 a1_0 a1_1 a1_2).bind fun bt562 => ((arith_Mul.f kj3 a0_0 a0_1 a0_2 a2_0 a2_1 a2_2).bind fun bt565 => ((arith_Add.f bt562.1 bt562.2.1 bt562.2.2 bt565.1 bt565.2.1 bt565.2.2).bind fun bt568 => (if (bt559.1 == bt568.1 && (bt559.2.1.toList == bt568.2.1.toList && (bt559.2.2 == bt568.2.2))) = true then ((arith_Sub.f a0_0 a0_1 a0_2 a0_0 a0_1 a0_2).bind fun bt571 => (some (!bt571.1 && (bt571.2.1.toList == ([48] : List UInt8) && (bt571.2.2 == 0))))) else (some false)))))) = some r := H
              have A110 := Aside0.mk A1100
              clear A1100
              replace H := Option.bind_eq_some_iff.mp H
              obtain ⟨⟨t559, t560, t561⟩, A1110, H⟩ := H
              replace H : ((arith_Mul.f kj3 a0_0 a0_1 a0_2 a1_0 a1_1 a1_2).bind fun bt562 => ((arith_Mul.f kj3 a0_0 a0_1 a0_2 a2_0 a2_1 a2_2).bind fun bt565 => ((arith_Add.f bt562.1 bt562.2.1 bt562.2.2 bt565.1 bt565.2.1 bt565.2.2).bind fun bt568 => (if (t559 == bt568.1 && (t560.toList == bt568.2.1.toList && (t561 == bt568.2.2))) = true then ((arith_Sub.f a0_0 a0_1 a0_2 a0_0 a0_1 a0_2).bind fun bt571 => (some (!bt571.1 && (bt571.2.1.toList == ([48] : List UInt8) && (bt571.2.2 == 0))))) else (some false))))) = some r := H
              have A111 := Aside0.mk A1110
              clear A1110
              replace H := Option.bind_eq_some_iff.mp H
              obtain ⟨⟨t562, t563, t564⟩, A1120, H⟩ := H
              replace H : ((arith_Mul.f kj3 a0_0 a0_1 a0_2 a2_0 a2_1 a2_2).bind fun bt565 => ((arith_Add.f t562 t563 t564 bt565.1 bt565.2.1 bt565.2.2).bind fun bt568 => (if (t559 == bt568.1 && (t560.toList == bt568.2.1.toList && (t561 == bt568.2.2))) = true then ((arith_Sub.f a0_0 a0_1 a0_2 a0_0 a0_1 a0_2).bind fun bt571 => (some (!bt571.1 && (bt571.2.1.toList == ([48] : List UInt8) && (bt571.2.2 == 0))))) else (some false)))) = some r := H
              have A112 := Aside0.mk A1120
              clear A1120
              replace H := Option.bind_eq_some_iff.mp H
              obtain ⟨⟨t565, t566, t567⟩, A1130, H⟩ := H
              replace H : ((arith_Add.f t562 t563 t564 t565 t566 t567).bind fun bt568 => (if (t559 == bt568.1 && (t560.toList == bt568.2.1.toList && (t561 == bt568.2.2))) = true then ((arith_Sub.f a0_0 a0_1 a0_2 a0_0 a0_1 a0_2).bind fun bt571 => (some (!bt571.1 && (bt571.2.1.toList == ([48] : List UInt8) && (bt571.2.2 == 0))))) else (some false))) = some r := H
              have A113 := Aside0.mk A1130
              clear A1130
              replace H := Option.bind_eq_some_iff.mp H
              obtain ⟨⟨t568, t569, t570⟩, A1140, H⟩ := H
              replace H : (if (t559 == t568 && (t560.toList == t569.toList && (t561 == t570))) = true then ((arith_Sub.f a0_0 a0_1 a0_2 a0_0 a0_1 a0_2).bind fun bt571 => (some (!bt571.1 && (bt571.2.1.toList == ([48] : List UInt8) && (bt571.2.2 == 0))))) else (some false)) = some r := H
              have A114 := Aside0.mk A1140
              clear A1140
              by_cases c115 : (t559 == t568 && (t560.toList == t569.toList && (t561 == t570))) = true
              · rw [if_pos c115] at H
                have c115b0 : (t559 == t568 && (t560.toList == t569.toList && (t561 == t570))) = true := c115
                (try (have c115b1 : decide (t559 = t568 && (t560.toList == t569.toList && (t561 == t570))) = true := by simpa using c115))
                (try (have c115b2 : (t559 == t568 && (t560.toList == t569.toList && (t561 == t570))) = true := by simpa using c115))
                clear c115
                replace H := Option.bind_eq_some_iff.mp H
                obtain ⟨⟨t571, t572, t573⟩, A1160, H⟩ := H
                replace H : (some (!t571 && (t572.toList == ([48] : List UInt8) && (t573 == 0)))) = some r := H
                have A116 := Aside0.mk A1160
                clear A1160
                obtain rfl := Option.some.inj H
                try go_wp2
                have n0_ := Aside0.mk (blk_drew BK529.out)
                have n1_ := Aside0.mk (blk_drew BK530.out)
                have n2_ := Aside0.mk (blk_drew BK531.out)
                have n3_ := Aside0.mk (below_drew1 HB.out)
                clear BK529
                clear BK530
                clear BK531
                clear HB
                have BK529 := n0_
                have BK530 := n1_
                have BK531 := n2_
                have HB := n3_
                clear n0_ n1_ n2_ n3_
                refine start_ (n := 46) (S := fun w' => w'.cell? ⟨gb529, 0, none⟩ = some (.bool a0_0) ∧ w'.cell? ⟨gb529, 1, none⟩ = some (.string a0_1) ∧ w'.cell? ⟨gb529, 2, none⟩ = some (.int .i64 a0_2) ∧ w'.cell? ⟨gb530, 0, none⟩ = some (.bool a1_0) ∧ w'.cell? ⟨gb530, 1, none⟩ = some (.string a1_1) ∧ w'.cell? ⟨gb530, 2, none⟩ = some (.int .i64 a1_2) ∧ w'.cell? ⟨gb531, 0, none⟩ = some (.bool a2_0) ∧ w'.cell? ⟨gb531, 1, none⟩ = some (.string a2_1) ∧ w'.cell? ⟨gb531, 2, none⟩ = some (.int .i64 a2_2)) (ds := []) #[false, false, false, false, false, false, false, false, false, false, false, false, false, false, false, false, false, false, false, false, false, false, false, false, false, false, false, false, false, false, false, false, false, false, false, false, false, false, false, false, false, false, false, false, false, false] (by kernel_rfl) rfl rfl ⟨(blk_cell BK529.out 0).trans rfl, (blk_cell BK529.out 1).trans rfl, (blk_cell BK529.out 2).trans rfl, (blk_cell BK530.out 0).trans rfl, (blk_cell BK530.out 1).trans rfl, (blk_cell BK530.out 2).trans rfl, (blk_cell BK531.out 0).trans rfl, (blk_cell BK531.out 1).trans rfl, (blk_cell BK531.out 2).trans rfl⟩ (fun hHeld => ?_); refine with_tabW figureheadlaw06_ArithLaws.tab3 figureheadlaw06_ArithLaws.bits3 (fun HT_ HW_ => ?_)
                generalize wc.drew = w117 at BK529 BK530 BK531 HB hHeld ⊢
                refine one_ (i := 0) (N := some 44) #[true, false, false, false, false, false, false, false, false, false, false, false, false, false, false, false, false, false, false, false, false, false, false, false, false, false, false, false, false, false, false, false, false, false, false, false, false, false, false, false, false, false, false, false, false, false] rfl rfl (one_of HT_.out (by kernel_rfl)) (by decide) (fun K hK => ?_)
                refine goes_ Tryd.func33 (by kernel_rfl) rfl #[] (by rfl) rfl rfl (by (try simp only [List.map_toArray]); (try simp only [List.map_cons]); (try simp only [List.map_nil]); first | done | rfl | (simp only [List.length_drop, List.length_take]; rfl)) ?_
                with_reducible refine (figureheadlaw06_answers.calls kj3  true _ ?side1 ?side2 A100.out).mono ?_
                (case side1 => exact Fig.Glob.below HG.out (by repeat (first | (with_reducible first | exact HB.out | apply below_alloc | apply pw_below_drewN | apply below_drew1 | refine below_set ?_ GE529.out | refine below_set ?_ GE530.out | refine below_set ?_ GE531.out) | exact HB.out)))
                (case side2 => exact ⟨by first | rfl | exact HT.out⟩)
                rintro e w118 ⟨rfl, hb⟩
                refine ⟨_, rfl, ?_⟩
                have n0_ := Aside0.mk (blk_below (g := gb529) (o := .cells #[.bool a0_0, .string a0_1, .int .i64 a0_2] 23 (0, 0)) (by (with_reducible repeat (first | refine blk_drewN ?_ _ | refine blk_drew ?_ | refine blk_alloc ?_ _)); exact BK529.out) hb)
                have n1_ := Aside0.mk (blk_below (g := gb530) (o := .cells #[.bool a1_0, .string a1_1, .int .i64 a1_2] 23 (0, 0)) (by (with_reducible repeat (first | refine blk_drewN ?_ _ | refine blk_drew ?_ | refine blk_alloc ?_ _)); exact BK530.out) hb)
                have n2_ := Aside0.mk (blk_below (g := gb531) (o := .cells #[.bool a2_0, .string a2_1, .int .i64 a2_2] 23 (0, 0)) (by (with_reducible repeat (first | refine blk_drewN ?_ _ | refine blk_drew ?_ | refine blk_alloc ?_ _)); exact BK531.out) hb)
                have n3_ := Aside0.mk (below_step (by repeat (first | (with_reducible first | exact HB.out | apply below_alloc | apply pw_below_drewN | apply below_drew1 | refine below_set ?_ GE529.out | refine below_set ?_ GE530.out | refine below_set ?_ GE531.out) | exact HB.out)) hb)
                clear BK529
                clear BK530
                clear BK531
                clear HB
                have BK529 := n0_
                have BK530 := n1_
                have BK531 := n2_
                have HB := n3_
                clear n0_ n1_ n2_ n3_
                (try clear hb)
                (try clear hb2)
                (try clear hk)
                (try clear hi)
                refine hK.out _ _ ⟨(blk_cell BK529.out 0).trans rfl, (blk_cell BK529.out 1).trans rfl, (blk_cell BK529.out 2).trans rfl, (blk_cell BK530.out 0).trans rfl, (blk_cell BK530.out 1).trans rfl, (blk_cell BK530.out 2).trans rfl, (blk_cell BK531.out 0).trans rfl, (blk_cell BK531.out 1).trans rfl, (blk_cell BK531.out 2).trans rfl⟩ (fun hHeld => ?_)
                clear hK K
                refine norm_ (a' := ?_) ?_ ?_
                rotate_left
                · show Act.put _ (some 44) _ = _
                  simp only [Act.put, List.setIfInBounds_toArray, List.set_cons_zero, List.set_cons_succ]; (try simp only [i64_w]); (try simp only [i32_w])
                  rfl
                refine pure_ (i := 1) (N := some 45) (v := ?_) (a' := ?_) #[true, true, false, false, false, false, false, false, false, false, false, false, false, false, false, false, false, false, false, false, false, false, false, false, false, false, false, false, false, false, false, false, false, false, false, false, false, false, false, false, false, false, false, false, false, false] rfl rfl (any_of HT_.out (by kernel_rfl)) (fun _ _ _ h => h) (Or.inl ⟨by rfl, ?_⟩) ?_ ?_
                rotate_left
                · intro w'
                  go_simp
                  with_reducible rfl
                rotate_left
                · simp only [Act.put, List.setIfInBounds_toArray, List.set_cons_zero, List.set_cons_succ]; (try simp only [i64_w]); (try simp only [i32_w])
                  rfl
                refine take_ (i := 2) (N := some 46) (v := ?_) (a' := ?_) #[true, true, true, false, false, false, false, false, false, false, false, false, false, false, false, false, false, false, false, false, false, false, false, false, false, false, false, false, false, false, false, false, false, false, false, false, false, false, false, false, false, false, false, false, false, false] rfl rfl (take_ofW HT_.out HW_.out (by kernel_rfl)) (fun _ _ _ h => h) (Or.inl ⟨by rfl, ?_⟩) hHeld ?_ ?_
                rotate_left
                · rintro w' ⟨s0, s1, s2, s3, s4, s5, s6, s7, s8⟩
                  go_simp
                  with_reducible rfl
                rotate_left
                · simp only [Act.put, List.setIfInBounds_toArray, List.set_cons_zero, List.set_cons_succ]; (try simp only [i64_w]); (try simp only [i32_w])
                  rfl
                refine take_ (i := 3) (N := some 47) (v := ?_) (a' := ?_) #[true, true, true, true, false, false, false, false, false, false, false, false, false, false, false, false, false, false, false, false, false, false, false, false, false, false, false, false, false, false, false, false, false, false, false, false, false, false, false, false, false, false, false, false, false, false] rfl rfl (take_ofW HT_.out HW_.out (by kernel_rfl)) (fun _ _ _ h => h) (Or.inl ⟨by rfl, ?_⟩) hHeld ?_ ?_
                rotate_left
                · rintro w' ⟨s0, s1, s2, s3, s4, s5, s6, s7, s8⟩
                  go_simp
                  with_reducible rfl
                rotate_left
                · simp only [Act.put, List.setIfInBounds_toArray, List.set_cons_zero, List.set_cons_succ]; (try simp only [i64_w]); (try simp only [i32_w])
                  rfl
                refine take_ (i := 5) (N := some 49) (v := ?_) (a' := ?_) #[true, true, true, true, false, true, false, false, false, false, false, false, false, false, false, false, false, false, false, false, false, false, false, false, false, false, false, false, false, false, false, false, false, false, false, false, false, false, false, false, false, false, false, false, false, false] rfl rfl (take_ofW HT_.out HW_.out (by kernel_rfl)) (fun _ _ _ h => h) (Or.inl ⟨by rfl, ?_⟩) hHeld ?_ ?_
                rotate_left
                · rintro w' ⟨s0, s1, s2, s3, s4, s5, s6, s7, s8⟩
                  go_simp
                  with_reducible rfl
                rotate_left
                · simp only [Act.put, List.setIfInBounds_toArray, List.set_cons_zero, List.set_cons_succ]; (try simp only [i64_w]); (try simp only [i32_w])
                  rfl
                refine take_ (i := 6) (N := some 50) (v := ?_) (a' := ?_) #[true, true, true, true, false, true, true, false, false, false, false, false, false, false, false, false, false, false, false, false, false, false, false, false, false, false, false, false, false, false, false, false, false, false, false, false, false, false, false, false, false, false, false, false, false, false] rfl rfl (take_ofW HT_.out HW_.out (by kernel_rfl)) (fun _ _ _ h => h) (Or.inl ⟨by rfl, ?_⟩) hHeld ?_ ?_
                rotate_left
                · rintro w' ⟨s0, s1, s2, s3, s4, s5, s6, s7, s8⟩
                  go_simp
                  with_reducible rfl
                rotate_left
                · simp only [Act.put, List.setIfInBounds_toArray, List.set_cons_zero, List.set_cons_succ]; (try simp only [i64_w]); (try simp only [i32_w])
                  rfl
                refine one_ (i := 4) (N := some 48) #[true, true, true, true, true, true, true, false, false, false, false, false, false, false, false, false, false, false, false, false, false, false, false, false, false, false, false, false, false, false, false, false, false, false, false, false, false, false, false, false, false, false, false, false, false, false] rfl rfl (one_of HT_.out (by kernel_rfl)) (by decide) (fun K hK => ?_)
                refine goes_ Tryd.func34 (by kernel_rfl) rfl #[.agg #[.bool a0_0, .string a0_1, .int .i64 a0_2], .agg #[.bool a1_0, .string a1_1, .int .i64 a1_2]] (by rfl) rfl rfl (by (try simp only [List.map_toArray]); (try simp only [List.map_cons]); (try simp only [List.map_nil]); first | done | rfl | (simp only [List.length_drop, List.length_take]; rfl)) ?_
                with_reducible refine (arith_Add.calls a0_0 a0_1 a0_2 a1_0 a1_1 a1_2 t538 t539 t540 _ ?side1 A102.out).mono ?_
                (case side1 => exact Fig.Glob.below HG.out (by repeat (first | (with_reducible first | exact HB.out | apply below_alloc | apply pw_below_drewN | apply below_drew1 | refine below_set ?_ GE529.out | refine below_set ?_ GE530.out | refine below_set ?_ GE531.out) | exact HB.out)))
                rintro e w119 ⟨rfl, hb⟩
                refine ⟨_, rfl, ?_⟩
                have n0_ := Aside0.mk (blk_below (g := gb529) (o := .cells #[.bool a0_0, .string a0_1, .int .i64 a0_2] 23 (0, 0)) (by (with_reducible repeat (first | refine blk_drewN ?_ _ | refine blk_drew ?_ | refine blk_alloc ?_ _)); exact BK529.out) hb)
                have n1_ := Aside0.mk (blk_below (g := gb530) (o := .cells #[.bool a1_0, .string a1_1, .int .i64 a1_2] 23 (0, 0)) (by (with_reducible repeat (first | refine blk_drewN ?_ _ | refine blk_drew ?_ | refine blk_alloc ?_ _)); exact BK530.out) hb)
                have n2_ := Aside0.mk (blk_below (g := gb531) (o := .cells #[.bool a2_0, .string a2_1, .int .i64 a2_2] 23 (0, 0)) (by (with_reducible repeat (first | refine blk_drewN ?_ _ | refine blk_drew ?_ | refine blk_alloc ?_ _)); exact BK531.out) hb)
                have n3_ := Aside0.mk (below_step (by repeat (first | (with_reducible first | exact HB.out | apply below_alloc | apply pw_below_drewN | apply below_drew1 | refine below_set ?_ GE529.out | refine below_set ?_ GE530.out | refine below_set ?_ GE531.out) | exact HB.out)) hb)
                clear BK529
                clear BK530
                clear BK531
                clear HB
                have BK529 := n0_
                have BK530 := n1_
                have BK531 := n2_
                have HB := n3_
                clear n0_ n1_ n2_ n3_
                (try clear hb)
                (try clear hb2)
                (try clear hk)
                (try clear hi)
                refine hK.out _ _ ⟨(blk_cell BK529.out 0).trans rfl, (blk_cell BK529.out 1).trans rfl, (blk_cell BK529.out 2).trans rfl, (blk_cell BK530.out 0).trans rfl, (blk_cell BK530.out 1).trans rfl, (blk_cell BK530.out 2).trans rfl, (blk_cell BK531.out 0).trans rfl, (blk_cell BK531.out 1).trans rfl, (blk_cell BK531.out 2).trans rfl⟩ (fun hHeld => ?_)
                clear hK K
                refine norm_ (a' := ?_) ?_ ?_
                rotate_left
                · show Act.put _ (some 48) _ = _
                  simp only [Act.put, List.setIfInBounds_toArray, List.set_cons_zero, List.set_cons_succ]; (try simp only [i64_w]); (try simp only [i32_w])
                  rfl
                refine one_ (i := 7) (N := some 51) #[true, true, true, true, true, true, true, true, false, false, false, false, false, false, false, false, false, false, false, false, false, false, false, false, false, false, false, false, false, false, false, false, false, false, false, false, false, false, false, false, false, false, false, false, false, false] rfl rfl (one_of HT_.out (by kernel_rfl)) (by decide) (fun K hK => ?_)
                refine goes_ Tryd.func34 (by kernel_rfl) rfl #[.agg #[.bool a1_0, .string a1_1, .int .i64 a1_2], .agg #[.bool a0_0, .string a0_1, .int .i64 a0_2]] (by rfl) rfl rfl (by (try simp only [List.map_toArray]); (try simp only [List.map_cons]); (try simp only [List.map_nil]); first | done | rfl | (simp only [List.length_drop, List.length_take]; rfl)) ?_
                with_reducible refine (arith_Add.calls a1_0 a1_1 a1_2 a0_0 a0_1 a0_2 t541 t542 t543 _ ?side1 A103.out).mono ?_
                (case side1 => exact Fig.Glob.below HG.out (by repeat (first | (with_reducible first | exact HB.out | apply below_alloc | apply pw_below_drewN | apply below_drew1 | refine below_set ?_ GE529.out | refine below_set ?_ GE530.out | refine below_set ?_ GE531.out) | exact HB.out)))
                rintro e w120 ⟨rfl, hb⟩
                refine ⟨_, rfl, ?_⟩
                have n0_ := Aside0.mk (blk_below (g := gb529) (o := .cells #[.bool a0_0, .string a0_1, .int .i64 a0_2] 23 (0, 0)) (by (with_reducible repeat (first | refine blk_drewN ?_ _ | refine blk_drew ?_ | refine blk_alloc ?_ _)); exact BK529.out) hb)
                have n1_ := Aside0.mk (blk_below (g := gb530) (o := .cells #[.bool a1_0, .string a1_1, .int .i64 a1_2] 23 (0, 0)) (by (with_reducible repeat (first | refine blk_drewN ?_ _ | refine blk_drew ?_ | refine blk_alloc ?_ _)); exact BK530.out) hb)
                have n2_ := Aside0.mk (blk_below (g := gb531) (o := .cells #[.bool a2_0, .string a2_1, .int .i64 a2_2] 23 (0, 0)) (by (with_reducible repeat (first | refine blk_drewN ?_ _ | refine blk_drew ?_ | refine blk_alloc ?_ _)); exact BK531.out) hb)
                have n3_ := Aside0.mk (below_step (by repeat (first | (with_reducible first | exact HB.out | apply below_alloc | apply pw_below_drewN | apply below_drew1 | refine below_set ?_ GE529.out | refine below_set ?_ GE530.out | refine below_set ?_ GE531.out) | exact HB.out)) hb)
                clear BK529
                clear BK530
                clear BK531
                clear HB
                have BK529 := n0_
                have BK530 := n1_
                have BK531 := n2_
                have HB := n3_
                clear n0_ n1_ n2_ n3_
                (try clear hb)
                (try clear hb2)
                (try clear hk)
                (try clear hi)
                refine hK.out _ _ ⟨(blk_cell BK529.out 0).trans rfl, (blk_cell BK529.out 1).trans rfl, (blk_cell BK529.out 2).trans rfl, (blk_cell BK530.out 0).trans rfl, (blk_cell BK530.out 1).trans rfl, (blk_cell BK530.out 2).trans rfl, (blk_cell BK531.out 0).trans rfl, (blk_cell BK531.out 1).trans rfl, (blk_cell BK531.out 2).trans rfl⟩ (fun hHeld => ?_)
                clear hK K
                refine norm_ (a' := ?_) ?_ ?_
                rotate_left
                · show Act.put _ (some 51) _ = _
                  simp only [Act.put, List.setIfInBounds_toArray, List.set_cons_zero, List.set_cons_succ]; (try simp only [i64_w]); (try simp only [i32_w])
                  rfl
                refine pure_ (i := 8) (N := some 52) (v := ?_) (a' := ?_) #[true, true, true, true, true, true, true, true, true, false, false, false, false, false, false, false, false, false, false, false, false, false, false, false, false, false, false, false, false, false, false, false, false, false, false, false, false, false, false, false, false, false, false, false, false, false] rfl rfl (any_of HT_.out (by kernel_rfl)) (fun _ _ _ h => h) (Or.inl ⟨by rfl, ?_⟩) ?_ ?_
                rotate_left
                · intro w'
                  go_simp
                  with_reducible rfl
                rotate_left
                · simp only [Act.put, List.setIfInBounds_toArray, List.set_cons_zero, List.set_cons_succ]; (try simp only [i64_w]); (try simp only [i32_w])
                  rfl
                refine pure_ (i := 9) (N := some 53) (v := ?_) (a' := ?_) #[true, true, true, true, true, true, true, true, true, true, false, false, false, false, false, false, false, false, false, false, false, false, false, false, false, false, false, false, false, false, false, false, false, false, false, false, false, false, false, false, false, false, false, false, false, false] rfl rfl (any_of HT_.out (by kernel_rfl)) (fun _ _ _ h => h) (Or.inl ⟨by rfl, ?_⟩) ?_ ?_
                rotate_left
                · intro w'
                  go_simp
                  with_reducible rfl
                rotate_left
                · simp only [Act.put, List.setIfInBounds_toArray, List.set_cons_zero, List.set_cons_succ]; (try simp only [i64_w]); (try simp only [i32_w])
                  rfl
                refine pure_ (i := 10) (N := some 54) (v := ?_) (a' := ?_) #[true, true, true, true, true, true, true, true, true, true, true, false, false, false, false, false, false, false, false, false, false, false, false, false, false, false, false, false, false, false, false, false, false, false, false, false, false, false, false, false, false, false, false, false, false, false] rfl rfl (any_of HT_.out (by kernel_rfl)) (fun _ _ _ h => h) (Or.inl ⟨by rfl, ?_⟩) ?_ ?_
                rotate_left
                · intro w'
                  go_simp
                  with_reducible rfl
                rotate_left
                · simp only [Act.put, List.setIfInBounds_toArray, List.set_cons_zero, List.set_cons_succ]; (try simp only [i64_w]); (try simp only [i32_w])
                  rfl
                refine take_ (i := 11) (N := some 55) (v := ?_) (a' := ?_) #[true, true, true, true, true, true, true, true, true, true, true, true, false, false, false, false, false, false, false, false, false, false, false, false, false, false, false, false, false, false, false, false, false, false, false, false, false, false, false, false, false, false, false, false, false, false] rfl rfl (take_ofW HT_.out HW_.out (by kernel_rfl)) (fun _ _ _ h => h) (Or.inl ⟨by rfl, ?_⟩) hHeld ?_ ?_
                rotate_left
                · rintro w' ⟨s0, s1, s2, s3, s4, s5, s6, s7, s8⟩
                  go_simp
                  with_reducible rfl
                rotate_left
                · simp only [Act.put, List.setIfInBounds_toArray, List.set_cons_zero, List.set_cons_succ]; (try simp only [i64_w]); (try simp only [i32_w])
                  rfl
                refine take_ (i := 12) (N := some 56) (v := ?_) (a' := ?_) #[true, true, true, true, true, true, true, true, true, true, true, true, true, false, false, false, false, false, false, false, false, false, false, false, false, false, false, false, false, false, false, false, false, false, false, false, false, false, false, false, false, false, false, false, false, false] rfl rfl (take_ofW HT_.out HW_.out (by kernel_rfl)) (fun _ _ _ h => h) (Or.inl ⟨by rfl, ?_⟩) hHeld ?_ ?_
                rotate_left
                · rintro w' ⟨s0, s1, s2, s3, s4, s5, s6, s7, s8⟩
                  go_simp
                  with_reducible rfl
                rotate_left
                · simp only [Act.put, List.setIfInBounds_toArray, List.set_cons_zero, List.set_cons_succ]; (try simp only [i64_w]); (try simp only [i32_w])
                  rfl
                refine take_ (i := 14) (N := some 58) (v := ?_) (a' := ?_) #[true, true, true, true, true, true, true, true, true, true, true, true, true, false, true, false, false, false, false, false, false, false, false, false, false, false, false, false, false, false, false, false, false, false, false, false, false, false, false, false, false, false, false, false, false, false] rfl rfl (take_ofW HT_.out HW_.out (by kernel_rfl)) (fun _ _ _ h => h) (Or.inl ⟨by rfl, ?_⟩) hHeld ?_ ?_
                rotate_left
                · rintro w' ⟨s0, s1, s2, s3, s4, s5, s6, s7, s8⟩
                  go_simp
                  with_reducible rfl
                rotate_left
                · simp only [Act.put, List.setIfInBounds_toArray, List.set_cons_zero, List.set_cons_succ]; (try simp only [i64_w]); (try simp only [i32_w])
                  rfl
                refine take_ (i := 16) (N := some 60) (v := ?_) (a' := ?_) #[true, true, true, true, true, true, true, true, true, true, true, true, true, false, true, false, true, false, false, false, false, false, false, false, false, false, false, false, false, false, false, false, false, false, false, false, false, false, false, false, false, false, false, false, false, false] rfl rfl (take_ofW HT_.out HW_.out (by kernel_rfl)) (fun _ _ _ h => h) (Or.inl ⟨by rfl, ?_⟩) hHeld ?_ ?_
                rotate_left
                · rintro w' ⟨s0, s1, s2, s3, s4, s5, s6, s7, s8⟩
                  go_simp
                  with_reducible rfl
                rotate_left
                · simp only [Act.put, List.setIfInBounds_toArray, List.set_cons_zero, List.set_cons_succ]; (try simp only [i64_w]); (try simp only [i32_w])
                  rfl
                refine take_ (i := 17) (N := some 61) (v := ?_) (a' := ?_) #[true, true, true, true, true, true, true, true, true, true, true, true, true, false, true, false, true, true, false, false, false, false, false, false, false, false, false, false, false, false, false, false, false, false, false, false, false, false, false, false, false, false, false, false, false, false] rfl rfl (take_ofW HT_.out HW_.out (by kernel_rfl)) (fun _ _ _ h => h) (Or.inl ⟨by rfl, ?_⟩) hHeld ?_ ?_
                rotate_left
                · rintro w' ⟨s0, s1, s2, s3, s4, s5, s6, s7, s8⟩
                  go_simp
                  with_reducible rfl
                rotate_left
                · simp only [Act.put, List.setIfInBounds_toArray, List.set_cons_zero, List.set_cons_succ]; (try simp only [i64_w]); (try simp only [i32_w])
                  rfl
                refine take_ (i := 18) (N := some 62) (v := ?_) (a' := ?_) #[true, true, true, true, true, true, true, true, true, true, true, true, true, false, true, false, true, true, true, false, false, false, false, false, false, false, false, false, false, false, false, false, false, false, false, false, false, false, false, false, false, false, false, false, false, false] rfl rfl (take_ofW HT_.out HW_.out (by kernel_rfl)) (fun _ _ _ h => h) (Or.inl ⟨by rfl, ?_⟩) hHeld ?_ ?_
                rotate_left
                · rintro w' ⟨s0, s1, s2, s3, s4, s5, s6, s7, s8⟩
                  go_simp
                  with_reducible rfl
                rotate_left
                · simp only [Act.put, List.setIfInBounds_toArray, List.set_cons_zero, List.set_cons_succ]; (try simp only [i64_w]); (try simp only [i32_w])
                  rfl
                refine one_ (i := 13) (N := some 57) #[true, true, true, true, true, true, true, true, true, true, true, true, true, true, true, false, true, true, true, false, false, false, false, false, false, false, false, false, false, false, false, false, false, false, false, false, false, false, false, false, false, false, false, false, false, false] rfl rfl (one_of HT_.out (by kernel_rfl)) (by decide) (fun K hK => ?_)
                refine goes_ Tryd.func34 (by kernel_rfl) rfl #[.agg #[.bool a0_0, .string a0_1, .int .i64 a0_2], .agg #[.bool a1_0, .string a1_1, .int .i64 a1_2]] (by rfl) rfl rfl (by (try simp only [List.map_toArray]); (try simp only [List.map_cons]); (try simp only [List.map_nil]); first | done | rfl | (simp only [List.length_drop, List.length_take]; rfl)) ?_
                with_reducible refine (arith_Add.calls a0_0 a0_1 a0_2 a1_0 a1_1 a1_2 t544 t545 t546 _ ?side1 A105.out).mono ?_
                (case side1 => exact Fig.Glob.below HG.out (by repeat (first | (with_reducible first | exact HB.out | apply below_alloc | apply pw_below_drewN | apply below_drew1 | refine below_set ?_ GE529.out | refine below_set ?_ GE530.out | refine below_set ?_ GE531.out) | exact HB.out)))
                rintro e w121 ⟨rfl, hb⟩
                refine ⟨_, rfl, ?_⟩
                have n0_ := Aside0.mk (blk_below (g := gb529) (o := .cells #[.bool a0_0, .string a0_1, .int .i64 a0_2] 23 (0, 0)) (by (with_reducible repeat (first | refine blk_drewN ?_ _ | refine blk_drew ?_ | refine blk_alloc ?_ _)); exact BK529.out) hb)
                have n1_ := Aside0.mk (blk_below (g := gb530) (o := .cells #[.bool a1_0, .string a1_1, .int .i64 a1_2] 23 (0, 0)) (by (with_reducible repeat (first | refine blk_drewN ?_ _ | refine blk_drew ?_ | refine blk_alloc ?_ _)); exact BK530.out) hb)
                have n2_ := Aside0.mk (blk_below (g := gb531) (o := .cells #[.bool a2_0, .string a2_1, .int .i64 a2_2] 23 (0, 0)) (by (with_reducible repeat (first | refine blk_drewN ?_ _ | refine blk_drew ?_ | refine blk_alloc ?_ _)); exact BK531.out) hb)
                have n3_ := Aside0.mk (below_step (by repeat (first | (with_reducible first | exact HB.out | apply below_alloc | apply pw_below_drewN | apply below_drew1 | refine below_set ?_ GE529.out | refine below_set ?_ GE530.out | refine below_set ?_ GE531.out) | exact HB.out)) hb)
                clear BK529
                clear BK530
                clear BK531
                clear HB
                have BK529 := n0_
                have BK530 := n1_
                have BK531 := n2_
                have HB := n3_
                clear n0_ n1_ n2_ n3_
                (try clear hb)
                (try clear hb2)
                (try clear hk)
                (try clear hi)
                refine hK.out _ _ ⟨(blk_cell BK529.out 0).trans rfl, (blk_cell BK529.out 1).trans rfl, (blk_cell BK529.out 2).trans rfl, (blk_cell BK530.out 0).trans rfl, (blk_cell BK530.out 1).trans rfl, (blk_cell BK530.out 2).trans rfl, (blk_cell BK531.out 0).trans rfl, (blk_cell BK531.out 1).trans rfl, (blk_cell BK531.out 2).trans rfl⟩ (fun hHeld => ?_)
                clear hK K
                refine norm_ (a' := ?_) ?_ ?_
                rotate_left
                · show Act.put _ (some 57) _ = _
                  simp only [Act.put, List.setIfInBounds_toArray, List.set_cons_zero, List.set_cons_succ]; (try simp only [i64_w]); (try simp only [i32_w])
                  rfl
                refine one_ (i := 15) (N := some 59) #[true, true, true, true, true, true, true, true, true, true, true, true, true, true, true, true, true, true, true, false, false, false, false, false, false, false, false, false, false, false, false, false, false, false, false, false, false, false, false, false, false, false, false, false, false, false] rfl rfl (one_of HT_.out (by kernel_rfl)) (by decide) (fun K hK => ?_)
                refine goes_ Tryd.func34 (by kernel_rfl) rfl #[.agg #[.bool t544, .string t545, .int .i64 t546], .agg #[.bool a2_0, .string a2_1, .int .i64 a2_2]] (by rfl) rfl rfl (by (try simp only [List.map_toArray]); (try simp only [List.map_cons]); (try simp only [List.map_nil]); first | done | rfl | (simp only [List.length_drop, List.length_take]; rfl)) ?_
                with_reducible refine (arith_Add.calls t544 t545 t546 a2_0 a2_1 a2_2 t547 t548 t549 _ ?side1 A106.out).mono ?_
                (case side1 => exact Fig.Glob.below HG.out (by repeat (first | (with_reducible first | exact HB.out | apply below_alloc | apply pw_below_drewN | apply below_drew1 | refine below_set ?_ GE529.out | refine below_set ?_ GE530.out | refine below_set ?_ GE531.out) | exact HB.out)))
                rintro e w122 ⟨rfl, hb⟩
                refine ⟨_, rfl, ?_⟩
                have n0_ := Aside0.mk (blk_below (g := gb529) (o := .cells #[.bool a0_0, .string a0_1, .int .i64 a0_2] 23 (0, 0)) (by (with_reducible repeat (first | refine blk_drewN ?_ _ | refine blk_drew ?_ | refine blk_alloc ?_ _)); exact BK529.out) hb)
                have n1_ := Aside0.mk (blk_below (g := gb530) (o := .cells #[.bool a1_0, .string a1_1, .int .i64 a1_2] 23 (0, 0)) (by (with_reducible repeat (first | refine blk_drewN ?_ _ | refine blk_drew ?_ | refine blk_alloc ?_ _)); exact BK530.out) hb)
                have n2_ := Aside0.mk (blk_below (g := gb531) (o := .cells #[.bool a2_0, .string a2_1, .int .i64 a2_2] 23 (0, 0)) (by (with_reducible repeat (first | refine blk_drewN ?_ _ | refine blk_drew ?_ | refine blk_alloc ?_ _)); exact BK531.out) hb)
                have n3_ := Aside0.mk (below_step (by repeat (first | (with_reducible first | exact HB.out | apply below_alloc | apply pw_below_drewN | apply below_drew1 | refine below_set ?_ GE529.out | refine below_set ?_ GE530.out | refine below_set ?_ GE531.out) | exact HB.out)) hb)
                clear BK529
                clear BK530
                clear BK531
                clear HB
                have BK529 := n0_
                have BK530 := n1_
                have BK531 := n2_
                have HB := n3_
                clear n0_ n1_ n2_ n3_
                (try clear hb)
                (try clear hb2)
                (try clear hk)
                (try clear hi)
                refine hK.out _ _ ⟨(blk_cell BK529.out 0).trans rfl, (blk_cell BK529.out 1).trans rfl, (blk_cell BK529.out 2).trans rfl, (blk_cell BK530.out 0).trans rfl, (blk_cell BK530.out 1).trans rfl, (blk_cell BK530.out 2).trans rfl, (blk_cell BK531.out 0).trans rfl, (blk_cell BK531.out 1).trans rfl, (blk_cell BK531.out 2).trans rfl⟩ (fun hHeld => ?_)
                clear hK K
                refine norm_ (a' := ?_) ?_ ?_
                rotate_left
                · show Act.put _ (some 59) _ = _
                  simp only [Act.put, List.setIfInBounds_toArray, List.set_cons_zero, List.set_cons_succ]; (try simp only [i64_w]); (try simp only [i32_w])
                  rfl
                refine one_ (i := 19) (N := some 63) #[true, true, true, true, true, true, true, true, true, true, true, true, true, true, true, true, true, true, true, true, false, false, false, false, false, false, false, false, false, false, false, false, false, false, false, false, false, false, false, false, false, false, false, false, false, false] rfl rfl (one_of HT_.out (by kernel_rfl)) (by decide) (fun K hK => ?_)
                refine goes_ Tryd.func34 (by kernel_rfl) rfl #[.agg #[.bool a1_0, .string a1_1, .int .i64 a1_2], .agg #[.bool a2_0, .string a2_1, .int .i64 a2_2]] (by rfl) rfl rfl (by (try simp only [List.map_toArray]); (try simp only [List.map_cons]); (try simp only [List.map_nil]); first | done | rfl | (simp only [List.length_drop, List.length_take]; rfl)) ?_
                with_reducible refine (arith_Add.calls a1_0 a1_1 a1_2 a2_0 a2_1 a2_2 t550 t551 t552 _ ?side1 A107.out).mono ?_
                (case side1 => exact Fig.Glob.below HG.out (by repeat (first | (with_reducible first | exact HB.out | apply below_alloc | apply pw_below_drewN | apply below_drew1 | refine below_set ?_ GE529.out | refine below_set ?_ GE530.out | refine below_set ?_ GE531.out) | exact HB.out)))
                rintro e w123 ⟨rfl, hb⟩
                refine ⟨_, rfl, ?_⟩
                have n0_ := Aside0.mk (blk_below (g := gb529) (o := .cells #[.bool a0_0, .string a0_1, .int .i64 a0_2] 23 (0, 0)) (by (with_reducible repeat (first | refine blk_drewN ?_ _ | refine blk_drew ?_ | refine blk_alloc ?_ _)); exact BK529.out) hb)
                have n1_ := Aside0.mk (blk_below (g := gb530) (o := .cells #[.bool a1_0, .string a1_1, .int .i64 a1_2] 23 (0, 0)) (by (with_reducible repeat (first | refine blk_drewN ?_ _ | refine blk_drew ?_ | refine blk_alloc ?_ _)); exact BK530.out) hb)
                have n2_ := Aside0.mk (blk_below (g := gb531) (o := .cells #[.bool a2_0, .string a2_1, .int .i64 a2_2] 23 (0, 0)) (by (with_reducible repeat (first | refine blk_drewN ?_ _ | refine blk_drew ?_ | refine blk_alloc ?_ _)); exact BK531.out) hb)
                have n3_ := Aside0.mk (below_step (by repeat (first | (with_reducible first | exact HB.out | apply below_alloc | apply pw_below_drewN | apply below_drew1 | refine below_set ?_ GE529.out | refine below_set ?_ GE530.out | refine below_set ?_ GE531.out) | exact HB.out)) hb)
                clear BK529
                clear BK530
                clear BK531
                clear HB
                have BK529 := n0_
                have BK530 := n1_
                have BK531 := n2_
                have HB := n3_
                clear n0_ n1_ n2_ n3_
                (try clear hb)
                (try clear hb2)
                (try clear hk)
                (try clear hi)
                refine hK.out _ _ ⟨(blk_cell BK529.out 0).trans rfl, (blk_cell BK529.out 1).trans rfl, (blk_cell BK529.out 2).trans rfl, (blk_cell BK530.out 0).trans rfl, (blk_cell BK530.out 1).trans rfl, (blk_cell BK530.out 2).trans rfl, (blk_cell BK531.out 0).trans rfl, (blk_cell BK531.out 1).trans rfl, (blk_cell BK531.out 2).trans rfl⟩ (fun hHeld => ?_)
                clear hK K
                refine norm_ (a' := ?_) ?_ ?_
                rotate_left
                · show Act.put _ (some 63) _ = _
                  simp only [Act.put, List.setIfInBounds_toArray, List.set_cons_zero, List.set_cons_succ]; (try simp only [i64_w]); (try simp only [i32_w])
                  rfl
                refine one_ (i := 20) (N := some 64) #[true, true, true, true, true, true, true, true, true, true, true, true, true, true, true, true, true, true, true, true, true, false, false, false, false, false, false, false, false, false, false, false, false, false, false, false, false, false, false, false, false, false, false, false, false, false] rfl rfl (one_of HT_.out (by kernel_rfl)) (by decide) (fun K hK => ?_)
                refine goes_ Tryd.func34 (by kernel_rfl) rfl #[.agg #[.bool a0_0, .string a0_1, .int .i64 a0_2], .agg #[.bool t550, .string t551, .int .i64 t552]] (by rfl) rfl rfl (by (try simp only [List.map_toArray]); (try simp only [List.map_cons]); (try simp only [List.map_nil]); first | done | rfl | (simp only [List.length_drop, List.length_take]; rfl)) ?_
                with_reducible refine (arith_Add.calls a0_0 a0_1 a0_2 t550 t551 t552 t553 t554 t555 _ ?side1 A108.out).mono ?_
                (case side1 => exact Fig.Glob.below HG.out (by repeat (first | (with_reducible first | exact HB.out | apply below_alloc | apply pw_below_drewN | apply below_drew1 | refine below_set ?_ GE529.out | refine below_set ?_ GE530.out | refine below_set ?_ GE531.out) | exact HB.out)))
                rintro e w124 ⟨rfl, hb⟩
                refine ⟨_, rfl, ?_⟩
                have n0_ := Aside0.mk (blk_below (g := gb529) (o := .cells #[.bool a0_0, .string a0_1, .int .i64 a0_2] 23 (0, 0)) (by (with_reducible repeat (first | refine blk_drewN ?_ _ | refine blk_drew ?_ | refine blk_alloc ?_ _)); exact BK529.out) hb)
                have n1_ := Aside0.mk (blk_below (g := gb530) (o := .cells #[.bool a1_0, .string a1_1, .int .i64 a1_2] 23 (0, 0)) (by (with_reducible repeat (first | refine blk_drewN ?_ _ | refine blk_drew ?_ | refine blk_alloc ?_ _)); exact BK530.out) hb)
                have n2_ := Aside0.mk (blk_below (g := gb531) (o := .cells #[.bool a2_0, .string a2_1, .int .i64 a2_2] 23 (0, 0)) (by (with_reducible repeat (first | refine blk_drewN ?_ _ | refine blk_drew ?_ | refine blk_alloc ?_ _)); exact BK531.out) hb)
                have n3_ := Aside0.mk (below_step (by repeat (first | (with_reducible first | exact HB.out | apply below_alloc | apply pw_below_drewN | apply below_drew1 | refine below_set ?_ GE529.out | refine below_set ?_ GE530.out | refine below_set ?_ GE531.out) | exact HB.out)) hb)
                clear BK529
                clear BK530
                clear BK531
                clear HB
                have BK529 := n0_
                have BK530 := n1_
                have BK531 := n2_
                have HB := n3_
                clear n0_ n1_ n2_ n3_
                (try clear hb)
                (try clear hb2)
                (try clear hk)
                (try clear hi)
                refine hK.out _ _ ⟨(blk_cell BK529.out 0).trans rfl, (blk_cell BK529.out 1).trans rfl, (blk_cell BK529.out 2).trans rfl, (blk_cell BK530.out 0).trans rfl, (blk_cell BK530.out 1).trans rfl, (blk_cell BK530.out 2).trans rfl, (blk_cell BK531.out 0).trans rfl, (blk_cell BK531.out 1).trans rfl, (blk_cell BK531.out 2).trans rfl⟩ (fun hHeld => ?_)
                clear hK K
                refine norm_ (a' := ?_) ?_ ?_
                rotate_left
                · show Act.put _ (some 64) _ = _
                  simp only [Act.put, List.setIfInBounds_toArray, List.set_cons_zero, List.set_cons_succ]; (try simp only [i64_w]); (try simp only [i32_w])
                  rfl
                refine pure_ (i := 21) (N := some 65) (v := ?_) (a' := ?_) #[true, true, true, true, true, true, true, true, true, true, true, true, true, true, true, true, true, true, true, true, true, true, false, false, false, false, false, false, false, false, false, false, false, false, false, false, false, false, false, false, false, false, false, false, false, false] rfl rfl (any_of HT_.out (by kernel_rfl)) (fun _ _ _ h => h) (Or.inl ⟨by rfl, ?_⟩) ?_ ?_
                rotate_left
                · intro w'
                  go_simp
                  with_reducible rfl
                rotate_left
                · simp only [Act.put, List.setIfInBounds_toArray, List.set_cons_zero, List.set_cons_succ]; (try simp only [i64_w]); (try simp only [i32_w])
                  rfl
                refine pure_ (i := 22) (N := some 66) (v := ?_) (a' := ?_) #[true, true, true, true, true, true, true, true, true, true, true, true, true, true, true, true, true, true, true, true, true, true, true, false, false, false, false, false, false, false, false, false, false, false, false, false, false, false, false, false, false, false, false, false, false, false] rfl rfl (any_of HT_.out (by kernel_rfl)) (fun _ _ _ h => h) (Or.inl ⟨by rfl, ?_⟩) ?_ ?_
                rotate_left
                · intro w'
                  go_simp
                  with_reducible rfl
                rotate_left
                · simp only [Act.put, List.setIfInBounds_toArray, List.set_cons_zero, List.set_cons_succ]; (try simp only [i64_w]); (try simp only [i32_w])
                  rfl
                refine pure_ (i := 23) (N := some 67) (v := ?_) (a' := ?_) #[true, true, true, true, true, true, true, true, true, true, true, true, true, true, true, true, true, true, true, true, true, true, true, true, false, false, false, false, false, false, false, false, false, false, false, false, false, false, false, false, false, false, false, false, false, false] rfl rfl (any_of HT_.out (by kernel_rfl)) (fun _ _ _ h => h) (Or.inl ⟨by rfl, ?_⟩) ?_ ?_
                rotate_left
                · intro w'
                  go_simp
                  with_reducible rfl
                rotate_left
                · simp only [Act.put, List.setIfInBounds_toArray, List.set_cons_zero, List.set_cons_succ]; (try simp only [i64_w]); (try simp only [i32_w])
                  rfl
                refine take_ (i := 24) (N := some 68) (v := ?_) (a' := ?_) #[true, true, true, true, true, true, true, true, true, true, true, true, true, true, true, true, true, true, true, true, true, true, true, true, true, false, false, false, false, false, false, false, false, false, false, false, false, false, false, false, false, false, false, false, false, false] rfl rfl (take_ofW HT_.out HW_.out (by kernel_rfl)) (fun _ _ _ h => h) (Or.inl ⟨by rfl, ?_⟩) hHeld ?_ ?_
                rotate_left
                · rintro w' ⟨s0, s1, s2, s3, s4, s5, s6, s7, s8⟩
                  go_simp
                  with_reducible rfl
                rotate_left
                · simp only [Act.put, List.setIfInBounds_toArray, List.set_cons_zero, List.set_cons_succ]; (try simp only [i64_w]); (try simp only [i32_w])
                  rfl
                refine take_ (i := 25) (N := some 69) (v := ?_) (a' := ?_) #[true, true, true, true, true, true, true, true, true, true, true, true, true, true, true, true, true, true, true, true, true, true, true, true, true, true, false, false, false, false, false, false, false, false, false, false, false, false, false, false, false, false, false, false, false, false] rfl rfl (take_ofW HT_.out HW_.out (by kernel_rfl)) (fun _ _ _ h => h) (Or.inl ⟨by rfl, ?_⟩) hHeld ?_ ?_
                rotate_left
                · rintro w' ⟨s0, s1, s2, s3, s4, s5, s6, s7, s8⟩
                  go_simp
                  with_reducible rfl
                rotate_left
                · simp only [Act.put, List.setIfInBounds_toArray, List.set_cons_zero, List.set_cons_succ]; (try simp only [i64_w]); (try simp only [i32_w])
                  rfl
                refine take_ (i := 26) (N := some 70) (v := ?_) (a' := ?_) #[true, true, true, true, true, true, true, true, true, true, true, true, true, true, true, true, true, true, true, true, true, true, true, true, true, true, true, false, false, false, false, false, false, false, false, false, false, false, false, false, false, false, false, false, false, false] rfl rfl (take_ofW HT_.out HW_.out (by kernel_rfl)) (fun _ _ _ h => h) (Or.inl ⟨by rfl, ?_⟩) hHeld ?_ ?_
                rotate_left
                · rintro w' ⟨s0, s1, s2, s3, s4, s5, s6, s7, s8⟩
                  go_simp
                  with_reducible rfl
                rotate_left
                · simp only [Act.put, List.setIfInBounds_toArray, List.set_cons_zero, List.set_cons_succ]; (try simp only [i64_w]); (try simp only [i32_w])
                  rfl
                refine take_ (i := 29) (N := some 73) (v := ?_) (a' := ?_) #[true, true, true, true, true, true, true, true, true, true, true, true, true, true, true, true, true, true, true, true, true, true, true, true, true, true, true, false, false, true, false, false, false, false, false, false, false, false, false, false, false, false, false, false, false, false] rfl rfl (take_ofW HT_.out HW_.out (by kernel_rfl)) (fun _ _ _ h => h) (Or.inl ⟨by rfl, ?_⟩) hHeld ?_ ?_
                rotate_left
                · rintro w' ⟨s0, s1, s2, s3, s4, s5, s6, s7, s8⟩
                  go_simp
                  with_reducible rfl
                rotate_left
                · simp only [Act.put, List.setIfInBounds_toArray, List.set_cons_zero, List.set_cons_succ]; (try simp only [i64_w]); (try simp only [i32_w])
                  rfl
                refine take_ (i := 30) (N := some 74) (v := ?_) (a' := ?_) #[true, true, true, true, true, true, true, true, true, true, true, true, true, true, true, true, true, true, true, true, true, true, true, true, true, true, true, false, false, true, true, false, false, false, false, false, false, false, false, false, false, false, false, false, false, false] rfl rfl (take_ofW HT_.out HW_.out (by kernel_rfl)) (fun _ _ _ h => h) (Or.inl ⟨by rfl, ?_⟩) hHeld ?_ ?_
                rotate_left
                · rintro w' ⟨s0, s1, s2, s3, s4, s5, s6, s7, s8⟩
                  go_simp
                  with_reducible rfl
                rotate_left
                · simp only [Act.put, List.setIfInBounds_toArray, List.set_cons_zero, List.set_cons_succ]; (try simp only [i64_w]); (try simp only [i32_w])
                  rfl
                refine take_ (i := 32) (N := some 76) (v := ?_) (a' := ?_) #[true, true, true, true, true, true, true, true, true, true, true, true, true, true, true, true, true, true, true, true, true, true, true, true, true, true, true, false, false, true, true, false, true, false, false, false, false, false, false, false, false, false, false, false, false, false] rfl rfl (take_ofW HT_.out HW_.out (by kernel_rfl)) (fun _ _ _ h => h) (Or.inl ⟨by rfl, ?_⟩) hHeld ?_ ?_
                rotate_left
                · rintro w' ⟨s0, s1, s2, s3, s4, s5, s6, s7, s8⟩
                  go_simp
                  with_reducible rfl
                rotate_left
                · simp only [Act.put, List.setIfInBounds_toArray, List.set_cons_zero, List.set_cons_succ]; (try simp only [i64_w]); (try simp only [i32_w])
                  rfl
                refine take_ (i := 33) (N := some 77) (v := ?_) (a' := ?_) #[true, true, true, true, true, true, true, true, true, true, true, true, true, true, true, true, true, true, true, true, true, true, true, true, true, true, true, false, false, true, true, false, true, true, false, false, false, false, false, false, false, false, false, false, false, false] rfl rfl (take_ofW HT_.out HW_.out (by kernel_rfl)) (fun _ _ _ h => h) (Or.inl ⟨by rfl, ?_⟩) hHeld ?_ ?_
                rotate_left
                · rintro w' ⟨s0, s1, s2, s3, s4, s5, s6, s7, s8⟩
                  go_simp
                  with_reducible rfl
                rotate_left
                · simp only [Act.put, List.setIfInBounds_toArray, List.set_cons_zero, List.set_cons_succ]; (try simp only [i64_w]); (try simp only [i32_w])
                  rfl
                refine one_ (i := 27) (N := some 71) #[true, true, true, true, true, true, true, true, true, true, true, true, true, true, true, true, true, true, true, true, true, true, true, true, true, true, true, true, false, true, true, false, true, true, false, false, false, false, false, false, false, false, false, false, false, false] rfl rfl (one_of HT_.out (by kernel_rfl)) (by decide) (fun K hK => ?_)
                refine goes_ Tryd.func34 (by kernel_rfl) rfl #[.agg #[.bool a1_0, .string a1_1, .int .i64 a1_2], .agg #[.bool a2_0, .string a2_1, .int .i64 a2_2]] (by rfl) rfl rfl (by (try simp only [List.map_toArray]); (try simp only [List.map_cons]); (try simp only [List.map_nil]); first | done | rfl | (simp only [List.length_drop, List.length_take]; rfl)) ?_
                with_reducible refine (arith_Add.calls a1_0 a1_1 a1_2 a2_0 a2_1 a2_2 t556 t557 t558 _ ?side1 A110.out).mono ?_
                (case side1 => exact Fig.Glob.below HG.out (by repeat (first | (with_reducible first | exact HB.out | apply below_alloc | apply pw_below_drewN | apply below_drew1 | refine below_set ?_ GE529.out | refine below_set ?_ GE530.out | refine below_set ?_ GE531.out) | exact HB.out)))
                rintro e w125 ⟨rfl, hb⟩
                refine ⟨_, rfl, ?_⟩
                have n0_ := Aside0.mk (blk_below (g := gb529) (o := .cells #[.bool a0_0, .string a0_1, .int .i64 a0_2] 23 (0, 0)) (by (with_reducible repeat (first | refine blk_drewN ?_ _ | refine blk_drew ?_ | refine blk_alloc ?_ _)); exact BK529.out) hb)
                have n1_ := Aside0.mk (blk_below (g := gb530) (o := .cells #[.bool a1_0, .string a1_1, .int .i64 a1_2] 23 (0, 0)) (by (with_reducible repeat (first | refine blk_drewN ?_ _ | refine blk_drew ?_ | refine blk_alloc ?_ _)); exact BK530.out) hb)
                have n2_ := Aside0.mk (blk_below (g := gb531) (o := .cells #[.bool a2_0, .string a2_1, .int .i64 a2_2] 23 (0, 0)) (by (with_reducible repeat (first | refine blk_drewN ?_ _ | refine blk_drew ?_ | refine blk_alloc ?_ _)); exact BK531.out) hb)
                have n3_ := Aside0.mk (below_step (by repeat (first | (with_reducible first | exact HB.out | apply below_alloc | apply pw_below_drewN | apply below_drew1 | refine below_set ?_ GE529.out | refine below_set ?_ GE530.out | refine below_set ?_ GE531.out) | exact HB.out)) hb)
                clear BK529
                clear BK530
                clear BK531
                clear HB
                have BK529 := n0_
                have BK530 := n1_
                have BK531 := n2_
                have HB := n3_
                clear n0_ n1_ n2_ n3_
                (try clear hb)
                (try clear hb2)
                (try clear hk)
                (try clear hi)
                refine hK.out _ _ ⟨(blk_cell BK529.out 0).trans rfl, (blk_cell BK529.out 1).trans rfl, (blk_cell BK529.out 2).trans rfl, (blk_cell BK530.out 0).trans rfl, (blk_cell BK530.out 1).trans rfl, (blk_cell BK530.out 2).trans rfl, (blk_cell BK531.out 0).trans rfl, (blk_cell BK531.out 1).trans rfl, (blk_cell BK531.out 2).trans rfl⟩ (fun hHeld => ?_)
                clear hK K
                refine norm_ (a' := ?_) ?_ ?_
                rotate_left
                · show Act.put _ (some 71) _ = _
                  simp only [Act.put, List.setIfInBounds_toArray, List.set_cons_zero, List.set_cons_succ]; (try simp only [i64_w]); (try simp only [i32_w])
                  rfl
                refine one_ (i := 28) (N := some 72) #[true, true, true, true, true, true, true, true, true, true, true, true, true, true, true, true, true, true, true, true, true, true, true, true, true, true, true, true, true, true, true, false, true, true, false, false, false, false, false, false, false, false, false, false, false, false] rfl rfl (one_of HT_.out (by kernel_rfl)) (by decide) (fun K hK => ?_)
                refine goes_ Tryd.func38 (by kernel_rfl) rfl #[.agg #[.bool a0_0, .string a0_1, .int .i64 a0_2], .agg #[.bool t556, .string t557, .int .i64 t558]] (by rfl) rfl rfl (by (try simp only [List.map_toArray]); (try simp only [List.map_cons]); (try simp only [List.map_nil]); first | done | rfl | (simp only [List.length_drop, List.length_take]; rfl)) ?_
                with_reducible refine (arith_Mul.calls kj3 a0_0 a0_1 a0_2 t556 t557 t558 t559 t560 t561 _ A111.out).mono ?_
                rintro e w126 ⟨rfl, hb⟩
                refine ⟨_, rfl, ?_⟩
                have n0_ := Aside0.mk (blk_below (g := gb529) (o := .cells #[.bool a0_0, .string a0_1, .int .i64 a0_2] 23 (0, 0)) (by (with_reducible repeat (first | refine blk_drewN ?_ _ | refine blk_drew ?_ | refine blk_alloc ?_ _)); exact BK529.out) hb)
                have n1_ := Aside0.mk (blk_below (g := gb530) (o := .cells #[.bool a1_0, .string a1_1, .int .i64 a1_2] 23 (0, 0)) (by (with_reducible repeat (first | refine blk_drewN ?_ _ | refine blk_drew ?_ | refine blk_alloc ?_ _)); exact BK530.out) hb)
                have n2_ := Aside0.mk (blk_below (g := gb531) (o := .cells #[.bool a2_0, .string a2_1, .int .i64 a2_2] 23 (0, 0)) (by (with_reducible repeat (first | refine blk_drewN ?_ _ | refine blk_drew ?_ | refine blk_alloc ?_ _)); exact BK531.out) hb)
                have n3_ := Aside0.mk (below_step (by repeat (first | (with_reducible first | exact HB.out | apply below_alloc | apply pw_below_drewN | apply below_drew1 | refine below_set ?_ GE529.out | refine below_set ?_ GE530.out | refine below_set ?_ GE531.out) | exact HB.out)) hb)
                clear BK529
                clear BK530
                clear BK531
                clear HB
                have BK529 := n0_
                have BK530 := n1_
                have BK531 := n2_
                have HB := n3_
                clear n0_ n1_ n2_ n3_
                (try clear hb)
                (try clear hb2)
                (try clear hk)
                (try clear hi)
                refine hK.out _ _ ⟨(blk_cell BK529.out 0).trans rfl, (blk_cell BK529.out 1).trans rfl, (blk_cell BK529.out 2).trans rfl, (blk_cell BK530.out 0).trans rfl, (blk_cell BK530.out 1).trans rfl, (blk_cell BK530.out 2).trans rfl, (blk_cell BK531.out 0).trans rfl, (blk_cell BK531.out 1).trans rfl, (blk_cell BK531.out 2).trans rfl⟩ (fun hHeld => ?_)
                clear hK K
                refine norm_ (a' := ?_) ?_ ?_
                rotate_left
                · show Act.put _ (some 72) _ = _
                  simp only [Act.put, List.setIfInBounds_toArray, List.set_cons_zero, List.set_cons_succ]; (try simp only [i64_w]); (try simp only [i32_w])
                  rfl
                refine one_ (i := 31) (N := some 75) #[true, true, true, true, true, true, true, true, true, true, true, true, true, true, true, true, true, true, true, true, true, true, true, true, true, true, true, true, true, true, true, true, true, true, false, false, false, false, false, false, false, false, false, false, false, false] rfl rfl (one_of HT_.out (by kernel_rfl)) (by decide) (fun K hK => ?_)
                refine goes_ Tryd.func38 (by kernel_rfl) rfl #[.agg #[.bool a0_0, .string a0_1, .int .i64 a0_2], .agg #[.bool a1_0, .string a1_1, .int .i64 a1_2]] (by rfl) rfl rfl (by (try simp only [List.map_toArray]); (try simp only [List.map_cons]); (try simp only [List.map_nil]); first | done | rfl | (simp only [List.length_drop, List.length_take]; rfl)) ?_
                with_reducible refine (arith_Mul.calls kj3 a0_0 a0_1 a0_2 a1_0 a1_1 a1_2 t562 t563 t564 _ A112.out).mono ?_
                rintro e w127 ⟨rfl, hb⟩
                refine ⟨_, rfl, ?_⟩
                have n0_ := Aside0.mk (blk_below (g := gb529) (o := .cells #[.bool a0_0, .string a0_1, .int .i64 a0_2] 23 (0, 0)) (by (with_reducible repeat (first | refine blk_drewN ?_ _ | refine blk_drew ?_ | refine blk_alloc ?_ _)); exact BK529.out) hb)
                have n1_ := Aside0.mk (blk_below (g := gb530) (o := .cells #[.bool a1_0, .string a1_1, .int .i64 a1_2] 23 (0, 0)) (by (with_reducible repeat (first | refine blk_drewN ?_ _ | refine blk_drew ?_ | refine blk_alloc ?_ _)); exact BK530.out) hb)
                have n2_ := Aside0.mk (blk_below (g := gb531) (o := .cells #[.bool a2_0, .string a2_1, .int .i64 a2_2] 23 (0, 0)) (by (with_reducible repeat (first | refine blk_drewN ?_ _ | refine blk_drew ?_ | refine blk_alloc ?_ _)); exact BK531.out) hb)
                have n3_ := Aside0.mk (below_step (by repeat (first | (with_reducible first | exact HB.out | apply below_alloc | apply pw_below_drewN | apply below_drew1 | refine below_set ?_ GE529.out | refine below_set ?_ GE530.out | refine below_set ?_ GE531.out) | exact HB.out)) hb)
                clear BK529
                clear BK530
                clear BK531
                clear HB
                have BK529 := n0_
                have BK530 := n1_
                have BK531 := n2_
                have HB := n3_
                clear n0_ n1_ n2_ n3_
                (try clear hb)
                (try clear hb2)
                (try clear hk)
                (try clear hi)
                refine hK.out _ _ ⟨(blk_cell BK529.out 0).trans rfl, (blk_cell BK529.out 1).trans rfl, (blk_cell BK529.out 2).trans rfl, (blk_cell BK530.out 0).trans rfl, (blk_cell BK530.out 1).trans rfl, (blk_cell BK530.out 2).trans rfl, (blk_cell BK531.out 0).trans rfl, (blk_cell BK531.out 1).trans rfl, (blk_cell BK531.out 2).trans rfl⟩ (fun hHeld => ?_)
                clear hK K
                refine norm_ (a' := ?_) ?_ ?_
                rotate_left
                · show Act.put _ (some 75) _ = _
                  simp only [Act.put, List.setIfInBounds_toArray, List.set_cons_zero, List.set_cons_succ]; (try simp only [i64_w]); (try simp only [i32_w])
                  rfl
                refine one_ (i := 34) (N := some 78) #[true, true, true, true, true, true, true, true, true, true, true, true, true, true, true, true, true, true, true, true, true, true, true, true, true, true, true, true, true, true, true, true, true, true, true, false, false, false, false, false, false, false, false, false, false, false] rfl rfl (one_of HT_.out (by kernel_rfl)) (by decide) (fun K hK => ?_)
                refine goes_ Tryd.func38 (by kernel_rfl) rfl #[.agg #[.bool a0_0, .string a0_1, .int .i64 a0_2], .agg #[.bool a2_0, .string a2_1, .int .i64 a2_2]] (by rfl) rfl rfl (by (try simp only [List.map_toArray]); (try simp only [List.map_cons]); (try simp only [List.map_nil]); first | done | rfl | (simp only [List.length_drop, List.length_take]; rfl)) ?_
                with_reducible refine (arith_Mul.calls kj3 a0_0 a0_1 a0_2 a2_0 a2_1 a2_2 t565 t566 t567 _ A113.out).mono ?_
                rintro e w128 ⟨rfl, hb⟩
                refine ⟨_, rfl, ?_⟩
                have n0_ := Aside0.mk (blk_below (g := gb529) (o := .cells #[.bool a0_0, .string a0_1, .int .i64 a0_2] 23 (0, 0)) (by (with_reducible repeat (first | refine blk_drewN ?_ _ | refine blk_drew ?_ | refine blk_alloc ?_ _)); exact BK529.out) hb)
                have n1_ := Aside0.mk (blk_below (g := gb530) (o := .cells #[.bool a1_0, .string a1_1, .int .i64 a1_2] 23 (0, 0)) (by (with_reducible repeat (first | refine blk_drewN ?_ _ | refine blk_drew ?_ | refine blk_alloc ?_ _)); exact BK530.out) hb)
                have n2_ := Aside0.mk (blk_below (g := gb531) (o := .cells #[.bool a2_0, .string a2_1, .int .i64 a2_2] 23 (0, 0)) (by (with_reducible repeat (first | refine blk_drewN ?_ _ | refine blk_drew ?_ | refine blk_alloc ?_ _)); exact BK531.out) hb)
                have n3_ := Aside0.mk (below_step (by repeat (first | (with_reducible first | exact HB.out | apply below_alloc | apply pw_below_drewN | apply below_drew1 | refine below_set ?_ GE529.out | refine below_set ?_ GE530.out | refine below_set ?_ GE531.out) | exact HB.out)) hb)
                clear BK529
                clear BK530
                clear BK531
                clear HB
                have BK529 := n0_
                have BK530 := n1_
                have BK531 := n2_
                have HB := n3_
                clear n0_ n1_ n2_ n3_
                (try clear hb)
                (try clear hb2)
                (try clear hk)
                (try clear hi)
                refine hK.out _ _ ⟨(blk_cell BK529.out 0).trans rfl, (blk_cell BK529.out 1).trans rfl, (blk_cell BK529.out 2).trans rfl, (blk_cell BK530.out 0).trans rfl, (blk_cell BK530.out 1).trans rfl, (blk_cell BK530.out 2).trans rfl, (blk_cell BK531.out 0).trans rfl, (blk_cell BK531.out 1).trans rfl, (blk_cell BK531.out 2).trans rfl⟩ (fun hHeld => ?_)
                clear hK K
                refine norm_ (a' := ?_) ?_ ?_
                rotate_left
                · show Act.put _ (some 78) _ = _
                  simp only [Act.put, List.setIfInBounds_toArray, List.set_cons_zero, List.set_cons_succ]; (try simp only [i64_w]); (try simp only [i32_w])
                  rfl
                refine one_ (i := 35) (N := some 79) #[true, true, true, true, true, true, true, true, true, true, true, true, true, true, true, true, true, true, true, true, true, true, true, true, true, true, true, true, true, true, true, true, true, true, true, true, false, false, false, false, false, false, false, false, false, false] rfl rfl (one_of HT_.out (by kernel_rfl)) (by decide) (fun K hK => ?_)
                refine goes_ Tryd.func34 (by kernel_rfl) rfl #[.agg #[.bool t562, .string t563, .int .i64 t564], .agg #[.bool t565, .string t566, .int .i64 t567]] (by rfl) rfl rfl (by (try simp only [List.map_toArray]); (try simp only [List.map_cons]); (try simp only [List.map_nil]); first | done | rfl | (simp only [List.length_drop, List.length_take]; rfl)) ?_
                with_reducible refine (arith_Add.calls t562 t563 t564 t565 t566 t567 t568 t569 t570 _ ?side1 A114.out).mono ?_
                (case side1 => exact Fig.Glob.below HG.out (by repeat (first | (with_reducible first | exact HB.out | apply below_alloc | apply pw_below_drewN | apply below_drew1 | refine below_set ?_ GE529.out | refine below_set ?_ GE530.out | refine below_set ?_ GE531.out) | exact HB.out)))
                rintro e w129 ⟨rfl, hb⟩
                refine ⟨_, rfl, ?_⟩
                have n0_ := Aside0.mk (blk_below (g := gb529) (o := .cells #[.bool a0_0, .string a0_1, .int .i64 a0_2] 23 (0, 0)) (by (with_reducible repeat (first | refine blk_drewN ?_ _ | refine blk_drew ?_ | refine blk_alloc ?_ _)); exact BK529.out) hb)
                have n1_ := Aside0.mk (blk_below (g := gb530) (o := .cells #[.bool a1_0, .string a1_1, .int .i64 a1_2] 23 (0, 0)) (by (with_reducible repeat (first | refine blk_drewN ?_ _ | refine blk_drew ?_ | refine blk_alloc ?_ _)); exact BK530.out) hb)
                have n2_ := Aside0.mk (blk_below (g := gb531) (o := .cells #[.bool a2_0, .string a2_1, .int .i64 a2_2] 23 (0, 0)) (by (with_reducible repeat (first | refine blk_drewN ?_ _ | refine blk_drew ?_ | refine blk_alloc ?_ _)); exact BK531.out) hb)
                have n3_ := Aside0.mk (below_step (by repeat (first | (with_reducible first | exact HB.out | apply below_alloc | apply pw_below_drewN | apply below_drew1 | refine below_set ?_ GE529.out | refine below_set ?_ GE530.out | refine below_set ?_ GE531.out) | exact HB.out)) hb)
                clear BK529
                clear BK530
                clear BK531
                clear HB
                have BK529 := n0_
                have BK530 := n1_
                have BK531 := n2_
                have HB := n3_
                clear n0_ n1_ n2_ n3_
                (try clear hb)
                (try clear hb2)
                (try clear hk)
                (try clear hi)
                refine hK.out _ _ ⟨(blk_cell BK529.out 0).trans rfl, (blk_cell BK529.out 1).trans rfl, (blk_cell BK529.out 2).trans rfl, (blk_cell BK530.out 0).trans rfl, (blk_cell BK530.out 1).trans rfl, (blk_cell BK530.out 2).trans rfl, (blk_cell BK531.out 0).trans rfl, (blk_cell BK531.out 1).trans rfl, (blk_cell BK531.out 2).trans rfl⟩ (fun hHeld => ?_)
                clear hK K
                refine norm_ (a' := ?_) ?_ ?_
                rotate_left
                · show Act.put _ (some 79) _ = _
                  simp only [Act.put, List.setIfInBounds_toArray, List.set_cons_zero, List.set_cons_succ]; (try simp only [i64_w]); (try simp only [i32_w])
                  rfl
                refine pure_ (i := 36) (N := some 80) (v := ?_) (a' := ?_) #[true, true, true, true, true, true, true, true, true, true, true, true, true, true, true, true, true, true, true, true, true, true, true, true, true, true, true, true, true, true, true, true, true, true, true, true, true, false, false, false, false, false, false, false, false, false] rfl rfl (any_of HT_.out (by kernel_rfl)) (fun _ _ _ h => h) (Or.inl ⟨by rfl, ?_⟩) ?_ ?_
                rotate_left
                · intro w'
                  go_simp
                  with_reducible rfl
                rotate_left
                · simp only [Act.put, List.setIfInBounds_toArray, List.set_cons_zero, List.set_cons_succ]; (try simp only [i64_w]); (try simp only [i32_w])
                  rfl
                refine pure_ (i := 37) (N := some 81) (v := ?_) (a' := ?_) #[true, true, true, true, true, true, true, true, true, true, true, true, true, true, true, true, true, true, true, true, true, true, true, true, true, true, true, true, true, true, true, true, true, true, true, true, true, true, false, false, false, false, false, false, false, false] rfl rfl (any_of HT_.out (by kernel_rfl)) (fun _ _ _ h => h) (Or.inl ⟨by rfl, ?_⟩) ?_ ?_
                rotate_left
                · intro w'
                  go_simp
                  with_reducible rfl
                rotate_left
                · simp only [Act.put, List.setIfInBounds_toArray, List.set_cons_zero, List.set_cons_succ]; (try simp only [i64_w]); (try simp only [i32_w])
                  rfl
                refine pure_ (i := 38) (N := some 82) (v := ?_) (a' := ?_) #[true, true, true, true, true, true, true, true, true, true, true, true, true, true, true, true, true, true, true, true, true, true, true, true, true, true, true, true, true, true, true, true, true, true, true, true, true, true, true, false, false, false, false, false, false, false] rfl rfl (any_of HT_.out (by kernel_rfl)) (fun _ _ _ h => h) (Or.inl ⟨by rfl, ?_⟩) ?_ ?_
                rotate_left
                · intro w'
                  go_simp
                  with_reducible rfl
                rotate_left
                · simp only [Act.put, List.setIfInBounds_toArray, List.set_cons_zero, List.set_cons_succ]; (try simp only [i64_w]); (try simp only [i32_w])
                  rfl
                refine pure_ (i := 42) (N := some 86) (v := ?_) (a' := ?_) #[true, true, true, true, true, true, true, true, true, true, true, true, true, true, true, true, true, true, true, true, true, true, true, true, true, true, true, true, true, true, true, true, true, true, true, true, true, true, true, false, false, false, true, false, false, false] rfl rfl (any_of HT_.out (by kernel_rfl)) (fun _ _ _ h => h) (Or.inl ⟨by rfl, ?_⟩) ?_ ?_
                rotate_left
                · intro w'
                  go_simp
                  with_reducible rfl
                rotate_left
                · simp only [Act.put, List.setIfInBounds_toArray, List.set_cons_zero, List.set_cons_succ]; (try simp only [i64_w]); (try simp only [i32_w])
                  rfl
                refine take_ (i := 39) (N := some 83) (v := ?_) (a' := ?_) #[true, true, true, true, true, true, true, true, true, true, true, true, true, true, true, true, true, true, true, true, true, true, true, true, true, true, true, true, true, true, true, true, true, true, true, true, true, true, true, true, false, false, true, false, false, false] rfl rfl (take_ofW HT_.out HW_.out (by kernel_rfl)) (fun _ _ _ h => h) (Or.inl ⟨by rfl, ?_⟩) hHeld ?_ ?_
                rotate_left
                · rintro w' ⟨s0, s1, s2, s3, s4, s5, s6, s7, s8⟩
                  go_simp
                  with_reducible rfl
                rotate_left
                · simp only [Act.put, List.setIfInBounds_toArray, List.set_cons_zero, List.set_cons_succ]; (try simp only [i64_w]); (try simp only [i32_w])
                  rfl
                refine take_ (i := 40) (N := some 84) (v := ?_) (a' := ?_) #[true, true, true, true, true, true, true, true, true, true, true, true, true, true, true, true, true, true, true, true, true, true, true, true, true, true, true, true, true, true, true, true, true, true, true, true, true, true, true, true, true, false, true, false, false, false] rfl rfl (take_ofW HT_.out HW_.out (by kernel_rfl)) (fun _ _ _ h => h) (Or.inl ⟨by rfl, ?_⟩) hHeld ?_ ?_
                rotate_left
                · rintro w' ⟨s0, s1, s2, s3, s4, s5, s6, s7, s8⟩
                  go_simp
                  with_reducible rfl
                rotate_left
                · simp only [Act.put, List.setIfInBounds_toArray, List.set_cons_zero, List.set_cons_succ]; (try simp only [i64_w]); (try simp only [i32_w])
                  rfl
                refine one_ (i := 41) (N := some 85) #[true, true, true, true, true, true, true, true, true, true, true, true, true, true, true, true, true, true, true, true, true, true, true, true, true, true, true, true, true, true, true, true, true, true, true, true, true, true, true, true, true, true, true, false, false, false] rfl rfl (one_of HT_.out (by kernel_rfl)) (by decide) (fun K hK => ?_)
                refine goes_ Tryd.func36 (by kernel_rfl) rfl #[.agg #[.bool a0_0, .string a0_1, .int .i64 a0_2], .agg #[.bool a0_0, .string a0_1, .int .i64 a0_2]] (by rfl) rfl rfl (by (try simp only [List.map_toArray]); (try simp only [List.map_cons]); (try simp only [List.map_nil]); first | done | rfl | (simp only [List.length_drop, List.length_take]; rfl)) ?_
                with_reducible refine (arith_Sub.calls a0_0 a0_1 a0_2 a0_0 a0_1 a0_2 t571 t572 t573 _ ?side1 A116.out).mono ?_
                (case side1 => exact Fig.Glob.below HG.out (by repeat (first | (with_reducible first | exact HB.out | apply below_alloc | apply pw_below_drewN | apply below_drew1 | refine below_set ?_ GE529.out | refine below_set ?_ GE530.out | refine below_set ?_ GE531.out) | exact HB.out)))
                rintro e w130 ⟨rfl, hb⟩
                refine ⟨_, rfl, ?_⟩
                have n0_ := Aside0.mk (blk_below (g := gb529) (o := .cells #[.bool a0_0, .string a0_1, .int .i64 a0_2] 23 (0, 0)) (by (with_reducible repeat (first | refine blk_drewN ?_ _ | refine blk_drew ?_ | refine blk_alloc ?_ _)); exact BK529.out) hb)
                have n1_ := Aside0.mk (blk_below (g := gb530) (o := .cells #[.bool a1_0, .string a1_1, .int .i64 a1_2] 23 (0, 0)) (by (with_reducible repeat (first | refine blk_drewN ?_ _ | refine blk_drew ?_ | refine blk_alloc ?_ _)); exact BK530.out) hb)
                have n2_ := Aside0.mk (blk_below (g := gb531) (o := .cells #[.bool a2_0, .string a2_1, .int .i64 a2_2] 23 (0, 0)) (by (with_reducible repeat (first | refine blk_drewN ?_ _ | refine blk_drew ?_ | refine blk_alloc ?_ _)); exact BK531.out) hb)
                have n3_ := Aside0.mk (below_step (by repeat (first | (with_reducible first | exact HB.out | apply below_alloc | apply pw_below_drewN | apply below_drew1 | refine below_set ?_ GE529.out | refine below_set ?_ GE530.out | refine below_set ?_ GE531.out) | exact HB.out)) hb)
                clear BK529
                clear BK530
                clear BK531
                clear HB
                have BK529 := n0_
                have BK530 := n1_
                have BK531 := n2_
                have HB := n3_
                clear n0_ n1_ n2_ n3_
                (try clear hb)
                (try clear hb2)
                (try clear hk)
                (try clear hi)
                refine hK.out _ _ ⟨(blk_cell BK529.out 0).trans rfl, (blk_cell BK529.out 1).trans rfl, (blk_cell BK529.out 2).trans rfl, (blk_cell BK530.out 0).trans rfl, (blk_cell BK530.out 1).trans rfl, (blk_cell BK530.out 2).trans rfl, (blk_cell BK531.out 0).trans rfl, (blk_cell BK531.out 1).trans rfl, (blk_cell BK531.out 2).trans rfl⟩ (fun hHeld => ?_)
                clear hK K
                refine norm_ (a' := ?_) ?_ ?_
                rotate_left
                · show Act.put _ (some 85) _ = _
                  simp only [Act.put, List.setIfInBounds_toArray, List.set_cons_zero, List.set_cons_succ]; (try simp only [i64_w]); (try simp only [i32_w])
                  rfl
                refine pure_ (i := 43) (N := some 87) (v := ?_) (a' := ?_) #[true, true, true, true, true, true, true, true, true, true, true, true, true, true, true, true, true, true, true, true, true, true, true, true, true, true, true, true, true, true, true, true, true, true, true, true, true, true, true, true, true, true, true, true, false, false] rfl rfl (any_of HT_.out (by kernel_rfl)) (fun _ _ _ h => h) (Or.inl ⟨by rfl, ?_⟩) ?_ ?_
                rotate_left
                · intro w'
                  go_simp
                  with_reducible rfl
                rotate_left
                · simp only [Act.put, List.setIfInBounds_toArray, List.set_cons_zero, List.set_cons_succ]; (try simp only [i64_w]); (try simp only [i32_w])
                  rfl
                refine pure_ (i := 44) (N := some 88) (v := ?_) (a' := ?_) #[true, true, true, true, true, true, true, true, true, true, true, true, true, true, true, true, true, true, true, true, true, true, true, true, true, true, true, true, true, true, true, true, true, true, true, true, true, true, true, true, true, true, true, true, true, false] rfl rfl (any_of HT_.out (by kernel_rfl)) (fun _ _ _ h => h) (Or.inl ⟨by rfl, ?_⟩) ?_ ?_
                rotate_left
                · intro w'
                  go_simp
                  with_reducible rfl
                rotate_left
                · simp only [Act.put, List.setIfInBounds_toArray, List.set_cons_zero, List.set_cons_succ]; (try simp only [i64_w]); (try simp only [i32_w])
                  rfl
                refine pure_ (i := 45) (N := some 6) (v := ?_) (a' := ?_) #[true, true, true, true, true, true, true, true, true, true, true, true, true, true, true, true, true, true, true, true, true, true, true, true, true, true, true, true, true, true, true, true, true, true, true, true, true, true, true, true, true, true, true, true, true, true] rfl rfl (any_of HT_.out (by kernel_rfl)) (fun _ _ _ h => h) (Or.inl ⟨by rfl, ?_⟩) ?_ ?_
                rotate_left
                · intro w'
                  go_simp
                  with_reducible rfl
                rotate_left
                · simp only [Act.put, List.setIfInBounds_toArray, List.set_cons_zero, List.set_cons_succ]; (try simp only [i64_w]); (try simp only [i32_w])
                  rfl
                refine done_ (done_of HT_.out (by kernel_rfl)) ?_
                try go_wp2
                go_ret
                exact ⟨by first | rfl | (simp [errW_none, errW_some] <;> rfl) | (simp [*, errW_none, errW_some] <;> rfl), by repeat (first | (with_reducible first | exact HB.out | apply below_alloc | apply pw_below_drewN | apply below_drew1 | refine below_set ?_ GE529.out | refine below_set ?_ GE530.out | refine below_set ?_ GE531.out) | exact HB.out)⟩
              · rw [if_neg c115] at H
                have c115b0 : (t559 == t568 && (t560.toList == t569.toList && (t561 == t570))) = false := by simpa using c115
                (try (have c115b1 : decide (t559 = t568 && (t560.toList == t569.toList && (t561 == t570))) = false := by simpa using c115))
                (try (have c115b2 : (t559 == t568 && (t560.toList == t569.toList && (t561 == t570))) = false := by simpa using c115))
                (try (have c115b3 : ¬ (t559 = t568 && (t560.toList == t569.toList && (t561 == t570))) := by simpa using c115))
                clear c115
                exact absurd ((Option.some.inj H).trans HT.out) (by decide)
            · rw [if_neg c109] at H
              have c109b0 : (t547 == t553 && (t548.toList == t554.toList && (t549 == t555))) = false := by simpa using c109
              (try (have c109b1 : decide (t547 = t553 && (t548.toList == t554.toList && (t549 == t555))) = false := by simpa using c109))
              (try (have c109b2 : (t547 == t553 && (t548.toList == t554.toList && (t549 == t555))) = false := by simpa using c109))
              (try (have c109b3 : ¬ (t547 = t553 && (t548.toList == t554.toList && (t549 == t555))) := by simpa using c109))
              clear c109
              exact absurd ((Option.some.inj H).trans HT.out) (by decide)
          · rw [if_neg c104] at H
            have c104b0 : (t538 == t541 && (t539.toList == t542.toList && (t540 == t543))) = false := by simpa using c104
            (try (have c104b1 : decide (t538 = t541 && (t539.toList == t542.toList && (t540 == t543))) = false := by simpa using c104))
            (try (have c104b2 : (t538 == t541 && (t539.toList == t542.toList && (t540 == t543))) = false := by simpa using c104))
            (try (have c104b3 : ¬ (t538 = t541 && (t539.toList == t542.toList && (t540 == t543))) := by simpa using c104))
            clear c104
            exact absurd ((Option.some.inj H).trans HT.out) (by decide)
        · replace c101 := Bool.eq_false_iff.mpr c101
          subst c101
          have H1 : (some false) = some r := by rw [if_neg (show ¬ (false = true) by decide)] at H; exact H
          clear H
          have H := H1
          clear H1
          exact absurd ((Option.some.inj H).trans HT.out) (by decide)
end Go.Proofs.YtbjaiphfehnncaaDoor.Px
end
section
namespace Go.Proofs.YtbjaiphfehnncaaDoor.Px
open Fig Go.RowKit Go.Proofs.YtbjaiphfehnncaaDoorW.PrintWords Go.Proofs.YtbjaiphfehnncaaDoorW.PrintLast Go.Proofs.YtbjaiphfehnncaaDoorW.PrintMore
attribute [local go_sem] max2_int min2_int max_two min_two max_three min_three max_four min_four   -- for this text's walks alone
attribute [local go_sem] fieldA23_0 fieldA23_1 fieldA23_2
theorem Digits_loop (s : ByteArray) (hs : s.size ≤ 4611686018427387904) : ∀ (d n : Nat), s.size - n = d → n ≤ s.size → Ev (fun k => figureheadref05_Digits.l0 k s (n : Int)) (digL (s.data.toList.drop n) && decide (s.size ≠ 0))
  | 0, n, hd, hn => by
    refine evDone (r' := (s.toList != ([] : List UInt8))) (fun k => ?_) ?_
    · simp only [figureheadref05_Digits.l0]; rw [if_neg (by omega)]
    · rw [List.drop_of_length_le (by rw [← size_eq]; omega), bne_nil, ByteArray.toList_eq, size_eq]
      cases s.data.toList <;> simp [digL]
  | d + 1, n, hd, hn => by
    have hlt : n < s.size := by omega
    have hbt := bt_get hlt
    have hc := List.drop_eq_getElem_cons (l := s.data.toList) (i := n) (by rw [← size_eq]; exact hlt)
    rw [hc]
    generalize hx : s.data.toList[n]'(by rw [← size_eq]; exact hlt) = c at hbt
    by_cases h1 : c.toNat < 48
    · refine evDone (r' := false) (fun k => ?_) ?_
      · simp only [figureheadref05_Digits.l0]; rw [if_pos (by omega), if_pos (by omega), hbt, if_pos (by omega)]
      · have : isD c = false := by unfold isD; simp; omega
        simp [digL, this]
    · by_cases h2 : c.toNat > 57
      · refine evDone (r' := false) (fun k => ?_) ?_
        · simp only [figureheadref05_Digits.l0]; rw [if_pos (by omega), if_pos (by omega), hbt, if_neg (by omega), if_pos (by omega)]
        · have : isD c = false := by unfold isD; simp; omega
          simp [digL, this]
      · have hd1 : isD c = true := isD_iff.2 ⟨by omega, by omega⟩
        refine evIs (Ev.step (f := fun k => figureheadref05_Digits.l0 k s ((n + 1 : Nat) : Int)) (fun k => ?_) (Digits_loop s hs d (n + 1) (by omega) (by omega))) ?_
        · simp only [figureheadref05_Digits.l0]; rw [if_pos (by omega), if_pos (by omega), hbt, if_neg (by omega), if_neg (by omega), succ64 _ (by omega)]
        · simp [digL, hd1]
theorem Digits05_ev {s : ByteArray} (hs : s.size ≤ 4611686018427387904) : Ev (fun k => figureheadref05_Digits.f k s) (dB s && decide (s.size ≠ 0)) := by
  have := Digits_loop s hs s.size 0 (by omega) (by omega)
  rw [List.drop_zero] at this
  exact this
end Go.Proofs.YtbjaiphfehnncaaDoor.Px
end
section
namespace Go.Proofs.YtbjaiphfehnncaaDoor.Px
open Fig Go.RowKit Go.Proofs.YtbjaiphfehnncaaDoorW.PrintWords Go.Proofs.YtbjaiphfehnncaaDoorW.PrintLast Go.Proofs.YtbjaiphfehnncaaDoorW.PrintMore
attribute [local go_sem] max2_int min2_int max_two min_two max_three min_three max_four min_four   -- for this text's walks alone
attribute [local go_sem] fieldA23_0 fieldA23_1 fieldA23_2
theorem Good05_ev {b : Bool} {s : ByteArray} {e : Int} (hs : s.size ≤ 4611686018427387904) : Ev (fun k => figureheadref05_Good.f k b s e) (goodD s e) := by
  unfold figureheadref05_Good.f
  refine Ev.bind (Digits05_ev hs) ?_
  unfold goodD
  cases hd : (dB s && decide (s.size ≠ 0))
  · simp only [Bool.false_eq_true, if_false, Bool.false_and]
    exact Ev.now _
  · simp only [if_true, Bool.true_and]
    by_cases h1 : s.size ≤ 1000
    · have h1' : (s.size : Int) ≤ 1000 := by omega
      simp only [h1', h1, if_true, decide_true, Bool.true_and]
      by_cases h2 : e ≥ -1000
      · have h2' : -1000 ≤ e := h2
        simp only [h2, h2', if_true, decide_true, Bool.true_and]
        exact Ev.now _
      · have h2' : ¬ -1000 ≤ e := h2
        simp only [h2, h2', if_false, decide_false, Bool.false_and]
        exact Ev.now _
    · have h1' : ¬ (s.size : Int) ≤ 1000 := by omega
      simp only [h1', h1, if_false, decide_false, Bool.false_and]
      exact Ev.now _
end Go.Proofs.YtbjaiphfehnncaaDoor.Px
end
section
namespace Go.Proofs.YtbjaiphfehnncaaDoor.Px
open Fig Go.RowKit Go.Proofs.YtbjaiphfehnncaaDoorW.PrintWords Go.Proofs.YtbjaiphfehnncaaDoorW.PrintLast Go.Proofs.YtbjaiphfehnncaaDoorW.PrintMore
attribute [local go_sem] max2_int min2_int max_two min_two max_three min_three max_four min_four   -- for this text's walks alone
attribute [local go_sem] fieldA23_0 fieldA23_1 fieldA23_2
theorem good06_loop (ls : List S23) (hl : ls.length ≤ 1000) (hb : ∀ d ∈ ls, d.f1.size ≤ 140737488351232) : ∀ (d n : Nat), ls.length - n = d → n ≤ ls.length → Ev (fun k => figureheadlaw06_good.l0 k ls (n : Int)) ((ls.drop n).all fun x => goodD x.f1 x.f2 && decide (x.f1.size ≤ 200))
  | 0, n, hd, hn => by
    refine evDone (r' := true) (fun k => ?_) (by rw [List.drop_of_length_le (by omega)]; rfl)
    simp only [figureheadlaw06_good.l0]; rw [if_neg (by omega)]
  | d + 1, n, hd, hn => by
    have hlt : n < ls.length := by omega
    have hm := List.getElem_mem hlt
    have hrd : rd_T23 ls (n : Int) = ls[n] := by
      unfold rd_T23; rw [Int.toNat_natCast, List.getD_eq_getElem?_getD, List.getElem?_eq_getElem hlt]; rfl
    rw [List.drop_eq_getElem_cons hlt, List.all_cons]
    have hbm := hb _ hm
    refine Ev.step (f := fun k => (figureheadref05_Good.f k ls[n].f0 ls[n].f1 ls[n].f2).bind fun t => if t = true then if (ls[n].f1.size : Int) > 200 then some false else figureheadlaw06_good.l0 k ls ((n + 1 : Nat) : Int) else some false) (fun k => ?_) ?_
    · simp only [figureheadlaw06_good.l0]; rw [if_pos (by omega), if_pos (by omega), hrd, succ64 _ (by omega)]
    · refine Ev.bind (Good05_ev (by omega)) ?_
      cases hg : goodD ls[n].f1 ls[n].f2
      · refine evF (by decide) (evIs (Ev.now false) (by simp))
      · refine evT rfl ?_
        by_cases h2 : (ls[n].f1.size : Int) > 200
        · have : ¬ ls[n].f1.size ≤ 200 := by omega
          exact evT h2 (evIs (Ev.now false) (by simp [this]))
        · have h3 : ls[n].f1.size ≤ 200 := by omega
          refine evF h2 (evIs (good06_loop ls hl hb d (n + 1) (by omega) (by omega)) ?_)
          simp [h3]
theorem good06_ev {ls : List S23} (hl : ls.length ≤ 1000) (hb : ∀ d ∈ ls, d.f1.size ≤ 140737488351232) : Ev (fun k => figureheadlaw06_good.f k ls) (ls.all fun x => goodD x.f1 x.f2 && decide (x.f1.size ≤ 200)) := by
  have := good06_loop ls hl hb ls.length 0 (by omega) (by omega)
  rw [List.drop_zero] at this
  exact this
end Go.Proofs.YtbjaiphfehnncaaDoor.Px
end
section
namespace Go.Proofs.YtbjaiphfehnncaaDoor.Px
open Fig Go.RowKit Go.Proofs.YtbjaiphfehnncaaDoorW.PrintWords Go.Proofs.YtbjaiphfehnncaaDoorW.PrintLast Go.Proofs.YtbjaiphfehnncaaDoorW.PrintMore
attribute [local go_sem] max2_int min2_int max_two min_two max_three min_three max_four min_four   -- for this text's walks alone
attribute [local go_sem] fieldA23_0 fieldA23_1 fieldA23_2
theorem numP {s : ByteArray} (h : dB s = true) (hne : s.size ≠ 0) (hs : s.size ≤ 140737488351232) : ten_Number.f s = some (limbs (vB s), true) := by
  unfold ten_Number.f; rw [if_pos hs, if_pos ⟨h, hne⟩]
end Go.Proofs.YtbjaiphfehnncaaDoor.Px
end
section
namespace Go.Proofs.YtbjaiphfehnncaaDoor.Px
open Fig Go.RowKit Go.Proofs.YtbjaiphfehnncaaDoorW.PrintWords Go.Proofs.YtbjaiphfehnncaaDoorW.PrintLast Go.Proofs.YtbjaiphfehnncaaDoorW.PrintMore
attribute [local go_sem] max2_int min2_int max_two min_two max_three min_three max_four min_four   -- for this text's walks alone
attribute [local go_sem] fieldA23_0 fieldA23_1 fieldA23_2
theorem coefP {b : Bool} {s : ByteArray} {e : Int} (h : OkD s e) : dec_Coef.f b s e = some (limbs (vB s)) := by
  have := h.sz
  unfold dec_Coef.f; rw [numP h.d h.ne (by omega)]; rfl
end Go.Proofs.YtbjaiphfehnncaaDoor.Px
end
section
namespace Go.Proofs.YtbjaiphfehnncaaDoor.Px
open Fig Go.RowKit Go.Proofs.YtbjaiphfehnncaaDoorW.PrintWords Go.Proofs.YtbjaiphfehnncaaDoorW.PrintLast Go.Proofs.YtbjaiphfehnncaaDoorW.PrintMore
attribute [local go_sem] max2_int min2_int max_two min_two max_three min_three max_four min_four   -- for this text's walks alone
attribute [local go_sem] fieldA23_0 fieldA23_1 fieldA23_2
def dec_size.f (a0_0 : Bool) (a0_1 : ByteArray) (a0_2 : Int) (a1 : Int) : Option (List Int) := (dec_Coef.f a0_0 a0_1 a0_2).bind fun t141 => ((ten_Shift.f t141 (wrap64 (a0_2 - a1))).bind fun t144 => (some t144))
def dec_size.T1 : Bool × List (List Nat × List Nat) := (true, [([], []), ([0], [0]), ([], []), ([2], [2]), ([], []), ([3, 4], [3, 4]), ([1, 5, 1], [1, 5]), ([6, 6, 0, 1, 2, 3, 4, 5, 6], [6])])
def dec_size.B1 : List Nat := [0, 1, 0, 4, 0, 28, 63, 127]
theorem dec_size.tab1 : rtab .any (opsOf Tryd.f47 1) = dec_size.T1 := by kernel_rfl
theorem dec_size.bits1 : waitsOk dec_size.T1.2 dec_size.B1 = true := by kernel_rfl
set_option maxHeartbeats 8000000 in
set_option maxRecDepth 100000 in
theorem dec_size.calls (a0_0 : Bool) (a0_1 : ByteArray) (a0_2 : Int) (a1 : Int) (r : List Int) (w : World) (hG : Fig.Glob w) (h : dec_size.f a0_0 a0_1 a0_2 a1 = some r) :
    Calls Tryd.prog 47 #[.agg #[.bool a0_0, .string a0_1, .int .i64 a0_2], .int .i64 a1] w fun e w' => ∃ v0_ : Value, e = .returned (v0_) ∧ Kd.R (Kd.int .u32) 47 w' w.heap.size (fun _ => True) v0_ r ∧ Below w.heap.size w w' := by
  have hu23 := Tryd.underlying23
  have HG := Aside0.mk hG
  clear hG
  have HB := Aside0.mk (Below.refl w.heap.size w)
  have H : ((dec_Coef.f a0_0 a0_1 a0_2).bind fun t141 => ((ten_Shift.f t141 (wrap64 (a0_2 - a1))).bind fun t144 => (some t144))) = some r := h
  clear h
  replace H := Option.bind_eq_some_iff.mp H
  obtain ⟨t141, A30, H⟩ := H
  replace H : ((ten_Shift.f t141 (wrap64 (a0_2 - a1))).bind fun t144 => (some t144)) = some r := H
  have A3 := Aside0.mk A30
  clear A30
  replace H := Option.bind_eq_some_iff.mp H
  obtain ⟨t144, A40, H⟩ := H
  replace H : (some t144) = some r := H
  have A4 := Aside0.mk A40
  clear A40
  obtain rfl := Option.some.inj H
  go_enter Tryd.func47, Tryd.ntmps47
  try go_wp2_with (first | ((with_reducible refine gate_dst (N := 2) rfl ?_); refine box_event ?hg (N := 2) ?hd (cs := #[.bool a0_0, .string a0_1, .int .i64 a0_2]) (t := 23) ?hr ?_; (case hd => rfl); (case hg => rfl); (case hr => first | (go_simp; done) | (go_simp; rfl)); intro gb140 hg w5 hbox hb; have n0_ := Aside0.mk (below_step (by repeat (first | (with_reducible first | exact HB.out | apply below_alloc | apply pw_below_drewN | apply below_drew1) | exact HB.out)) hb); have n1_ := Aside0.mk (hbox); have n2_ := Aside0.mk ((by rw [hg]; exact (below_size (by repeat (first | (with_reducible first | exact HB.out | apply below_alloc | apply pw_below_drewN | apply below_drew1) | exact HB.out))) : w.heap.size ≤ gb140)); have n3_ := Aside0.mk ((by rw [hg]; exact (below_size (by repeat (first | (with_reducible first | exact HB.out | apply below_alloc | apply pw_below_drewN | apply below_drew1) | exact HB.out))) : w.heap.size ≤ gb140)); clear HB; have HB := n0_; have BK140 := n1_; have GW140 := n2_; have GE140 := n3_; clear n0_ n1_ n2_ n3_; clear hb hbox hg))
  have n0_ := Aside0.mk (blk_drew BK140.out)
  have n1_ := Aside0.mk (below_drew1 HB.out)
  clear BK140
  clear HB
  have BK140 := n0_
  have HB := n1_
  clear n0_ n1_
  refine start_ (n := 8) (S := fun w' => w'.cell? ⟨gb140, 0, none⟩ = some (.bool a0_0) ∧ w'.cell? ⟨gb140, 1, none⟩ = some (.string a0_1) ∧ w'.cell? ⟨gb140, 2, none⟩ = some (.int .i64 a0_2)) (ds := []) #[false, false, false, false, false, false, false, false] (by kernel_rfl) rfl rfl ⟨(blk_cell BK140.out 0).trans rfl, (blk_cell BK140.out 1).trans rfl, (blk_cell BK140.out 2).trans rfl⟩ (fun hHeld => ?_); refine with_tabW dec_size.tab1 dec_size.bits1 (fun HT_ HW_ => ?_)
  generalize w5.drew = w6 at BK140 HB hHeld ⊢
  refine pure_ (i := 2) (N := some 7) (v := ?_) (a' := ?_) #[false, false, true, false, false, false, false, false] rfl rfl (any_of HT_.out (by kernel_rfl)) (fun _ _ _ h => h) (Or.inl ⟨by rfl, ?_⟩) ?_ ?_
  rotate_left
  · intro w'
    go_simp
    with_reducible rfl
  rotate_left
  · simp only [Act.put, List.setIfInBounds_toArray, List.set_cons_zero, List.set_cons_succ]; (try simp only [i64_w]); (try simp only [i32_w])
    rfl
  refine pure_ (i := 4) (N := some 9) (v := ?_) (a' := ?_) #[false, false, true, false, true, false, false, false] rfl rfl (any_of HT_.out (by kernel_rfl)) (fun _ _ _ h => h) (Or.inl ⟨by rfl, ?_⟩) ?_ ?_
  rotate_left
  · intro w'
    go_simp
    with_reducible rfl
  rotate_left
  · simp only [Act.put, List.setIfInBounds_toArray, List.set_cons_zero, List.set_cons_succ]; (try simp only [i64_w]); (try simp only [i32_w])
    rfl
  refine take_ (i := 0) (N := some 5) (v := ?_) (a' := ?_) #[true, false, true, false, true, false, false, false] rfl rfl (take_ofW HT_.out HW_.out (by kernel_rfl)) (fun _ _ _ h => h) (Or.inl ⟨by rfl, ?_⟩) hHeld ?_ ?_
  rotate_left
  · rintro w' ⟨s0, s1, s2⟩
    go_simp
    with_reducible rfl
  rotate_left
  · simp only [Act.put, List.setIfInBounds_toArray, List.set_cons_zero, List.set_cons_succ]; (try simp only [i64_w]); (try simp only [i32_w])
    rfl
  refine take_ (i := 3) (N := some 8) (v := ?_) (a' := ?_) #[true, false, true, true, true, false, false, false] rfl rfl (take_ofW HT_.out HW_.out (by kernel_rfl)) (fun _ _ _ h => h) (Or.inl ⟨by rfl, ?_⟩) hHeld ?_ ?_
  rotate_left
  · rintro w' ⟨s0, s1, s2⟩
    go_simp
    with_reducible rfl
  rotate_left
  · simp only [Act.put, List.setIfInBounds_toArray, List.set_cons_zero, List.set_cons_succ]; (try simp only [i64_w]); (try simp only [i32_w])
    rfl
  refine pure_ (i := 5) (N := some 10) (v := ?_) (a' := ?_) #[true, false, true, true, true, true, false, false] rfl rfl (any_of HT_.out (by kernel_rfl)) (fun _ _ _ h => h) (Or.inl ⟨by rfl, ?_⟩) ?_ ?_
  rotate_left
  · intro w'
    go_simp
    with_reducible rfl
  rotate_left
  · simp only [Act.put, List.setIfInBounds_toArray, List.set_cons_zero, List.set_cons_succ]; (try simp only [i64_w]); (try simp only [i32_w])
    rfl
  refine one_ (i := 1) (N := some 6) #[true, true, true, true, true, true, false, false] rfl rfl (one_of HT_.out (by kernel_rfl)) (by decide) (fun K hK => ?_)
  refine goes_ Tryd.func23 (by kernel_rfl) rfl #[.agg #[.bool a0_0, .string a0_1, .int .i64 a0_2]] (by rfl) rfl rfl (by (try simp only [List.map_toArray]); (try simp only [List.map_cons]); (try simp only [List.map_nil]); first | done | rfl | (simp only [List.length_drop, List.length_take]; rfl)) ?_
  with_reducible refine (dec_Coef.calls a0_0 a0_1 a0_2 t141 _ A3.out).mono ?_
  rintro e w7 ⟨v142, rfl, ho0, hb⟩
  refine ⟨_, rfl, ?_⟩
  have n0_ := Aside0.mk (Kd.R_lower ho0 (below_size (by repeat (first | (with_reducible first | exact HB.out | apply below_alloc | apply pw_below_drewN | apply below_drew1 | refine below_set ?_ GE140.out) | exact HB.out))))
  have n1_ := Aside0.mk (blk_below (g := gb140) (o := .cells #[.bool a0_0, .string a0_1, .int .i64 a0_2] 23 (0, 0)) (by (with_reducible repeat (first | refine blk_drewN ?_ _ | refine blk_drew ?_ | refine blk_alloc ?_ _)); exact BK140.out) hb)
  have n2_ := Aside0.mk (below_step (by repeat (first | (with_reducible first | exact HB.out | apply below_alloc | apply pw_below_drewN | apply below_drew1 | refine below_set ?_ GE140.out) | exact HB.out)) hb)
  clear BK140
  clear HB
  have HO143 := n0_
  have BK140 := n1_
  have HB := n2_
  clear n0_ n1_ n2_
  (try clear hb)
  (try clear hb2)
  (try clear hk)
  (try clear hi)
  (try clear ho0)
  obtain ⟨Ao8, co8, eo8⟩ := Kd.R_slice HO143.out
  (first | subst eo8 | (injection eo8 with f1_ f2_ f3_; have f4_ := f1_.symm; have f5_ := f3_.symm; clear f1_ f2_ f3_; subst f4_; subst f5_))
  refine hK.out _ _ ⟨(blk_cell BK140.out 0).trans rfl, (blk_cell BK140.out 1).trans rfl, (blk_cell BK140.out 2).trans rfl⟩ (fun hHeld => ?_)
  clear hK K
  refine norm_ (a' := ?_) ?_ ?_
  rotate_left
  · show Act.put _ (some 6) _ = _
    simp only [Act.put, List.setIfInBounds_toArray, List.set_cons_zero, List.set_cons_succ]; (try simp only [i64_w]); (try simp only [i32_w])
    rfl
  refine one_ (i := 6) (N := some 11) #[true, true, true, true, true, true, true, false] rfl rfl (one_of HT_.out (by kernel_rfl)) (by decide) (fun K hK => ?_)
  refine goes_ Tryd.func52 (by kernel_rfl) rfl #[.slice Ao8 t141.length co8, .int .i64 (wrap64 (a0_2 - a1))] (by rfl) rfl rfl (by (try simp only [List.map_toArray]); (try simp only [List.map_cons]); (try simp only [List.map_nil]); first | done | rfl | (simp only [List.length_drop, List.length_take]; rfl)) ?_
  with_reducible refine (ten_Shift.calls _ _ t141 (wrap64 (a0_2 - a1)) t144 _ ?side1 ?side2 ?side3 A4.out).mono ?_
  (case side1 => exact Fig.Glob.below HG.out (by repeat (first | (with_reducible first | exact HB.out | apply below_alloc | apply pw_below_drewN | apply below_drew1 | refine below_set ?_ GE140.out) | exact HB.out)))
  (case side2 => repeat (first | exact (Kd.R_reads' HO143.out).2.2 | (with_reducible refine Kd.C_alloc ?_ _) | (with_reducible refine Kd.C_drewN ?_ _) | (with_reducible refine Kd.C_drew ?_)))
  (case side3 => exact (Kd.R_reads' HO143.out).2.1)
  rintro e w9 ⟨v145, rfl, ho0, hb⟩
  refine ⟨_, rfl, ?_⟩
  have n0_ := Aside0.mk (Kd.R_elder' (by (with_reducible repeat (first | apply Kd.R_alloc | apply Kd.R_drewN | apply Kd.R_drew)); exact HO143.out) (Kd.R_base ho0) hb)
  have n1_ := Aside0.mk (Kd.R_lower (Kd.R_new' ho0 (Kd.R_lt (by (with_reducible repeat (first | apply Kd.R_alloc | apply Kd.R_drewN | apply Kd.R_drew)); exact HO143.out))) (below_size (by repeat (first | (with_reducible first | exact HB.out | apply below_alloc | apply pw_below_drewN | apply below_drew1 | refine below_set ?_ GE140.out) | exact HB.out))))
  have n2_ := Aside0.mk (blk_below (g := gb140) (o := .cells #[.bool a0_0, .string a0_1, .int .i64 a0_2] 23 (0, 0)) (by (with_reducible repeat (first | refine blk_drewN ?_ _ | refine blk_drew ?_ | refine blk_alloc ?_ _)); exact BK140.out) hb)
  have n3_ := Aside0.mk (below_step (by repeat (first | (with_reducible first | exact HB.out | apply below_alloc | apply pw_below_drewN | apply below_drew1 | refine below_set ?_ GE140.out) | exact HB.out)) hb)
  clear HO143
  clear BK140
  clear HB
  have HO143 := n0_
  have HO146 := n1_
  have BK140 := n2_
  have HB := n3_
  clear n0_ n1_ n2_ n3_
  (try clear hb)
  (try clear hb2)
  (try clear hk)
  (try clear hi)
  (try clear ho0)
  refine hK.out _ _ ⟨(blk_cell BK140.out 0).trans rfl, (blk_cell BK140.out 1).trans rfl, (blk_cell BK140.out 2).trans rfl⟩ (fun hHeld => ?_)
  clear hK K
  refine norm_ (a' := ?_) ?_ ?_
  rotate_left
  · show Act.put _ (some 11) _ = _
    simp only [Act.put, List.setIfInBounds_toArray, List.set_cons_zero, List.set_cons_succ]; (try simp only [i64_w]); (try simp only [i32_w])
    rfl
  refine pure_ (i := 7) (N := some 4) (v := ?_) (a' := ?_) #[true, true, true, true, true, true, true, true] rfl rfl (any_of HT_.out (by kernel_rfl)) (fun _ _ _ h => h) (Or.inl ⟨by rfl, ?_⟩) ?_ ?_
  rotate_left
  · intro w'
    go_simp
    with_reducible rfl
  rotate_left
  · simp only [Act.put, List.setIfInBounds_toArray, List.set_cons_zero, List.set_cons_succ]; (try simp only [i64_w]); (try simp only [i32_w])
    rfl
  refine done_ (done_of HT_.out (by kernel_rfl)) ?_
  try go_wp2
  go_ret
  exact ⟨_, by first | rfl | (simp [errW_none, errW_some] <;> rfl) | (simp [*, errW_none, errW_some] <;> rfl), by (with_reducible repeat (first | apply Kd.R_alloc | apply Kd.R_drewN | apply Kd.R_drew)); exact Kd.R_mono HO146.out (fun _ hk => trivial), by repeat (first | (with_reducible first | exact HB.out | apply below_alloc | apply pw_below_drewN | apply below_drew1 | refine below_set ?_ GE140.out) | exact HB.out)⟩
end Go.Proofs.YtbjaiphfehnncaaDoor.Px
end
section
namespace Go.Proofs.YtbjaiphfehnncaaDoor.Px
open Fig Go.RowKit Go.Proofs.YtbjaiphfehnncaaDoorW.PrintWords Go.Proofs.YtbjaiphfehnncaaDoorW.PrintLast Go.Proofs.YtbjaiphfehnncaaDoorW.PrintMore
attribute [local go_sem] max2_int min2_int max_two min_two max_three min_three max_four min_four   -- for this text's walks alone
attribute [local go_sem] fieldA23_0 fieldA23_1 fieldA23_2
theorem shiftP {l : List Int} {n : Int} (g : goodL l = true) (hl : l.length ≤ 500000) (hn : n ≤ 1000000) : ten_Shift.f l n = some (limbs (valL l * 10 ^ n.toNat)) := by unfold ten_Shift.f; rw [if_pos ⟨g, hl, hn⟩]
theorem coef_len {s : ByteArray} {e : Int} (h : OkD s e) : (limbs (vB s)).length ≤ 100000 := by
  have := limbs_len_digB (vB s)
  have := h.val
  have := h.sz
  omega
end Go.Proofs.YtbjaiphfehnncaaDoor.Px
end
section
namespace Go.Proofs.YtbjaiphfehnncaaDoor.Px
open Fig Go.RowKit Go.Proofs.YtbjaiphfehnncaaDoorW.PrintWords Go.Proofs.YtbjaiphfehnncaaDoorW.PrintLast Go.Proofs.YtbjaiphfehnncaaDoorW.PrintMore
attribute [local go_sem] max2_int min2_int max_two min_two max_three min_three max_four min_four   -- for this text's walks alone
attribute [local go_sem] fieldA23_0 fieldA23_1 fieldA23_2
theorem w_add (e : Int) (p : Nat) (h1 : -1000000 ≤ e) (h2 : e ≤ 1000000) (hp : p ≤ 1000000) : wrap64 (e + (p : Int)) = e + (p : Int) := w64 (by omega) (by omega)
theorem w_norm (e : Int) (p q : Nat) (h1 : -1000000 ≤ e) (h2 : e ≤ 1000000) (hp : p ≤ 1000000) (hq : q ≤ 1000000) : wrap64 (wrap64 (e + (p : Int)) - (q : Int)) = e + (p : Int) - (q : Int) := by rw [w_add e p h1 h2 hp, w64 (by omega) (by omega)]
theorem normP {b : Bool} {s : ByteArray} {e : Int} (h : OkD s e) : dec_Norm.f b s e = some (b, nD (vB s), nE (vB s) e) := by
  have hz := h.val
  have h1 := h.sz
  have h2 := h.lo
  have h3 := h.hi
  unfold dec_Norm.f
  rw [show strings_TrimLeft.f s (⟨#[48]⟩ : ByteArray) = some (digB (vB s)) by unfold strings_TrimLeft.f; rw [if_pos rfl, stripB_eq h.d]]
  simp only [Option.bind_some]
  by_cases h0 : vB s = 0
  · rw [if_pos (digB_toList_nil.2 h0), h0]; rfl
  · rw [if_neg (fun hh => h0 (digB_toList_nil.1 hh))]
    have hl := digB_len_core h0
    have ht : strings_TrimRight.f (digB (vB s)) (⟨#[48]⟩ : ByteArray) = some (digB (core (vB s))) := by
      unfold strings_TrimRight.f
      rw [if_pos ⟨rfl, by omega⟩]
      show some (⟨(Lib.trimRightB (digs (vB s)) 48).toArray⟩ : ByteArray) = _
      unfold Lib.trimRightB; rw [trimR_digs h0]; rfl
    rw [ht]
    simp only [Option.bind_some]
    rw [w_norm e _ _ (by omega) (by omega) (by omega) (by omega)]
    unfold nD nE
    rw [if_neg h0, if_neg h0, show e + ((digB (vB s)).size : Int) - ((digB (core (vB s))).size : Int) = e + (tz (vB s) : Int) by omega]
end Go.Proofs.YtbjaiphfehnncaaDoor.Px
end
section
namespace Go.Proofs.YtbjaiphfehnncaaDoor.Px
open Fig Go.RowKit Go.Proofs.YtbjaiphfehnncaaDoorW.PrintWords Go.Proofs.YtbjaiphfehnncaaDoorW.PrintLast Go.Proofs.YtbjaiphfehnncaaDoorW.PrintMore
attribute [local go_sem] max2_int min2_int max_two min_two max_three min_three max_four min_four   -- for this text's walks alone
attribute [local go_sem] fieldA23_0 fieldA23_1 fieldA23_2
theorem zeroB_ok (v : Nat) : dB (zeroB v) = true ∧ (zeroB v).size ≠ 0 ∧ vB (zeroB v) = v := by
  unfold zeroB
  by_cases h : v = 0
  · rw [if_pos h, h]; exact ⟨rfl, by decide, rfl⟩
  · rw [if_neg h]; exact ⟨dB_digB v, fun e => h (digB_empty_iff.1 e), vB_digB v⟩
theorem zeroB_size {v k : Nat} (h : (digB v).size ≤ k) (hk : 1 ≤ k) : (zeroB v).size ≤ k := by
  unfold zeroB
  by_cases h0 : v = 0
  · rw [if_pos h0]; exact hk
  · rw [if_neg h0]; exact h
theorem digitsP {v k : Nat} (h : (digB v).size ≤ k) (hk : k ≤ 1000000) : ten_Digits.f (limbs v) = some (zeroB v) := by
  have := limbs_len_digB v
  unfold ten_Digits.f; rw [if_pos ⟨limbs_good v, by omega⟩, limbs_val]
theorem madeP {b : Bool} {v : Nat} {e : Int} (hz : (digB v).size ≤ 50000) (h1 : -100000 ≤ e) (h2 : e ≤ 100000) : arith_made.f b (limbs v) e = some (resD (sg b v) e) := by
  obtain ⟨d1, d2, d3⟩ := zeroB_ok v
  have d4 := zeroB_size (k := 50000) hz (by decide)
  unfold arith_made.f
  rw [digitsP hz (by decide)]
  simp only [Option.bind_some]
  rw [normP ⟨d1, d2, by omega, h1, h2⟩, d3, resD_sg]
  simp only [Option.bind_some]
  cases b
  · simp
  · have : ((limbs v).length : Int) > 0 ↔ v ≠ 0 := by
      constructor
      · intro h e; rw [e, limbs_zero] at h; simp at h
      · intro h
        have : (limbs v).length ≠ 0 := fun e => h (limbs_nil_iff.1 (List.eq_nil_of_length_eq_zero e))
        omega
    simp only [if_true, Bool.true_and, decide_eq_decide.2 this]
end Go.Proofs.YtbjaiphfehnncaaDoor.Px
end
section
namespace Go.Proofs.YtbjaiphfehnncaaDoor.Px
open Fig Go.RowKit Go.Proofs.YtbjaiphfehnncaaDoorW.PrintWords Go.Proofs.YtbjaiphfehnncaaDoorW.PrintLast Go.Proofs.YtbjaiphfehnncaaDoorW.PrintMore
attribute [local go_sem] max2_int min2_int max_two min_two max_three min_three max_four min_four   -- for this text's walks alone
attribute [local go_sem] fieldA23_0 fieldA23_1 fieldA23_2
theorem addP {a b : Bool} {s t : ByteArray} {e f : Int} (h : OkS s e) (g : OkS t f) : arith_Add.f a s e b t f = some (sumD a (vB s) e b (vB t) f) := by
  have hs := h.ok.val
  have hsz := h.sz
  have hlo := h.lo
  have hhi := h.hi
  have gs := g.ok.val
  have gsz := g.sz
  have glo := g.lo
  have ghi := g.hi
  have hm : mn e f = min e f := by unfold mn; omega
  obtain ⟨m, hm2⟩ : ∃ m, m = min e f := ⟨_, rfl⟩
  have x1 := size_vZ a (n := vB s) (p := 10000) e m (by omega)
  have y1 := size_vZ b (n := vB t) (p := 10000) f m (by omega)
  rw [vZ_natAbs] at x1 y1
  have lx := coef_len h.ok
  have ly := coef_len g.ok
  have s1 : ten_Shift.f (limbs (vB s)) (wrap64 (e - m)) = some (limbs (atE (vB s) e m)) := by
    rw [w64 (x := e - m) (by omega) (by omega), shiftP (limbs_good _) (by omega) (by omega), limbs_val]; rfl
  have s2 : ten_Shift.f (limbs (vB t)) (wrap64 (f - m)) = some (limbs (atE (vB t) f m)) := by
    rw [w64 (x := f - m) (by omega) (by omega), shiftP (limbs_good _) (by omega) (by omega), limbs_val]; rfl
  unfold arith_Add.f
  rw [hm, ← hm2, coefP h.ok]
  simp only [Option.bind_some]
  rw [s1]
  simp only [Option.bind_some]
  rw [coefP g.ok]
  simp only [Option.bind_some]
  rw [s2]
  simp only [Option.bind_some]
  rw [sumD_at (k := m) (by omega) (by omega)]
  unfold vZ
  obtain ⟨x, hx⟩ : ∃ x, x = atE (vB s) e m := ⟨_, rfl⟩
  obtain ⟨y, hy⟩ : ∃ y, y = atE (vB t) f m := ⟨_, rfl⟩
  rw [← hx, ← hy]
  rw [← hx] at x1
  rw [← hy] at y1
  have x2 : (digB x).size ≤ 30000 := by omega
  have y2 : (digB y).size ≤ 30000 := by omega
  have l1 := limbs_len_digB x
  have l2 := limbs_len_digB y
  cases hab : (a == b)
  · rw [if_neg (by decide)]
    by_cases hl : x < y
    · have q1 : nat_Sub.f (limbs x) (limbs y) = some ([], false) := subF_lt (limbs_good _) (limbs_good _) (by omega) (by omega) (by rw [limbs_val, limbs_val]; exact hl)
      have q2 : nat_Sub.f (limbs y) (limbs x) = some (limbs (y - x), true) := by
        have := subF_ge (limbs_good y) (limbs_good x) (by omega) (by omega) (by rw [limbs_val, limbs_val]; omega)
        rwa [limbs_val, limbs_val] at this
      rw [q1]
      simp only [Option.bind_some]
      rw [if_neg (by decide), q2]
      simp only [Option.bind_some]
      have := digB_mono (Nat.sub_le y x) y2
      rw [madeP (by omega) (by omega) (by omega), sg_sub' hab (by omega)]; rfl
    · have q1 : nat_Sub.f (limbs x) (limbs y) = some (limbs (x - y), true) := by
        have := subF_ge (limbs_good x) (limbs_good y) (by omega) (by omega) (by rw [limbs_val, limbs_val]; omega)
        rwa [limbs_val, limbs_val] at this
      rw [q1]
      simp only [Option.bind_some]
      rw [if_pos trivial]
      have := digB_mono (Nat.sub_le x y) x2
      rw [madeP (by omega) (by omega) (by omega), sg_sub hab (by omega)]; rfl
  · obtain rfl := beq_iff_eq.1 hab
    have q1 : nat_Add.f (limbs x) (limbs y) = some (limbs (x + y)) := by
      have := addF_eq (limbs_good x) (limbs_good y) (by omega) (by omega)
      rwa [limbs_val, limbs_val] at this
    rw [if_pos rfl, q1]
    simp only [Option.bind_some]
    have := digB_add_le x2 y2
    rw [madeP (by omega) (by omega) (by omega), sg_add]; rfl
end Go.Proofs.YtbjaiphfehnncaaDoor.Px
end
section
namespace Go.Proofs.YtbjaiphfehnncaaDoor.Px
open Fig Go.RowKit Go.Proofs.YtbjaiphfehnncaaDoorW.PrintWords Go.Proofs.YtbjaiphfehnncaaDoorW.PrintLast Go.Proofs.YtbjaiphfehnncaaDoorW.PrintMore
attribute [local go_sem] max2_int min2_int max_two min_two max_three min_three max_four min_four   -- for this text's walks alone
attribute [local go_sem] fieldA23_0 fieldA23_1 fieldA23_2
theorem subP {a b : Bool} {s t : ByteArray} {e f : Int} (h : OkS s e) (g : OkS t f) : arith_Sub.f a s e b t f = some (sumD a (vB s) e (!b) (vB t) f) := by
  unfold arith_Sub.f; rw [addP h g]; rfl
end Go.Proofs.YtbjaiphfehnncaaDoor.Px
end
section
namespace Go.Proofs.YtbjaiphfehnncaaDoor.Px
open Fig Go.RowKit Go.Proofs.YtbjaiphfehnncaaDoorW.PrintWords Go.Proofs.YtbjaiphfehnncaaDoorW.PrintLast Go.Proofs.YtbjaiphfehnncaaDoorW.PrintMore
attribute [local go_sem] max2_int min2_int max_two min_two max_three min_three max_four min_four   -- for this text's walks alone
attribute [local go_sem] fieldA23_0 fieldA23_1 fieldA23_2
theorem Mul_loop (a b : List Int) (ga : goodL a = true) (gb : goodL b = true) (la : a.length ≤ 1000000) (lb : b.length ≤ 1000000) : ∀ (d n : Nat) (x : List Int), b.length - n = d → n ≤ b.length → goodL x = true → x.length = a.length + b.length + 1 → valL x = valL a * valL (b.take n) →
    Ev (fun k => mul_Mul.l0 k a x b (b.length : Int) (n : Int)) (limbs (valL a * valL b))
  | 0, n, x, h1, h2, gx, hx, hv => by
    refine evDone (r' := limbs (valL x)) (fun k => ?_) ?_
    · simp only [mul_Mul.l0, nat_Trim.f]; rw [if_neg (by omega), trimF_eq gx (by omega)]; rfl
    · rw [hv, List.take_of_length_le (by omega)]
  | d + 1, n, x, h1, h2, gx, hx, hv => by
    have hnb : n < b.length := by omega
    have pb := goodL_iff.1 gb _ (List.getElem_mem hnb)
    obtain ⟨y, hy⟩ : ∃ v : Nat, b[n] = (v : Int) := ⟨b[n].toNat, by omega⟩
    have e : valL (b.take (n + 1)) = valL (b.take n) + 1000000000 ^ n * y := by
      rw [List.take_succ_eq_append_getElem hnb, valL_snoc, hy, Int.toNat_natCast, List.length_take, Nat.min_eq_left (by omega)]
    have key : valL x + 1000000000 ^ n * (valL a * y) = valL a * valL (b.take (n + 1)) := by
      rw [hv, e, Nat.mul_add, Nat.mul_left_comm (1000000000 ^ n)]
    have hlt : valL x + 1000000000 ^ n * (valL a * y) < 1000000000 ^ x.length := by
      rw [key, hx]
      have va := valL_lt ga
      have vb := valL_lt (goodL_take gb (n + 1))
      have h3 := Nat.mul_lt_mul'' va vb
      rw [← Nat.pow_add] at h3
      exact Nat.lt_of_lt_of_le h3 (Nat.pow_le_pow_right (by omega) (by rw [List.length_take]; omega))
    obtain ⟨r, hr, g1, g2, g3⟩ := row_ev (p := n) gx ga (show y < 1000000000 by omega) (by omega) (by omega) hlt
    refine Ev.step (f := fun k => (mul_row.f k x a (y : Int) (n : Int)).bind fun t => mul_Mul.l0 k a t b (b.length : Int) ((n + 1 : Nat) : Int)) (fun k => ?_) (Ev.bind hr (Mul_loop a b ga gb la lb d (n + 1) r (by omega) (by omega) g1 (by omega) (by rw [g3, key])))
    simp only [mul_Mul.l0]; rw [if_pos (by omega), if_pos (by omega), if_pos (by omega), rd_get hnb, hy, succ64 _ (by omega)]
theorem Mul_ev {a b : List Int} (ga : goodL a = true) (gb : goodL b = true) (la : a.length ≤ 1000000) (lb : b.length ≤ 1000000) : Ev (fun k => mul_Mul.f k a b) (limbs (valL a * valL b)) := by
  unfold mul_Mul.f
  rw [times_len _ _ la lb]
  have c1 : (0 : Int) ≤ ((a.length + b.length + 1 : Nat) : Int) := by omega
  have c2 : a.length + b.length + 1 ≤ 70368744177664 := by omega
  simp only [Int.toNat_natCast, c1, c2, if_true]
  exact Mul_loop a b ga gb la lb b.length 0 _ rfl (by omega) (goodL_replicate _) (by simp) (by rw [valL_replicate]; simp [valL])
end Go.Proofs.YtbjaiphfehnncaaDoor.Px
end
section
namespace Go.Proofs.YtbjaiphfehnncaaDoor.Px
open Fig Go.RowKit Go.Proofs.YtbjaiphfehnncaaDoorW.PrintWords Go.Proofs.YtbjaiphfehnncaaDoorW.PrintLast Go.Proofs.YtbjaiphfehnncaaDoorW.PrintMore
attribute [local go_sem] max2_int min2_int max_two min_two max_three min_three max_four min_four   -- for this text's walks alone
attribute [local go_sem] fieldA23_0 fieldA23_1 fieldA23_2
theorem mulP_ev {a b : Bool} {s t : ByteArray} {e f : Int} (h : OkS s e) (g : OkS t f) : Ev (fun k => arith_Mul.f k a s e b t f) (prodD a (vB s) e b (vB t) f) := by
  have hsz := h.sz
  have hlo := h.lo
  have hhi := h.hi
  have gsz := g.sz
  have glo := g.lo
  have ghi := g.hi
  have hs := h.ok.val
  have gs := g.ok.val
  have hm := digB_mul_le (p := 10000) (q := 10000) (show (digB (vB s)).size ≤ 10000 by omega) (show (digB (vB t)).size ≤ 10000 by omega)
  have lx := coef_len h.ok
  have ly := coef_len g.ok
  unfold arith_Mul.f
  refine evE (coefP h.ok) (evE (coefP g.ok) (Ev.bind (Mul_ev (limbs_good _) (limbs_good _) (by omega) (by omega)) ?_))
  rw [limbs_val, limbs_val, w64 (x := e + f) (by omega) (by omega)]
  refine evE (madeP (by omega) (by omega) (by omega)) ?_
  rw [sg_mul]; exact Ev.now _
end Go.Proofs.YtbjaiphfehnncaaDoor.Px
end
section
namespace Go.Proofs.YtbjaiphfehnncaaDoor.Px
open Fig Go.RowKit Go.Proofs.YtbjaiphfehnncaaDoorW.PrintWords Go.Proofs.YtbjaiphfehnncaaDoorW.PrintLast Go.Proofs.YtbjaiphfehnncaaDoorW.PrintMore
attribute [local go_sem] max2_int min2_int max_two min_two max_three min_three max_four min_four   -- for this text's walks alone
attribute [local go_sem] fieldA23_0 fieldA23_1 fieldA23_2
theorem negP {b : Bool} {s : ByteArray} {e : Int} (h : OkD s e) : arith_Neg.f b s e = some (!b, nD (vB s), nE (vB s) e) := by
  unfold arith_Neg.f; rw [normP h]; rfl
end Go.Proofs.YtbjaiphfehnncaaDoor.Px
end
section
namespace Go.Proofs.YtbjaiphfehnncaaDoor.Px
open Fig Go.RowKit Go.Proofs.YtbjaiphfehnncaaDoorW.PrintWords Go.Proofs.YtbjaiphfehnncaaDoorW.PrintLast Go.Proofs.YtbjaiphfehnncaaDoorW.PrintMore
attribute [local go_sem] max2_int min2_int max_two min_two max_three min_three max_four min_four   -- for this text's walks alone
attribute [local go_sem] fieldA23_0 fieldA23_1 fieldA23_2
theorem scaleP {b : Bool} {s : ByteArray} {e n : Int} (h : OkD s (e + n)) (h1 : -1000000 ≤ e) (h2 : e ≤ 1000000) (h3 : -1000000 ≤ n) (h4 : n ≤ 1000000) : arith_Scale.f b s e n = some (b, nD (vB s), nE (vB s) (e + n)) := by
  unfold arith_Scale.f; rw [w64 (x := e + n) (by omega) (by omega), normP h]; rfl
end Go.Proofs.YtbjaiphfehnncaaDoor.Px
end
section
namespace Go.Proofs.YtbjaiphfehnncaaDoor.Px
open Fig Go.RowKit Go.Proofs.YtbjaiphfehnncaaDoorW.PrintWords Go.Proofs.YtbjaiphfehnncaaDoorW.PrintLast Go.Proofs.YtbjaiphfehnncaaDoorW.PrintMore
attribute [local go_sem] max2_int min2_int max_two min_two max_three min_three max_four min_four   -- for this text's walks alone
attribute [local go_sem] fieldA23_0 fieldA23_1 fieldA23_2
theorem nD_lit {n m k : Nat} {s : ByteArray} (h : n = m * 10 ^ k) (hm : m % 10 ≠ 0) (hd : dB s = true) (hv : vB s = m) (hs : stripB s = s) : nD n = s := by
  rw [h, nD_pow, nD_of hm, ← hv, ← stripB_eq hd, hs]
theorem answers06_ev : Ev (fun k => figureheadlaw06_answers.f k) true := by
  have ok1 : OkS (⟨#[49]⟩ : ByteArray) 0 := OkS.of_good (by decide)
  have ok2 : OkS (⟨#[50, 53]⟩ : ByteArray) (-2) := OkS.of_good (by decide)
  have ok3 : OkS (⟨#[50, 53]⟩ : ByteArray) (-2 + 2) := OkS.of_good (by decide)
  have v1 : vB (⟨#[49]⟩ : ByteArray) = 1 := by decide
  have v2 : vB (⟨#[50, 53]⟩ : ByteArray) = 25 := by decide
  have n75 : nD 75 = (⟨#[55, 53]⟩ : ByteArray) := nD_lit (m := 75) (k := 0) (by decide) (by decide) (by decide) (by decide) (by decide)
  have n625 : nD 625 = (⟨#[54, 50, 53]⟩ : ByteArray) := nD_lit (m := 625) (k := 0) (by decide) (by decide) (by decide) (by decide) (by decide)
  have n25 : nD 25 = (⟨#[50, 53]⟩ : ByteArray) := nD_lit (m := 25) (k := 0) (by decide) (by decide) (by decide) (by decide) (by decide)
  have e75 : nE 75 (-2) = -2 := nE_of (by decide)
  have e625 : nE 625 (-4) = -4 := nE_of (by decide)
  have e25 : nE 25 0 = 0 := nE_of (by decide)
  have r1 : sumD false 1 0 (!false) 25 (-2) = (false, (⟨#[55, 53]⟩ : ByteArray), -2) := by
    show (zN 75, nD 75, nE 75 (-2)) = _
    rw [n75, e75]; rfl
  have r2 : prodD false 25 (-2) false 25 (-2) = (false, (⟨#[54, 50, 53]⟩ : ByteArray), -4) := by
    show (zN 625, nD 625, nE 625 (-4)) = _
    rw [n625, e625]; rfl
  unfold figureheadlaw06_answers.f
  refine evE (subP ok1 ok2) ?_
  rw [v1, v2, r1]
  refine evT (by simp [ByteArray.toList_eq]) (Ev.bind (mulP_ev ok2 ok2) ?_)
  rw [v2, r2]
  refine evT (by simp [ByteArray.toList_eq]) (evE (scaleP ok3.ok (by decide) (by decide) (by decide) (by decide)) ?_)
  rw [v2, n25, show nE 25 (-2 + 2) = 0 from e25]
  refine evT (by simp [ByteArray.toList_eq]) (evE (negP ok1.ok) ?_)
  exact Ev.now true
end Go.Proofs.YtbjaiphfehnncaaDoor.Px
end
section
namespace Go.Proofs.YtbjaiphfehnncaaDoor.Px
open Fig Go.RowKit Go.Proofs.YtbjaiphfehnncaaDoorW.PrintWords Go.Proofs.YtbjaiphfehnncaaDoorW.PrintLast Go.Proofs.YtbjaiphfehnncaaDoorW.PrintMore
attribute [local go_sem] max2_int min2_int max_two min_two max_three min_three max_four min_four   -- for this text's walks alone
attribute [local go_sem] fieldA23_0 fieldA23_1 fieldA23_2
theorem ArithLaws_true (a0_0 : Bool) (a0_1 : ByteArray) (a0_2 : Int) (a1_0 : Bool) (a1_1 : ByteArray) (a1_2 : Int) (a2_0 : Bool) (a2_1 : ByteArray) (a2_2 : Int) : Ev (fun k => figureheadlaw06_ArithLaws.j0 k true a0_0 a0_1 a0_2 a1_0 a1_1 a1_2 a2_0 a2_1 a2_2) true :=
  Ev.step (fun k => by simp only [figureheadlaw06_ArithLaws.j0, if_true]) (Ev.bind answers06_ev (Ev.now true))
theorem sum_res_l {S m : Int} {b : Bool} {p : Nat} {f k : Int} (h1 : k ≤ m) (h0 : k ≤ 0) (h2 : k ≤ f) : sumD (zN S) (vB (nD S.natAbs)) (nE S.natAbs m) b p f = resD (S * 10 ^ (m - k).toNat + vZ b p f k) k := by
  rw [vB_nD, sumD_at (k := k) (nE_ge _ h1 h0) h2, vZ_res h1]
theorem sum_res_r {S m : Int} {b : Bool} {p : Nat} {f k : Int} (h1 : k ≤ m) (h0 : k ≤ 0) (h2 : k ≤ f) : sumD b p f (zN S) (vB (nD S.natAbs)) (nE S.natAbs m) = resD (vZ b p f k + S * 10 ^ (m - k).toNat) k := by
  rw [vB_nD, sumD_at (k := k) h2 (nE_ge _ h1 h0), vZ_res h1]
theorem ArithLaws_in {a b c : Bool} {s t u : ByteArray} {e f g : Int} (oks : OkS s e) (okt : OkS t f) (oku : OkS u g) (zs : s.size ≤ 200) (zt : t.size ≤ 200) (zu : u.size ≤ 200) (e1 : -300 ≤ e) (e2 : e ≤ 300) (f1 : -300 ≤ f) (f2 : f ≤ 300) (g1 : -300 ≤ g) (g2 : g ≤ 300) : Ev (fun k => figureheadlaw06_ArithLaws.j0 k false a s e b t f c u g) true := by
  obtain ⟨k, hk⟩ : ∃ k, k = min (min e f) (min g 0) := ⟨_, rfl⟩
  have vs := oks.ok.val
  have vt := okt.ok.val
  have vu := oku.ok.val
  have sx := size_vZ a (n := vB s) (p := 200) e k (by omega)
  have sy := size_vZ b (n := vB t) (p := 200) f k (by omega)
  have sz := size_vZ c (n := vB u) (p := 200) g k (by omega)
  obtain ⟨x, hx⟩ : ∃ x, x = vZ a (vB s) e k := ⟨_, rfl⟩
  obtain ⟨y, hy⟩ : ∃ y, y = vZ b (vB t) f k := ⟨_, rfl⟩
  obtain ⟨z, hz⟩ : ∃ z, z = vZ c (vB u) g k := ⟨_, rfl⟩
  have ab : sumD a (vB s) e b (vB t) f = resD (x + y) k := by rw [sumD_at (k := k) (by omega) (by omega), hx, hy]
  have ba : sumD b (vB t) f a (vB s) e = resD (x + y) k := by rw [sumD_at (k := k) (by omega) (by omega), Int.add_comm, hx, hy]
  have bc : sumD b (vB t) f c (vB u) g = resD (y + z) k := by rw [sumD_at (k := k) (by omega) (by omega), hy, hz]
  rw [← hx] at sx
  rw [← hy] at sy
  rw [← hz] at sz
  have x8 : (digB x.natAbs).size ≤ 800 := by omega
  have y8 : (digB y.natAbs).size ≤ 800 := by omega
  have z8 : (digB z.natAbs).size ≤ 800 := by omega
  have oab : OkS (resD (x + y) k).2.1 (resD (x + y) k).2.2 := OkS.res (Nat.le_trans (size_add x8 y8) (by decide)) (by omega) (by omega)
  have obc : OkS (resD (y + z) k).2.1 (resD (y + z) k).2.2 := OkS.res (Nat.le_trans (size_add y8 z8) (by decide)) (by omega) (by omega)
  have pow0 : ∀ w : Int, w * 10 ^ (k - k).toNat = w := fun w => by simp
  have abc : sumD (resD (x + y) k).1 (vB (resD (x + y) k).2.1) (resD (x + y) k).2.2 c (vB u) g = resD (x + y + z) k := by
    show sumD (zN _) (vB (nD _)) (nE _ k) _ _ _ = _
    rw [sum_res_l (k := k) (Int.le_refl k) (by omega) (by omega), pow0, hz]
  have abc2 : sumD a (vB s) e (resD (y + z) k).1 (vB (resD (y + z) k).2.1) (resD (y + z) k).2.2 = resD (x + y + z) k := by
    show sumD _ _ _ (zN _) (vB (nD _)) (nE _ k) = _
    rw [sum_res_r (k := k) (Int.le_refl k) (by omega) (by omega), pow0, hx, Int.add_assoc]
  have pab : prodD a (vB s) e b (vB t) f = resD (x * y) (k + k) := by rw [prodD_at (i := k) (j := k) (by omega) (by omega), hx, hy]
  have pac : prodD a (vB s) e c (vB u) g = resD (x * z) (k + k) := by rw [prodD_at (i := k) (j := k) (by omega) (by omega), hx, hz]
  have opab : OkS (resD (x * y) (k + k)).2.1 (resD (x * y) (k + k)).2.2 := OkS.res (Nat.le_trans (size_mul x8 y8) (by decide)) (by omega) (by omega)
  have opac : OkS (resD (x * z) (k + k)).2.1 (resD (x * z) (k + k)).2.2 := OkS.res (Nat.le_trans (size_mul x8 z8) (by decide)) (by omega) (by omega)
  have pabc : prodD a (vB s) e (resD (y + z) k).1 (vB (resD (y + z) k).2.1) (resD (y + z) k).2.2 = resD (x * y + x * z) (k + k) := by
    show prodD _ _ _ (zN _) (vB (nD _)) (nE _ k) = _
    rw [vB_nD, prodD_at (i := k) (j := k) (by omega) (nE_ge _ (Int.le_refl k) (by omega)), vZ_res_self, ← hx, Int.mul_add]
  have spp : sumD (resD (x * y) (k + k)).1 (vB (resD (x * y) (k + k)).2.1) (resD (x * y) (k + k)).2.2 (resD (x * z) (k + k)).1 (vB (resD (x * z) (k + k)).2.1) (resD (x * z) (k + k)).2.2 = resD (x * y + x * z) (k + k) := by
    show sumD (zN _) (vB (nD _)) (nE _ (k + k)) (zN _) (vB (nD _)) (nE _ (k + k)) = _
    rw [sum_res_l (k := k + k) (Int.le_refl _) (by omega) (nE_ge _ (Int.le_refl _) (by omega)), vB_nD, vZ_res_self]
    simp
  have aa : sumD a (vB s) e (!a) (vB s) e = (false, noughtB, 0) := by
    rw [sumD_at (k := k) (by omega) (by omega), vZ_not, Int.add_right_neg, resD_zero]
  refine Ev.step (fun k => by simp only [figureheadlaw06_ArithLaws.j0, Bool.false_eq_true, if_false]; rfl) ?_
  refine Ev.bind answers06_ev (evT rfl (evE ((addP oks okt).trans (congrArg some ab)) (evE ((addP okt oks).trans (congrArg some ba)) (evT (by simp) ?_))))
  refine evE ((addP oks okt).trans (congrArg some ab)) (evE ((addP oab oku).trans (congrArg some abc)) (evE ((addP okt oku).trans (congrArg some bc)) (evE ((addP oks obc).trans (congrArg some abc2)) (evT (by simp) ?_))))
  refine evE ((addP okt oku).trans (congrArg some bc)) (Ev.bind (evIs (mulP_ev oks obc) pabc) (Ev.bind (evIs (mulP_ev oks okt) pab) (Ev.bind (evIs (mulP_ev oks oku) pac) (evE ((addP opab opac).trans (congrArg some spp)) (evT (by simp) ?_)))))
  refine evE ((subP oks oks).trans (congrArg some aa)) (evIs (Ev.now _) ?_)
  simp [noughtB, ByteArray.toList_eq]
theorem ArithLaws_pure (a0_0 : Bool) (a0_1 : ByteArray) (a0_2 : Int) (a1_0 : Bool) (a1_1 : ByteArray) (a1_2 : Int) (a2_0 : Bool) (a2_1 : ByteArray) (a2_2 : Int) (w0_1 : a0_1.size ≤ 140737488351232) (w0_2 : (Lit.int .i64 a0_2).wf = true) (w1_1 : a1_1.size ≤ 140737488351232) (w1_2 : (Lit.int .i64 a1_2).wf = true) (w2_1 : a2_1.size ≤ 140737488351232) (w2_2 : (Lit.int .i64 a2_2).wf = true) : ∃ k, figureheadlaw06_ArithLaws.f k a0_0 a0_1 a0_2 a1_0 a1_1 a1_2 a2_0 a2_1 a2_2 = some true := by
  refine Ev.rounds (g := fun k => figureheadlaw06_ArithLaws.f k a0_0 a0_1 a0_2 a1_0 a1_1 a1_2 a2_0 a2_1 a2_2) ?_
  unfold figureheadlaw06_ArithLaws.f
  refine Ev.bind (good06_ev (by simp) (by simp; exact ⟨w0_1, w1_1, w2_1⟩)) ?_
  cases hg : [(⟨a0_0, a0_1, a0_2⟩ : S23), (⟨a1_0, a1_1, a1_2⟩ : S23), (⟨a2_0, a2_1, a2_2⟩ : S23)].all fun x => goodD x.f1 x.f2 && decide (x.f1.size ≤ 200)
  · exact evF (by decide) (ArithLaws_true _ _ _ _ _ _ _ _ _)
  obtain ⟨⟨g1, z1⟩, ⟨g2, z2⟩, g3, z3⟩ : (goodD a0_1 a0_2 = true ∧ a0_1.size ≤ 200) ∧ (goodD a1_1 a1_2 = true ∧ a1_1.size ≤ 200) ∧ goodD a2_1 a2_2 = true ∧ a2_1.size ≤ 200 := by simpa using hg
  have ok1 := OkS.of_good g1
  have ok2 := OkS.of_good g2
  have ok3 := OkS.of_good g3
  refine evT rfl ?_
  by_cases c1 : a0_2 < -300
  · exact evT c1 (ArithLaws_true _ _ _ _ _ _ _ _ _)
  refine evF c1 ?_
  by_cases c2 : a0_2 > 300
  · exact evT c2 (ArithLaws_true _ _ _ _ _ _ _ _ _)
  refine evF c2 ?_
  by_cases c3 : a1_2 < -300
  · exact evT c3 (ArithLaws_true _ _ _ _ _ _ _ _ _)
  refine evF c3 ?_
  by_cases c4 : a1_2 > 300
  · exact evT c4 (ArithLaws_true _ _ _ _ _ _ _ _ _)
  refine evF c4 ?_
  by_cases c5 : a2_2 < -300
  · exact evT c5 (ArithLaws_true _ _ _ _ _ _ _ _ _)
  refine evF c5 ?_
  by_cases c6 : a2_2 > 300
  · rw [decide_eq_true c6]; exact ArithLaws_true _ _ _ _ _ _ _ _ _
  rw [decide_eq_false c6]
  exact ArithLaws_in ok1 ok2 ok3 z1 z2 z3 (by omega) (by omega) (by omega) (by omega) (by omega) (by omega)
end Go.Proofs.YtbjaiphfehnncaaDoor.Px
end
section
namespace Go.Proofs.YtbjaiphfehnncaaDoorW.PrintWords
open Go.ChangeShapes Go.WideShapes
end Go.Proofs.YtbjaiphfehnncaaDoorW.PrintWords
end
section
namespace Fig
open Go Go.ChangeShapes
end Fig
end
section
namespace Fig
open Go Go.Proofs Go.Proofs.YtbjaiphfehnncaaDoor
set_option maxRecDepth 100000
def plainL : List (String × DataW Unit) := [("unicode/utf8.acceptRanges", Rows.laid_unicode_utf8_acceptRanges), ("figurehead/ten.powers", Rows.laid_figurehead_ten_powers), ("unicode/utf8.first", Rows.laid_unicode_utf8_first)]
def laidL : List (String × DataW Unit) := [("unicode/utf8.acceptRanges", Rows.laid_unicode_utf8_acceptRanges), ("figurehead/ten.powers", Rows.laid_figurehead_ten_powers), ("unicode/utf8.first", Rows.laid_unicode_utf8_first)]
noncomputable def startW (os : Os) : World := World.laidAll Tryd.prog os plainL
theorem startW_os (os : Os) : (startW os).os = os := World.laidAll_os _ _ _
theorem met (os : Os) (args : Array Value) : laidMetH Tryd.prog laidL ((startW os).forCall (fun _ _ => 0) ⟨#[], args, []⟩).memory := by
  rw [MakeChecks.laidMetH_plain _ _ _ (by kernel_rfl)]; exact laidMet_laidAll _ (by kernel_rfl) (by kernel_rfl)
theorem plainFilter : (laidL.filter fun x => x.2.handleName?.isNone) = plainL := by kernel_rfl
theorem plain_of {W : World} (h : laidMetH Tryd.prog laidL W) : laidMet Tryd.prog plainL W := plainFilter ▸ (laidMetH_iff.1 h).1
theorem pows_of {W : World} (h : laidMetH Tryd.prog laidL W) : ∀ i, i < 9 → W.cell? ⟨0, i, none⟩ = some (.int .u32 (([1, 10, 100, 1000, 10000, 100000, 1000000, 10000000, 100000000] : List Int).getD i 0)) := by
  have gN : Tryd.prog.globalNamed "figurehead/ten.powers" = some 0 := by kernel_rfl
  have gT : (Tryd.prog.globals[0]?).map (·.type) = some 72 := by kernel_rfl
  have hT := Lib.tabIs_of_head (k := .u32) (zs := [1, 10, 100, 1000, 10000, 100000, 1000000, 10000000, 100000000]) gN gT Tryd.underlying72 Tryd.underlying47 (by kernel_rfl) (by kernel_rfl) (laidMet.tail (plain_of h))
  exact fun i hi => hT.cell gN i hi
theorem of_laid {W : World} (h : laidMetH Tryd.prog laidL W) : Glob W := ⟨pows_of h⟩
end Fig
end
section
namespace Fig
open Go Go.ChangeShapes Go.WideShapes Go.RowKit Go.Deep Go.WideElems Go.Joins
theorem open_dec {H : Type} {enc : TypeId × Value → H} {P : Program} {w : World} {base : Nat} {spare : Nat → Bool} {held : Bool} {r : Reach} {b0 : Nat} {t : TypeId} {f0 f1 f2 : Field} {v : Value} {d : DataW H} {p : List MemPlace} {k : IntKind} (hs : P.underlying t = some (.struct #[f0, f1, f2])) (hone : oneCellFields P #[f0, f1, f2] = true) (hC : P.cellsOf t = 3)
    (u0 : P.underlying f0.type = some .bool) (u1 : P.underlying f1.type = some .string) (u2 : P.underlying f2.type = some (.int k)) (hv : Value.okWide P w r b0 t v) (h : DataW.Trod enc P w base spare held t v d p) :
    ∃ (x : Bool) (s : ByteArray) (n : Int), v = .agg #[.bool x, .string s, .int k n] ∧ d = .agg [.lit (.bool x), .lit (.string s.data.toList), .lit (.int k n)] ∧ p = [] ∧ s.size ≤ maxLen ∧ (Lit.int k n).wf = true := by
  obtain ⟨v0, v1, v2, y0, y1, y2, n, rfl, rfl, rfl, h0, h1, h2⟩ := open_agg3 hs hone hC hv h
  obtain ⟨x, e0, rfl⟩ := DataW.trod_bool u0 h0
  obtain ⟨s, e1, rfl, hl⟩ := DataW.trod_string u1 h1
  obtain ⟨m, e2, rfl, hw⟩ := DataW.trod_int u2 h2
  simp only [List.cons.injEq, and_true] at e0 e1 e2
  subst e0 e1 e2
  exact ⟨x, s, m, rfl, rfl, rfl, hl, hw⟩
theorem shut_dec {H : Type} {enc : TypeId × Value → H} {P : Program} {w : World} {base : Nat} {spare : Nat → Bool} {held : Bool} {t : TypeId} {f0 f1 f2 : Field} {k : IntKind} {x : Bool} {s : ByteArray} {n : Int} (hs : P.underlying t = some (.struct #[f0, f1, f2])) (hone : oneCellFields P #[f0, f1, f2] = true) (hC : P.cellsOf t = 3)
    (u0 : P.underlying f0.type = some .bool) (u1 : P.underlying f1.type = some .string) (u2 : P.underlying f2.type = some (.int k)) (hl : s.size ≤ maxLen) (hw : (Lit.int k n).wf = true) :
    DataW.Trod enc P w base spare held t (.agg #[.bool x, .string s, .int k n]) (.agg [.lit (.bool x), .lit (.string s.data.toList), .lit (.int k n)]) [] :=
  shut_agg3 (y0 := (.lit (.bool x), [])) (y1 := (.lit (.string s.data.toList), [])) (y2 := (.lit (.int k n), [])) hs hone hC ⟨1, by simp [DataW.trod, u0]⟩ ⟨1, by simp [DataW.trod, u1, hl]⟩ ⟨1, by simp [DataW.trod, u2, hw]⟩
theorem sized_dec {H : Type} {P : Program} {ts : List TypeId} {ds : List (DataW H)} (h : (DataW.weightsEach P ts ds).all (· ≤ reachBytes) = true) {j : Nat} {t : TypeId} {f0 f1 f2 : Field} {x y : DataW H} {bytes : List UInt8} (ht : ts[j]? = some t) (hd : ds[j]? = some (.agg [x, .lit (.string bytes), y])) (hs : P.underlying t = some (.struct #[f0, f1, f2])) : bytes.length ≤ reachBytes := by
  have := List.all_eq_true.1 h _ (DataW.weights_mem_each ht hd bytes.length (by simp [DataW.weights, DataW.weightsEach, hs]))
  simpa using this
end Fig
end
