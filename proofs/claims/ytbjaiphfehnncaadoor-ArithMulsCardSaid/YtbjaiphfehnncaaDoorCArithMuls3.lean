/- The functions that the law ArithMuls reaches, told as plain functions, with what is proved of them, and the words they need (part 3). -/
import Derived.Test.YtbjaiphfehnncaaDoorCArithMuls0
import Derived.Test.YtbjaiphfehnncaaDoorCArithMuls1
import Derived.Test.YtbjaiphfehnncaaDoorCArithMuls2
import Derived.SizedLaws
import Derived.ChangeSlices
import Derived.LaidMore
import Derived.LaidHandle
import Derived.LaidSub
import Derived.OpenShut
import Derived.ChangeSame
import Derived.Lay
import Derived.Lib.LaidTab
import Derived.Test.YtbjaiphfehnncaaDoorRows
import Derived.Stop.LaidErr
import Derived.Lib.SmallJoins
import Derived.ChangeMaps5
set_option linter.unusedVariables false
set_option linter.unusedSimpArgs false
section
namespace Go.Proofs.YtbjaiphfehnncaaDoor.Px
open Fig Go.RowKit Go.Proofs.YtbjaiphfehnncaaDoorW.PrintWords Go.Proofs.YtbjaiphfehnncaaDoorW.PrintLast Go.Proofs.YtbjaiphfehnncaaDoorW.PrintMore
attribute [local go_sem] max2_int min2_int max_two min_two max_three min_three max_four min_four   -- for this text's walks alone
attribute [local go_sem] fieldA23_0 fieldA23_1 fieldA23_2
def figureheadref05_plain.f (a0_0 : Bool) (a0_1 : ByteArray) (a0_2 : Int) : Option (Bool × ByteArray × Int) := if a0_1.toList = ([48] : List UInt8) then (some (false, a0_1, a0_2)) else (some (a0_0, a0_1, a0_2))
set_option maxHeartbeats 8000000 in
set_option maxRecDepth 100000 in
theorem figureheadref05_plain.calls (a0_0 : Bool) (a0_1 : ByteArray) (a0_2 : Int) (r1 : Bool) (r2 : ByteArray) (r3 : Int) (w : World) (h : figureheadref05_plain.f a0_0 a0_1 a0_2 = some (r1, r2, r3)) :
    Calls Tryd.prog 56 #[.agg #[.bool a0_0, .string a0_1, .int .i64 a0_2]] w fun e w' => e = .returned (.agg #[.bool r1, .string r2, .int .i64 r3]) ∧ Below w.heap.size w w' := by
  have hu23 := Tryd.underlying23
  have HB := Aside0.mk (Below.refl w.heap.size w)
  have H : (if a0_1.toList = ([48] : List UInt8) then (some (false, a0_1, a0_2)) else (some (a0_0, a0_1, a0_2))) = some (r1, r2, r3) := h
  clear h
  by_cases c2 : a0_1.toList = ([48] : List UInt8)
  · rw [if_pos c2] at H
    have c2b0 : (a0_1.toList == ([48] : List UInt8)) = true := beq_iff_eq.mpr c2
    have c2b1 : (a0_1.toList != ([48] : List UInt8)) = false := bne_eq_false_iff_eq.mpr c2
    clear c2
    simp only [Option.some.injEq, Prod.mk.injEq] at H
    obtain ⟨rfl, rfl, rfl⟩ := H
    go_enter Tryd.func56, Tryd.ntmps56
    go_wp2_with (first | ((with_reducible refine gate_dst (N := 1) rfl ?_); refine box_event ?hg (N := 1) ?hd (cs := #[.bool a0_0, .string a0_1, .int .i64 a0_2]) (t := 23) ?hr ?_; (case hd => rfl); (case hg => rfl); (case hr => first | (go_simp; done) | (go_simp; rfl)); intro gb411 hg w3 hbox hb; have n0_ := Aside0.mk (below_step (by repeat (first | (with_reducible first | exact HB.out | apply below_alloc | apply pw_below_drewN | apply below_drew1) | exact HB.out)) hb); have n1_ := Aside0.mk (hbox); have n2_ := Aside0.mk ((by rw [hg]; exact (below_size (by repeat (first | (with_reducible first | exact HB.out | apply below_alloc | apply pw_below_drewN | apply below_drew1) | exact HB.out))) : w.heap.size ≤ gb411)); have n3_ := Aside0.mk ((by rw [hg]; exact (below_size (by repeat (first | (with_reducible first | exact HB.out | apply below_alloc | apply pw_below_drewN | apply below_drew1) | exact HB.out))) : w.heap.size ≤ gb411)); clear HB; have HB := n0_; have BK411 := n1_; have GW411 := n2_; have GE411 := n3_; clear n0_ n1_ n2_ n3_; clear hb hbox hg) | ((with_reducible refine gate_dst (N := 2) rfl ?_); refine box_event ?hg (N := 2) ?hd (cs := #[.bool false, .string (⟨#[]⟩ : ByteArray), .int .i64 0]) (t := 23) ?hr ?_; (case hd => rfl); (case hg => rfl); (case hr => first | (go_simp; done) | (go_simp; rfl)); intro gb412 hg w4 hbox hb; have n0_ := Aside0.mk (blk_below (g := gb411) (o := .cells #[.bool a0_0, .string a0_1, .int .i64 a0_2] 23 (0, 0)) (by (with_reducible repeat (first | refine blk_drewN ?_ _ | refine blk_drew ?_ | refine blk_alloc ?_ _)); exact BK411.out) hb); have n1_ := Aside0.mk (below_step (by repeat (first | (with_reducible first | exact HB.out | apply below_alloc | apply pw_below_drewN | apply below_drew1 | refine below_set ?_ GE411.out) | exact HB.out)) hb); have n2_ := Aside0.mk (hbox); have n3_ := Aside0.mk ((by rw [hg]; exact (below_size (by repeat (first | (with_reducible first | exact HB.out | apply below_alloc | apply pw_below_drewN | apply below_drew1 | refine below_set ?_ GE411.out) | exact HB.out))) : w.heap.size ≤ gb412)); have n4_ := Aside0.mk ((by rw [hg]; exact (below_size (by repeat (first | (with_reducible first | exact HB.out | apply below_alloc | apply pw_below_drewN | apply below_drew1 | refine below_set ?_ GE411.out) | exact HB.out))) : w.heap.size ≤ gb412)); have n5_ := Aside0.mk ((by rw [hg]; exact Nat.ne_of_lt (blk_lt (g := gb411) (o := .cells #[.bool a0_0, .string a0_1, .int .i64 a0_2] 23 (0, 0)) (by (with_reducible repeat (first | refine blk_drewN ?_ _ | refine blk_drew ?_ | refine blk_alloc ?_ _)); exact BK411.out)) : gb411 ≠ gb412)); have n6_ := Aside0.mk ((by rw [hg]; exact Nat.ne_of_gt (blk_lt (g := gb411) (o := .cells #[.bool a0_0, .string a0_1, .int .i64 a0_2] 23 (0, 0)) (by (with_reducible repeat (first | refine blk_drewN ?_ _ | refine blk_drew ?_ | refine blk_alloc ?_ _)); exact BK411.out)) : gb412 ≠ gb411)); clear BK411; clear HB; have BK411 := n0_; have HB := n1_; have BK412 := n2_; have GW412 := n3_; have GE412 := n4_; have NB411_412 := n5_; have NB412_411 := n6_; clear n0_ n1_ n2_ n3_ n4_ n5_ n6_; clear hb hbox hg; have hnb5 := NB411_412.out; have hnc5 := NB412_411.out; have hcz6_0 : w4.cell? ⟨gb411, 0, none⟩ = some (.bool a0_0) := (blk_cell BK411.out 0).trans rfl; have hcz6_1 : w4.cell? ⟨gb411, 1, none⟩ = some (.string a0_1) := (blk_cell BK411.out 1).trans rfl; have hcz6_2 : w4.cell? ⟨gb411, 2, none⟩ = some (.int .i64 a0_2) := (blk_cell BK411.out 2).trans rfl; have hfz6_0 := blk_frozen BK411.out 0; have hfz6_1 := blk_frozen BK411.out 1; have hfz6_2 := blk_frozen BK411.out 2; have hcz7_0 : w4.cell? ⟨gb412, 0, none⟩ = some (.bool false) := (blk_cell BK412.out 0).trans rfl; have hcz7_1 : w4.cell? ⟨gb412, 1, none⟩ = some (.string (⟨#[]⟩ : ByteArray)) := (blk_cell BK412.out 1).trans rfl; have hcz7_2 : w4.cell? ⟨gb412, 2, none⟩ = some (.int .i64 0) := (blk_cell BK412.out 2).trans rfl; have hfz7_0 := blk_frozen BK412.out 0; have hfz7_1 := blk_frozen BK412.out 1; have hfz7_2 := blk_frozen BK412.out 2))
    refine bodyPost_ret (results_cell_row rfl _ _ gb412 23 #[.bool false, .string a0_1, .int .i64 a0_2] (0, 0) _ rfl (by (with_reducible repeat (first | refine blk_drewN ?_ _ | refine blk_drew ?_ | refine blk_alloc ?_ _)); refine blk_put (cs := #[.bool false, .string a0_1, .int .i64 0]) ?_ 2 _ rfl; (with_reducible repeat (first | refine blk_drewN ?_ _ | refine blk_drew ?_ | refine blk_alloc ?_ _)); refine blk_put (cs := #[.bool false, .string (⟨#[]⟩ : ByteArray), .int .i64 0]) ?_ 1 _ rfl; (with_reducible repeat (first | refine blk_drewN ?_ _ | refine blk_drew ?_ | refine blk_alloc ?_ _)); refine blk_put (cs := #[.bool false, .string (⟨#[]⟩ : ByteArray), .int .i64 0]) ?_ 0 _ rfl; (with_reducible repeat (first | refine blk_drewN ?_ _ | refine blk_drew ?_ | refine blk_alloc ?_ _)); refine blk_far ?_ NB412_411.out _; (with_reducible repeat (first | refine blk_drewN ?_ _ | refine blk_drew ?_ | refine blk_alloc ?_ _)); exact BK412.out) Tryd.underlying23 rfl (by kernel_rfl)) rfl ?_
    exact ⟨by first | rfl | (simp [errW_none, errW_some] <;> rfl) | (simp [*, errW_none, errW_some] <;> rfl), by repeat (first | (with_reducible first | exact HB.out | apply below_alloc | apply pw_below_drewN | apply below_drew1 | refine below_set ?_ GE411.out | refine below_set ?_ GE412.out) | exact HB.out)⟩
  · rw [if_neg c2] at H
    have c2b0 : (a0_1.toList == ([48] : List UInt8)) = false := beq_eq_false_iff_ne.mpr c2
    have c2b1 : (a0_1.toList != ([48] : List UInt8)) = true := bne_iff_ne.mpr c2
    simp only [Option.some.injEq, Prod.mk.injEq] at H
    obtain ⟨rfl, rfl, rfl⟩ := H
    go_enter Tryd.func56, Tryd.ntmps56
    go_wp2_with (first | ((with_reducible refine gate_dst (N := 1) rfl ?_); refine box_event ?hg (N := 1) ?hd (cs := #[.bool a0_0, .string a0_1, .int .i64 a0_2]) (t := 23) ?hr ?_; (case hd => rfl); (case hg => rfl); (case hr => first | (go_simp; done) | (go_simp; rfl)); intro gb411 hg w8 hbox hb; have n0_ := Aside0.mk (below_step (by repeat (first | (with_reducible first | exact HB.out | apply below_alloc | apply pw_below_drewN | apply below_drew1) | exact HB.out)) hb); have n1_ := Aside0.mk (hbox); have n2_ := Aside0.mk ((by rw [hg]; exact (below_size (by repeat (first | (with_reducible first | exact HB.out | apply below_alloc | apply pw_below_drewN | apply below_drew1) | exact HB.out))) : w.heap.size ≤ gb411)); have n3_ := Aside0.mk ((by rw [hg]; exact (below_size (by repeat (first | (with_reducible first | exact HB.out | apply below_alloc | apply pw_below_drewN | apply below_drew1) | exact HB.out))) : w.heap.size ≤ gb411)); clear HB; have HB := n0_; have BK411 := n1_; have GW411 := n2_; have GE411 := n3_; clear n0_ n1_ n2_ n3_; clear hb hbox hg) | ((with_reducible refine gate_dst (N := 2) rfl ?_); refine box_event ?hg (N := 2) ?hd (cs := #[.bool false, .string (⟨#[]⟩ : ByteArray), .int .i64 0]) (t := 23) ?hr ?_; (case hd => rfl); (case hg => rfl); (case hr => first | (go_simp; done) | (go_simp; rfl)); intro gb412 hg w9 hbox hb; have n0_ := Aside0.mk (blk_below (g := gb411) (o := .cells #[.bool a0_0, .string a0_1, .int .i64 a0_2] 23 (0, 0)) (by (with_reducible repeat (first | refine blk_drewN ?_ _ | refine blk_drew ?_ | refine blk_alloc ?_ _)); exact BK411.out) hb); have n1_ := Aside0.mk (below_step (by repeat (first | (with_reducible first | exact HB.out | apply below_alloc | apply pw_below_drewN | apply below_drew1 | refine below_set ?_ GE411.out) | exact HB.out)) hb); have n2_ := Aside0.mk (hbox); have n3_ := Aside0.mk ((by rw [hg]; exact (below_size (by repeat (first | (with_reducible first | exact HB.out | apply below_alloc | apply pw_below_drewN | apply below_drew1 | refine below_set ?_ GE411.out) | exact HB.out))) : w.heap.size ≤ gb412)); have n4_ := Aside0.mk ((by rw [hg]; exact (below_size (by repeat (first | (with_reducible first | exact HB.out | apply below_alloc | apply pw_below_drewN | apply below_drew1 | refine below_set ?_ GE411.out) | exact HB.out))) : w.heap.size ≤ gb412)); have n5_ := Aside0.mk ((by rw [hg]; exact Nat.ne_of_lt (blk_lt (g := gb411) (o := .cells #[.bool a0_0, .string a0_1, .int .i64 a0_2] 23 (0, 0)) (by (with_reducible repeat (first | refine blk_drewN ?_ _ | refine blk_drew ?_ | refine blk_alloc ?_ _)); exact BK411.out)) : gb411 ≠ gb412)); have n6_ := Aside0.mk ((by rw [hg]; exact Nat.ne_of_gt (blk_lt (g := gb411) (o := .cells #[.bool a0_0, .string a0_1, .int .i64 a0_2] 23 (0, 0)) (by (with_reducible repeat (first | refine blk_drewN ?_ _ | refine blk_drew ?_ | refine blk_alloc ?_ _)); exact BK411.out)) : gb412 ≠ gb411)); clear BK411; clear HB; have BK411 := n0_; have HB := n1_; have BK412 := n2_; have GW412 := n3_; have GE412 := n4_; have NB411_412 := n5_; have NB412_411 := n6_; clear n0_ n1_ n2_ n3_ n4_ n5_ n6_; clear hb hbox hg; have hnb10 := NB411_412.out; have hnc10 := NB412_411.out; have hcz11_0 : w9.cell? ⟨gb411, 0, none⟩ = some (.bool a0_0) := (blk_cell BK411.out 0).trans rfl; have hcz11_1 : w9.cell? ⟨gb411, 1, none⟩ = some (.string a0_1) := (blk_cell BK411.out 1).trans rfl; have hcz11_2 : w9.cell? ⟨gb411, 2, none⟩ = some (.int .i64 a0_2) := (blk_cell BK411.out 2).trans rfl; have hfz11_0 := blk_frozen BK411.out 0; have hfz11_1 := blk_frozen BK411.out 1; have hfz11_2 := blk_frozen BK411.out 2; have hcz12_0 : w9.cell? ⟨gb412, 0, none⟩ = some (.bool false) := (blk_cell BK412.out 0).trans rfl; have hcz12_1 : w9.cell? ⟨gb412, 1, none⟩ = some (.string (⟨#[]⟩ : ByteArray)) := (blk_cell BK412.out 1).trans rfl; have hcz12_2 : w9.cell? ⟨gb412, 2, none⟩ = some (.int .i64 0) := (blk_cell BK412.out 2).trans rfl; have hfz12_0 := blk_frozen BK412.out 0; have hfz12_1 := blk_frozen BK412.out 1; have hfz12_2 := blk_frozen BK412.out 2))
    refine bodyPost_ret (results_cell_row rfl _ _ gb412 23 #[.bool a0_0, .string a0_1, .int .i64 a0_2] (0, 0) _ rfl (by (with_reducible repeat (first | refine blk_drewN ?_ _ | refine blk_drew ?_ | refine blk_alloc ?_ _)); refine blk_put (cs := #[.bool a0_0, .string a0_1, .int .i64 0]) ?_ 2 _ rfl; (with_reducible repeat (first | refine blk_drewN ?_ _ | refine blk_drew ?_ | refine blk_alloc ?_ _)); refine blk_put (cs := #[.bool a0_0, .string (⟨#[]⟩ : ByteArray), .int .i64 0]) ?_ 1 _ rfl; (with_reducible repeat (first | refine blk_drewN ?_ _ | refine blk_drew ?_ | refine blk_alloc ?_ _)); refine blk_put (cs := #[.bool false, .string (⟨#[]⟩ : ByteArray), .int .i64 0]) ?_ 0 _ rfl; (with_reducible repeat (first | refine blk_drewN ?_ _ | refine blk_drew ?_ | refine blk_alloc ?_ _)); exact BK412.out) Tryd.underlying23 rfl (by kernel_rfl)) rfl ?_
    exact ⟨by first | rfl | (simp [errW_none, errW_some] <;> rfl) | (simp [*, errW_none, errW_some] <;> rfl), by repeat (first | (with_reducible first | exact HB.out | apply below_alloc | apply pw_below_drewN | apply below_drew1 | refine below_set ?_ GE411.out | refine below_set ?_ GE412.out) | exact HB.out)⟩
end Go.Proofs.YtbjaiphfehnncaaDoor.Px
end
section
namespace Go.Proofs.YtbjaiphfehnncaaDoor.Px
open Fig Go.RowKit Go.Proofs.YtbjaiphfehnncaaDoorW.PrintWords Go.Proofs.YtbjaiphfehnncaaDoorW.PrintLast Go.Proofs.YtbjaiphfehnncaaDoorW.PrintMore
attribute [local go_sem] max2_int min2_int max_two min_two max_three min_three max_four min_four   -- for this text's walks alone
attribute [local go_sem] fieldA23_0 fieldA23_1 fieldA23_2
def figureheadref05_Norm.l0 : Nat → ByteArray → Int → Bool → ByteArray → Int → Option (Bool × ByteArray × Int)
  | 0, _, _, _, _, _ => none
  | k + 1, x3, x4, x177000, x177001, x177002 => if 0 ≤ (wrap64 ((x3.size : Int) - 1)) then (if (wrap64 ((x3.size : Int) - 1)) < (x3.size : Int) then (if (bt x3 (wrap64 ((x3.size : Int) - 1))) = 48 then (if (wrap64 ((x3.size : Int) - 1)) ≤ (x3.size : Int) then (figureheadref05_Norm.l0 k (x3.extract 0 ((wrap64 ((x3.size : Int) - 1)) : Int).toNat) (wrap64 (x4 + 1)) x177000 x177001 x177002) else (none)) else (some (x177000, x3, x4))) else (none)) else (none)
def figureheadref05_Norm.f (k : Nat) (a0_0 : Bool) (a0_1 : ByteArray) (a0_2 : Int) : Option (Bool × ByteArray × Int) := (figureheadref01_Strip.f k a0_1).bind fun t178 => (if t178.toList = ([] : List UInt8) then (some (a0_0, (⟨#[48]⟩ : ByteArray), 0)) else (figureheadref05_Norm.l0 k t178 a0_2 a0_0 a0_1 a0_2))
theorem figureheadref05_Norm.mono_l : ∀ k, (∀ y0 y1 y2 y3 y4, LeO (figureheadref05_Norm.l0 k y0 y1 y2 y3 y4) (figureheadref05_Norm.l0 (k + 1) y0 y1 y2 y3 y4))
  | 0 => fun _ _ _ _ _ r h => by simp [figureheadref05_Norm.l0] at h
  | k + 1 => by
    have ih0 := figureheadref05_Norm.mono_l k
    · intro y0 y1 y2 y3 y4
      unfold figureheadref05_Norm.l0
      repeat' first
      | (with_reducible exact ih0 _ _ _ _ _)
      | (with_reducible exact figureheadref01_Strip.mono _ _)
      | (with_reducible exact LeO.refl _)
      | (with_reducible exact LeO.none _)
      | (with_reducible refine LeO.ite ?_ ?_)
      | (with_reducible refine LeO.bind ?_ (fun _ => ?_))
      | exact ih0 _ _ _ _ _
      | exact figureheadref01_Strip.mono _ _
      | exact LeO.none _
      | refine LeO.ite ?_ ?_
      | refine LeO.bind ?_ (fun _ => ?_)
theorem figureheadref05_Norm.mono : ∀ a0 a1 a2 k, LeO (figureheadref05_Norm.f k a0 a1 a2) (figureheadref05_Norm.f (k + 1) a0 a1 a2) := by
  intro a0 a1 a2 k
  have ih0 := figureheadref05_Norm.mono_l k
  unfold figureheadref05_Norm.f
  repeat' first
      | (with_reducible exact ih0 _ _ _ _ _)
      | (with_reducible exact figureheadref01_Strip.mono _ _)
      | (with_reducible exact LeO.refl _)
      | (with_reducible exact LeO.none _)
      | (with_reducible refine LeO.ite ?_ ?_)
      | (with_reducible refine LeO.bind ?_ (fun _ => ?_))
      | exact ih0 _ _ _ _ _
      | exact figureheadref01_Strip.mono _ _
      | exact LeO.none _
      | refine LeO.ite ?_ ?_
      | refine LeO.bind ?_ (fun _ => ?_)
set_option maxHeartbeats 8000000 in
set_option maxRecDepth 100000 in
theorem figureheadref05_Norm.calls (k : Nat) (a0_0 : Bool) (a0_1 : ByteArray) (a0_2 : Int) (r1 : Bool) (r2 : ByteArray) (r3 : Int) (w : World) (h : figureheadref05_Norm.f k a0_0 a0_1 a0_2 = some (r1, r2, r3)) :
    Calls Tryd.prog 19 #[.agg #[.bool a0_0, .string a0_1, .int .i64 a0_2]] w fun e w' => e = .returned (.agg #[.bool r1, .string r2, .int .i64 r3]) ∧ Below w.heap.size w w' := by
  have hu23 := Tryd.underlying23
  have HB := Aside0.mk (Below.refl w.heap.size w)
  have H : ((figureheadref01_Strip.f k a0_1).bind fun t178 => (if t178.toList = ([] : List UInt8) then (some (a0_0, (⟨#[48]⟩ : ByteArray), 0)) else (figureheadref05_Norm.l0 k t178 a0_2 a0_0 a0_1 a0_2))) = some (r1, r2, r3) := h
  clear h
  replace H := Option.bind_eq_some_iff.mp H
  obtain ⟨t178, A20, H⟩ := H
  replace H : (if t178.toList = ([] : List UInt8) then (some (a0_0, (⟨#[48]⟩ : ByteArray), 0)) else (figureheadref05_Norm.l0 k t178 a0_2 a0_0 a0_1 a0_2)) = some (r1, r2, r3) := H
  have A2 := Aside0.mk A20
  clear A20
  by_cases c3 : t178.toList = ([] : List UInt8)
  · rw [if_pos c3] at H
    have c3b0 : (t178.toList == ([] : List UInt8)) = true := beq_iff_eq.mpr c3
    have c3b1 : (t178.toList != ([] : List UInt8)) = false := bne_eq_false_iff_eq.mpr c3
    clear c3
    simp only [Option.some.injEq, Prod.mk.injEq] at H
    obtain ⟨rfl, rfl, rfl⟩ := H
    go_enter Tryd.func19, Tryd.ntmps19
    go_wp2_with (first | ((with_reducible refine gate_dst (N := 1) rfl ?_); refine box_event ?hg (N := 1) ?hd (cs := #[.bool a0_0, .string a0_1, .int .i64 a0_2]) (t := 23) ?hr ?_; (case hd => rfl); (case hg => rfl); (case hr => first | (go_simp; done) | (go_simp; rfl)); intro gb176 hg w4 hbox hb; have n0_ := Aside0.mk (below_step (by repeat (first | (with_reducible first | exact HB.out | apply below_alloc | apply pw_below_drewN | apply below_drew1) | exact HB.out)) hb); have n1_ := Aside0.mk (hbox); have n2_ := Aside0.mk ((by rw [hg]; exact (below_size (by repeat (first | (with_reducible first | exact HB.out | apply below_alloc | apply pw_below_drewN | apply below_drew1) | exact HB.out))) : w.heap.size ≤ gb176)); have n3_ := Aside0.mk ((by rw [hg]; exact (below_size (by repeat (first | (with_reducible first | exact HB.out | apply below_alloc | apply pw_below_drewN | apply below_drew1) | exact HB.out))) : w.heap.size ≤ gb176)); clear HB; have HB := n0_; have BK176 := n1_; have GW176 := n2_; have GE176 := n3_; clear n0_ n1_ n2_ n3_; clear hb hbox hg) | ((with_reducible refine gate_dst (N := 2) rfl ?_); refine box_event ?hg (N := 2) ?hd (cs := #[.bool false, .string (⟨#[]⟩ : ByteArray), .int .i64 0]) (t := 23) ?hr ?_; (case hd => rfl); (case hg => rfl); (case hr => first | (go_simp; done) | (go_simp; rfl)); intro gb177 hg w5 hbox hb; have n0_ := Aside0.mk (blk_below (g := gb176) (o := .cells #[.bool a0_0, .string a0_1, .int .i64 a0_2] 23 (0, 0)) (by (with_reducible repeat (first | refine blk_drewN ?_ _ | refine blk_drew ?_ | refine blk_alloc ?_ _)); exact BK176.out) hb); have n1_ := Aside0.mk (below_step (by repeat (first | (with_reducible first | exact HB.out | apply below_alloc | apply pw_below_drewN | apply below_drew1 | refine below_set ?_ GE176.out) | exact HB.out)) hb); have n2_ := Aside0.mk (hbox); have n3_ := Aside0.mk ((by rw [hg]; exact (below_size (by repeat (first | (with_reducible first | exact HB.out | apply below_alloc | apply pw_below_drewN | apply below_drew1 | refine below_set ?_ GE176.out) | exact HB.out))) : w.heap.size ≤ gb177)); have n4_ := Aside0.mk ((by rw [hg]; exact (below_size (by repeat (first | (with_reducible first | exact HB.out | apply below_alloc | apply pw_below_drewN | apply below_drew1 | refine below_set ?_ GE176.out) | exact HB.out))) : w.heap.size ≤ gb177)); have n5_ := Aside0.mk ((by rw [hg]; exact Nat.ne_of_lt (blk_lt (g := gb176) (o := .cells #[.bool a0_0, .string a0_1, .int .i64 a0_2] 23 (0, 0)) (by (with_reducible repeat (first | refine blk_drewN ?_ _ | refine blk_drew ?_ | refine blk_alloc ?_ _)); exact BK176.out)) : gb176 ≠ gb177)); have n6_ := Aside0.mk ((by rw [hg]; exact Nat.ne_of_gt (blk_lt (g := gb176) (o := .cells #[.bool a0_0, .string a0_1, .int .i64 a0_2] 23 (0, 0)) (by (with_reducible repeat (first | refine blk_drewN ?_ _ | refine blk_drew ?_ | refine blk_alloc ?_ _)); exact BK176.out)) : gb177 ≠ gb176)); clear BK176; clear HB; have BK176 := n0_; have HB := n1_; have BK177 := n2_; have GW177 := n3_; have GE177 := n4_; have NB176_177 := n5_; have NB177_176 := n6_; clear n0_ n1_ n2_ n3_ n4_ n5_ n6_; clear hb hbox hg; have hnb6 := NB176_177.out; have hnc6 := NB177_176.out; have hcz7_0 : w5.cell? ⟨gb176, 0, none⟩ = some (.bool a0_0) := (blk_cell BK176.out 0).trans rfl; have hcz7_1 : w5.cell? ⟨gb176, 1, none⟩ = some (.string a0_1) := (blk_cell BK176.out 1).trans rfl; have hcz7_2 : w5.cell? ⟨gb176, 2, none⟩ = some (.int .i64 a0_2) := (blk_cell BK176.out 2).trans rfl; have hfz7_0 := blk_frozen BK176.out 0; have hfz7_1 := blk_frozen BK176.out 1; have hfz7_2 := blk_frozen BK176.out 2) | ((with_reducible refine gate_callee (f := 46) rfl ?_); refine goesL_ (some 7) rfl rfl Tryd.func46 (by kernel_rfl) rfl #[.string a0_1] rfl (by (try simp only [List.map_toArray]); (try simp only [List.map_cons]); (try simp only [List.map_nil]); first | done | rfl | (simp only [List.length_drop, List.length_take]; rfl)) ?_; (with_reducible refine (figureheadref01_Strip.calls k a0_1 t178 _ A2.out).mono ?_); rintro e w' ⟨rfl, ⟨nd, rfl⟩⟩; refine ⟨_, rfl, ?_⟩; (try (rw [drewN_self w5]; generalize hq_ : World.drewN w5 _ = w5; have n0_ : Aside0 (w5.heap[gb176]? = some (.cells #[.bool a0_0, .string a0_1, .int .i64 a0_2] 23 (0, 0))) := ⟨by rw [← hq_]; exact (by (with_reducible repeat (first | refine blk_drewN ?_ _ | refine blk_drew ?_ | refine blk_alloc ?_ _)); exact BK176.out)⟩; have n1_ : Aside0 (w5.heap[gb177]? = some (.cells #[.bool false, .string (⟨#[]⟩ : ByteArray), .int .i64 0] 23 (0, 0))) := ⟨by rw [← hq_]; exact (by (with_reducible repeat (first | refine blk_drewN ?_ _ | refine blk_drew ?_ | refine blk_alloc ?_ _)); exact BK177.out)⟩; have n2_ : Aside0 (Below w.heap.size w w5) := ⟨by rw [← hq_]; exact (by repeat (first | (with_reducible first | exact HB.out | apply below_alloc | apply pw_below_drewN | apply below_drew1 | refine below_set ?_ GE176.out | refine below_set ?_ GE177.out) | exact HB.out))⟩; clear BK176 BK177 HB hq_; have BK176 := n0_; have BK177 := n1_; have HB := n2_; clear n0_ n1_ n2_)); (try (have hcz9001_0 : w5.cell? ⟨gb176, 0, none⟩ = some (.bool a0_0) := (blk_cell BK176.out 0).trans rfl)); (try (have hcz9001_1 : w5.cell? ⟨gb176, 1, none⟩ = some (.string a0_1) := (blk_cell BK176.out 1).trans rfl)); (try (have hcz9001_2 : w5.cell? ⟨gb176, 2, none⟩ = some (.int .i64 a0_2) := (blk_cell BK176.out 2).trans rfl)); (try (have hfz9001_0 := blk_frozen BK176.out 0)); (try (have hfz9001_1 := blk_frozen BK176.out 1)); (try (have hfz9001_2 := blk_frozen BK176.out 2)); (try (have hcz9002_0 : w5.cell? ⟨gb177, 0, none⟩ = some (.bool false) := (blk_cell BK177.out 0).trans rfl)); (try (have hcz9002_1 : w5.cell? ⟨gb177, 1, none⟩ = some (.string (⟨#[]⟩ : ByteArray)) := (blk_cell BK177.out 1).trans rfl)); (try (have hcz9002_2 : w5.cell? ⟨gb177, 2, none⟩ = some (.int .i64 0) := (blk_cell BK177.out 2).trans rfl)); (try (have hfz9002_0 := blk_frozen BK177.out 0)); (try (have hfz9002_1 := blk_frozen BK177.out 1)); (try (have hfz9002_2 := blk_frozen BK177.out 2)); have hcz8_0 : w5.cell? ⟨gb177, 0, none⟩ = some (.bool false) := (blk_cell BK177.out 0).trans rfl; have hcz8_1 : w5.cell? ⟨gb177, 1, none⟩ = some (.string (⟨#[]⟩ : ByteArray)) := (blk_cell BK177.out 1).trans rfl; have hcz8_2 : w5.cell? ⟨gb177, 2, none⟩ = some (.int .i64 0) := (blk_cell BK177.out 2).trans rfl; have hfz8_0 := blk_frozen BK177.out 0; have hfz8_1 := blk_frozen BK177.out 1; have hfz8_2 := blk_frozen BK177.out 2))
    refine bodyPost_ret (results_cell_row rfl _ _ gb177 23 #[.bool a0_0, .string (⟨#[48]⟩ : ByteArray), .int .i64 0] (0, 0) _ rfl (by (with_reducible repeat (first | refine blk_drewN ?_ _ | refine blk_drew ?_ | refine blk_alloc ?_ _)); refine blk_put (cs := #[.bool a0_0, .string (⟨#[48]⟩ : ByteArray), .int .i64 0]) ?_ 2 _ rfl; (with_reducible repeat (first | refine blk_drewN ?_ _ | refine blk_drew ?_ | refine blk_alloc ?_ _)); refine blk_put (cs := #[.bool a0_0, .string (⟨#[]⟩ : ByteArray), .int .i64 0]) ?_ 1 _ rfl; (with_reducible repeat (first | refine blk_drewN ?_ _ | refine blk_drew ?_ | refine blk_alloc ?_ _)); refine blk_put (cs := #[.bool false, .string (⟨#[]⟩ : ByteArray), .int .i64 0]) ?_ 0 _ rfl; (with_reducible repeat (first | refine blk_drewN ?_ _ | refine blk_drew ?_ | refine blk_alloc ?_ _)); exact BK177.out) Tryd.underlying23 rfl (by kernel_rfl)) rfl ?_
    exact ⟨by first | rfl | (simp [errW_none, errW_some] <;> rfl) | (simp [*, errW_none, errW_some] <;> rfl), by repeat (first | (with_reducible first | exact HB.out | apply below_alloc | apply pw_below_drewN | apply below_drew1 | refine below_set ?_ GE176.out | refine below_set ?_ GE177.out) | exact HB.out)⟩
  · rw [if_neg c3] at H
    have c3b0 : (t178.toList == ([] : List UInt8)) = false := beq_eq_false_iff_ne.mpr c3
    have c3b1 : (t178.toList != ([] : List UInt8)) = true := bne_iff_ne.mpr c3
    have H' := Aside0.mk H
    clear H
    go_enter Tryd.func19, Tryd.ntmps19
    go_wp2_with (first | ((with_reducible refine gate_dst (N := 1) rfl ?_); refine box_event ?hg (N := 1) ?hd (cs := #[.bool a0_0, .string a0_1, .int .i64 a0_2]) (t := 23) ?hr ?_; (case hd => rfl); (case hg => rfl); (case hr => first | (go_simp; done) | (go_simp; rfl)); intro gb176 hg w9 hbox hb; have n0_ := Aside0.mk (below_step (by repeat (first | (with_reducible first | exact HB.out | apply below_alloc | apply pw_below_drewN | apply below_drew1) | exact HB.out)) hb); have n1_ := Aside0.mk (hbox); have n2_ := Aside0.mk ((by rw [hg]; exact (below_size (by repeat (first | (with_reducible first | exact HB.out | apply below_alloc | apply pw_below_drewN | apply below_drew1) | exact HB.out))) : w.heap.size ≤ gb176)); have n3_ := Aside0.mk ((by rw [hg]; exact (below_size (by repeat (first | (with_reducible first | exact HB.out | apply below_alloc | apply pw_below_drewN | apply below_drew1) | exact HB.out))) : w.heap.size ≤ gb176)); clear HB; have HB := n0_; have BK176 := n1_; have GW176 := n2_; have GE176 := n3_; clear n0_ n1_ n2_ n3_; clear hb hbox hg) | ((with_reducible refine gate_dst (N := 2) rfl ?_); refine box_event ?hg (N := 2) ?hd (cs := #[.bool false, .string (⟨#[]⟩ : ByteArray), .int .i64 0]) (t := 23) ?hr ?_; (case hd => rfl); (case hg => rfl); (case hr => first | (go_simp; done) | (go_simp; rfl)); intro gb177 hg w10 hbox hb; have n0_ := Aside0.mk (blk_below (g := gb176) (o := .cells #[.bool a0_0, .string a0_1, .int .i64 a0_2] 23 (0, 0)) (by (with_reducible repeat (first | refine blk_drewN ?_ _ | refine blk_drew ?_ | refine blk_alloc ?_ _)); exact BK176.out) hb); have n1_ := Aside0.mk (below_step (by repeat (first | (with_reducible first | exact HB.out | apply below_alloc | apply pw_below_drewN | apply below_drew1 | refine below_set ?_ GE176.out) | exact HB.out)) hb); have n2_ := Aside0.mk (hbox); have n3_ := Aside0.mk ((by rw [hg]; exact (below_size (by repeat (first | (with_reducible first | exact HB.out | apply below_alloc | apply pw_below_drewN | apply below_drew1 | refine below_set ?_ GE176.out) | exact HB.out))) : w.heap.size ≤ gb177)); have n4_ := Aside0.mk ((by rw [hg]; exact (below_size (by repeat (first | (with_reducible first | exact HB.out | apply below_alloc | apply pw_below_drewN | apply below_drew1 | refine below_set ?_ GE176.out) | exact HB.out))) : w.heap.size ≤ gb177)); have n5_ := Aside0.mk ((by rw [hg]; exact Nat.ne_of_lt (blk_lt (g := gb176) (o := .cells #[.bool a0_0, .string a0_1, .int .i64 a0_2] 23 (0, 0)) (by (with_reducible repeat (first | refine blk_drewN ?_ _ | refine blk_drew ?_ | refine blk_alloc ?_ _)); exact BK176.out)) : gb176 ≠ gb177)); have n6_ := Aside0.mk ((by rw [hg]; exact Nat.ne_of_gt (blk_lt (g := gb176) (o := .cells #[.bool a0_0, .string a0_1, .int .i64 a0_2] 23 (0, 0)) (by (with_reducible repeat (first | refine blk_drewN ?_ _ | refine blk_drew ?_ | refine blk_alloc ?_ _)); exact BK176.out)) : gb177 ≠ gb176)); clear BK176; clear HB; have BK176 := n0_; have HB := n1_; have BK177 := n2_; have GW177 := n3_; have GE177 := n4_; have NB176_177 := n5_; have NB177_176 := n6_; clear n0_ n1_ n2_ n3_ n4_ n5_ n6_; clear hb hbox hg; have hnb11 := NB176_177.out; have hnc11 := NB177_176.out; have hcz12_0 : w10.cell? ⟨gb176, 0, none⟩ = some (.bool a0_0) := (blk_cell BK176.out 0).trans rfl; have hcz12_1 : w10.cell? ⟨gb176, 1, none⟩ = some (.string a0_1) := (blk_cell BK176.out 1).trans rfl; have hcz12_2 : w10.cell? ⟨gb176, 2, none⟩ = some (.int .i64 a0_2) := (blk_cell BK176.out 2).trans rfl; have hfz12_0 := blk_frozen BK176.out 0; have hfz12_1 := blk_frozen BK176.out 1; have hfz12_2 := blk_frozen BK176.out 2) | ((with_reducible refine gate_callee (f := 46) rfl ?_); refine goesL_ (some 7) rfl rfl Tryd.func46 (by kernel_rfl) rfl #[.string a0_1] rfl (by (try simp only [List.map_toArray]); (try simp only [List.map_cons]); (try simp only [List.map_nil]); first | done | rfl | (simp only [List.length_drop, List.length_take]; rfl)) ?_; (with_reducible refine (figureheadref01_Strip.calls k a0_1 t178 _ A2.out).mono ?_); rintro e w' ⟨rfl, ⟨nd, rfl⟩⟩; refine ⟨_, rfl, ?_⟩))
    go_loopg [3, 4] k (fun kq v3 v4 w' => ∃ (x3_1 : ByteArray) (x4_1 : Int), v3 = .string x3_1 ∧ v4 = .int .i64 x4_1 ∧ Aside0 (figureheadref05_Norm.l0 kq x3_1 x4_1 a0_0 a0_1 a0_2 = some (r1, r2, r3)) ∧ Aside0 (kq ≤ k) ∧ Aside0 (w'.heap[gb176]? = some (.cells #[.bool a0_0, .string a0_1, .int .i64 a0_2] 23 (0, 0))) ∧ Aside0 (w'.heap[gb177]? = some (.cells #[.bool false, .string (⟨#[]⟩ : ByteArray), .int .i64 0] 23 (0, 0))) ∧ Aside0 (Below w.heap.size w w'))
    case atStart => exact ⟨(t178), (a0_2), (by first | rfl | (simp; done) | (simp [*]; done) | (simp [*, Fig.bne_nil]; done)), (by first | rfl | (simp; done) | (simp [*]; done) | (simp [*, Fig.bne_nil]; done)), H', ⟨Nat.le_refl _⟩, ⟨by (with_reducible repeat (first | refine blk_drewN ?_ _ | refine blk_drew ?_ | refine blk_alloc ?_ _)); exact BK176.out⟩, ⟨by (with_reducible repeat (first | refine blk_drewN ?_ _ | refine blk_drew ?_ | refine blk_alloc ?_ _)); exact BK177.out⟩, ⟨by repeat (first | (with_reducible first | exact HB.out | apply below_alloc | apply pw_below_drewN | apply below_drew1 | refine below_set ?_ GE176.out | refine below_set ?_ GE177.out) | exact HB.out)⟩⟩
    case round =>
      clear H'
      try clear c1
      try clear p2
      try clear c3
      try clear c3b0
      try clear c3b1
      try clear c4
      try clear c6
      try clear c11
      try clear hcz12_0
      try clear hcz12_1
      try clear hcz12_2
      try clear hcz7_0
      try clear hcz7_1
      try clear hcz7_2
      try clear hcz8_0
      try clear hcz8_1
      try clear hcz8_2
      try clear hcz9001_0
      try clear hcz9001_1
      try clear hcz9001_2
      try clear hcz9002_0
      try clear hcz9002_1
      try clear hcz9002_2
      try clear hfz12_0
      try clear hfz12_1
      try clear hfz12_2
      try clear hfz7_0
      try clear hfz7_1
      try clear hfz7_2
      try clear hfz8_0
      try clear hfz8_1
      try clear hfz8_2
      try clear hfz9001_0
      try clear hfz9001_1
      try clear hfz9001_2
      try clear hfz9002_0
      try clear hfz9002_1
      try clear hfz9002_2
      obtain ⟨x3_1, x4_1, rfl, rfl, HA, HK1, BK176, BK177, HB⟩ := hrel
      cases gk with
      | zero => exact absurd HA.out (by simp [figureheadref05_Norm.l0])
      | succ k1 =>
        have H := HA.out
        clear HA
        simp only [figureheadref05_Norm.l0] at H
        obtain ⟨ji13, hji13⟩ : ∃ j_ : Int, (wrap64 ((x3_1.size : Int) - 1)) = j_ := ⟨_, rfl⟩
        replace H : (if 0 ≤ (ji13) then (if (ji13) < (x3_1.size : Int) then (if (bt x3_1 (ji13)) = 48 then (if (ji13) ≤ (x3_1.size : Int) then (figureheadref05_Norm.l0 k1 (x3_1.extract 0 ((ji13) : Int).toNat) (wrap64 (x4_1 + 1)) a0_0 a0_1 a0_2) else (none)) else (some (a0_0, x3_1, x4_1))) else (none)) else (none)) = some (r1, r2, r3) := by first | (rw [hji13] at H; exact H) | (simp only [hji13] at H ⊢; exact H)
        have hji13w : (IntKind.i64.wrap ((x3_1.size : Int) - 1)) = ji13 := (i64_w _).trans hji13
        by_cases c14 : 0 ≤ (ji13)
        · rw [if_pos c14] at H
          have c14b0 : decide (0 ≤ (ji13)) = true := decide_eq_true c14
          clear c14
          by_cases c15 : (ji13) < (x3_1.size : Int)
          · rw [if_pos c15] at H
            have c15b0 : decide ((ji13) < (x3_1.size : Int)) = true := decide_eq_true c15
            clear c15
            by_cases c17 : (bt x3_1 (ji13)) = 48
            · rw [if_pos c17] at H
              have c17b0 : ((bt x3_1 (ji13)) == 48) = true := beq_iff_eq.mpr c17
              have c17b1 : ((bt x3_1 (ji13)) != 48) = false := bne_eq_false_iff_eq.mpr c17
              clear c17
              have c18b0 := eq_true (of_decide_eq_true (by first | (with_reducible assumption) | assumption) : 0 ≤ (ji13))
              by_cases c19 : (ji13) ≤ (x3_1.size : Int)
              · rw [if_pos c19] at H
                have c19b0 := eq_true c19
                have c19b1 : decide ((ji13) ≤ (x3_1.size : Int)) = true := decide_eq_true c19
                clear c19
                have H' := Aside0.mk H
                clear H
                have p16 : 0 ≤ ((ji13) : Int) := of_decide_eq_true (by first | (with_reducible assumption) | assumption)
                have q16 : (ji13) < (x3_1.size : Int) := of_decide_eq_true (by first | (with_reducible assumption) | assumption)
                have hx16 := bt_at x3_1 (ji13)
                replace p16 := eq_true p16
                replace q16 := eq_true q16
                go_wp2
                go_roundg k1
                case measure => have := HK1.out; omega
                case rel => exact ⟨(x3_1.extract 0 ((ji13) : Int).toNat), (wrap64 (x4_1 + 1)), (by first | rfl | (simp; done) | (simp only [← hji13] <;> (first | rfl | simp)) | (simp [*]; done) | (simp [*, Fig.bne_nil]; done)), (by first | rfl | (simp; done) | (simp [*]; done) | (simp [*, Fig.bne_nil]; done)), H', ⟨by have := HK1.out; omega⟩, ⟨by (with_reducible repeat (first | refine blk_drewN ?_ _ | refine blk_drew ?_ | refine blk_alloc ?_ _)); exact BK176.out⟩, ⟨by (with_reducible repeat (first | refine blk_drewN ?_ _ | refine blk_drew ?_ | refine blk_alloc ?_ _)); exact BK177.out⟩, ⟨by repeat (first | (with_reducible first | exact HB.out | apply below_alloc | apply pw_below_drewN | apply below_drew1 | refine below_set ?_ GE176.out | refine below_set ?_ GE177.out) | exact HB.out)⟩⟩
              · rw [if_neg c19] at H
                exact absurd H (by simp)
            · rw [if_neg c17] at H
              have c17b0 : ((bt x3_1 (ji13)) == 48) = false := beq_eq_false_iff_ne.mpr c17
              have c17b1 : ((bt x3_1 (ji13)) != 48) = true := bne_iff_ne.mpr c17
              simp only [Option.some.injEq, Prod.mk.injEq] at H
              obtain ⟨rfl, rfl, rfl⟩ := H
              have p16 : 0 ≤ ((ji13) : Int) := of_decide_eq_true (by first | (with_reducible assumption) | assumption)
              have q16 : (ji13) < (x3_1.size : Int) := of_decide_eq_true (by first | (with_reducible assumption) | assumption)
              have hx16 := bt_at x3_1 (ji13)
              replace p16 := eq_true p16
              replace q16 := eq_true q16
              have hnb20 := NB176_177.out
              have hnc20 := NB177_176.out
              have hcz21_0 : wr.cell? ⟨gb176, 0, none⟩ = some (.bool a0_0) := (blk_cell BK176.out 0).trans rfl
              have hcz21_1 : wr.cell? ⟨gb176, 1, none⟩ = some (.string a0_1) := (blk_cell BK176.out 1).trans rfl
              have hcz21_2 : wr.cell? ⟨gb176, 2, none⟩ = some (.int .i64 a0_2) := (blk_cell BK176.out 2).trans rfl
              have hfz21_0 := blk_frozen BK176.out 0
              have hfz21_1 := blk_frozen BK176.out 1
              have hfz21_2 := blk_frozen BK176.out 2
              have hcz22_0 : wr.cell? ⟨gb177, 0, none⟩ = some (.bool false) := (blk_cell BK177.out 0).trans rfl
              have hcz22_1 : wr.cell? ⟨gb177, 1, none⟩ = some (.string (⟨#[]⟩ : ByteArray)) := (blk_cell BK177.out 1).trans rfl
              have hcz22_2 : wr.cell? ⟨gb177, 2, none⟩ = some (.int .i64 0) := (blk_cell BK177.out 2).trans rfl
              have hfz22_0 := blk_frozen BK177.out 0
              have hfz22_1 := blk_frozen BK177.out 1
              have hfz22_2 := blk_frozen BK177.out 2
              go_wp2
              refine bodyPost_ret (results_cell_row rfl _ _ gb177 23 #[.bool a0_0, .string x3_1, .int .i64 x4_1] (0, 0) _ rfl (by (with_reducible repeat (first | refine blk_drewN ?_ _ | refine blk_drew ?_ | refine blk_alloc ?_ _)); refine blk_put (cs := #[.bool a0_0, .string x3_1, .int .i64 0]) ?_ 2 _ rfl; (with_reducible repeat (first | refine blk_drewN ?_ _ | refine blk_drew ?_ | refine blk_alloc ?_ _)); refine blk_put (cs := #[.bool a0_0, .string (⟨#[]⟩ : ByteArray), .int .i64 0]) ?_ 1 _ rfl; (with_reducible repeat (first | refine blk_drewN ?_ _ | refine blk_drew ?_ | refine blk_alloc ?_ _)); refine blk_put (cs := #[.bool false, .string (⟨#[]⟩ : ByteArray), .int .i64 0]) ?_ 0 _ rfl; (with_reducible repeat (first | refine blk_drewN ?_ _ | refine blk_drew ?_ | refine blk_alloc ?_ _)); exact BK177.out) Tryd.underlying23 rfl (by kernel_rfl)) rfl ?_
              exact ⟨by first | rfl | (simp [errW_none, errW_some] <;> rfl) | (simp only [← hji13]; first | rfl | (simp [errW_none, errW_some] <;> rfl)) | (simp [*, errW_none, errW_some] <;> rfl), by repeat (first | (with_reducible first | exact HB.out | apply below_alloc | apply pw_below_drewN | apply below_drew1 | refine below_set ?_ GE176.out | refine below_set ?_ GE177.out) | exact HB.out)⟩
          · rw [if_neg c15] at H
            exact absurd H (by simp)
        · rw [if_neg c14] at H
          exact absurd H (by simp)
end Go.Proofs.YtbjaiphfehnncaaDoor.Px
end
section
namespace Go.Proofs.YtbjaiphfehnncaaDoor.Px
open Fig Go.RowKit Go.Proofs.YtbjaiphfehnncaaDoorW.PrintWords Go.Proofs.YtbjaiphfehnncaaDoorW.PrintLast Go.Proofs.YtbjaiphfehnncaaDoorW.PrintMore
attribute [local go_sem] max2_int min2_int max_two min_two max_three min_three max_four min_four   -- for this text's walks alone
attribute [local go_sem] fieldA23_0 fieldA23_1 fieldA23_2
def figureheadref05_Make.f (k : Nat) (a0 : Bool) (a1 : ByteArray) (a2 : Int) : Option (Bool × ByteArray × Int) := if 1 + a1.size ≤ 9223372036854775807 then ((figureheadref05_Norm.f k a0 ((⟨#[48]⟩ : ByteArray) ++ a1) a2).bind fun bt414 => (some (bt414.1, bt414.2.1, bt414.2.2))) else (none)
theorem figureheadref05_Make.mono : ∀ a0 a1 a2 k, LeO (figureheadref05_Make.f k a0 a1 a2) (figureheadref05_Make.f (k + 1) a0 a1 a2) := by
  intro a0 a1 a2 k
  unfold figureheadref05_Make.f
  repeat' first
      | (with_reducible exact figureheadref05_Norm.mono _ _ _ _)
      | (with_reducible exact LeO.refl _)
      | (with_reducible exact LeO.none _)
      | (with_reducible refine LeO.ite ?_ ?_)
      | (with_reducible refine LeO.bind ?_ (fun _ => ?_))
      | exact figureheadref05_Norm.mono _ _ _ _
      | exact LeO.none _
      | refine LeO.ite ?_ ?_
      | refine LeO.bind ?_ (fun _ => ?_)
set_option maxHeartbeats 8000000 in
set_option maxRecDepth 100000 in
theorem figureheadref05_Make.calls (k : Nat) (a0 : Bool) (a1 : ByteArray) (a2 : Int) (r1 : Bool) (r2 : ByteArray) (r3 : Int) (w : World) (h : figureheadref05_Make.f k a0 a1 a2 = some (r1, r2, r3)) :
    Calls Tryd.prog 57 #[.bool a0, .string a1, .int .i64 a2] w fun e w' => e = .returned (.agg #[.bool r1, .string r2, .int .i64 r3]) ∧ Below w.heap.size w w' := by
  have hu23 := Tryd.underlying23
  have HB := Aside0.mk (Below.refl w.heap.size w)
  have H : (if 1 + a1.size ≤ 9223372036854775807 then ((figureheadref05_Norm.f k a0 ((⟨#[48]⟩ : ByteArray) ++ a1) a2).bind fun bt414 => (some (bt414.1, bt414.2.1, bt414.2.2))) else (none)) = some (r1, r2, r3) := h
  clear h
  by_cases c4 : 1 + a1.size ≤ 9223372036854775807
  · rw [if_pos c4] at H
    have c4b0 := eq_true c4
    have c4b1 : decide (1 + a1.size ≤ 9223372036854775807) = true := decide_eq_true c4
    try have c4b2 : (9223372036854775807 < 1 + a1.size) = False := eq_false (Nat.not_lt.2 c4)
    replace H := Option.bind_eq_some_iff.mp H
    obtain ⟨⟨t414, t415, t416⟩, A50, H⟩ := H
    replace H : (some (t414, t415, t416)) = some (r1, r2, r3) := H
    have A5 := Aside0.mk A50
    clear A50
    simp only [Option.some.injEq, Prod.mk.injEq] at H
    obtain ⟨rfl, rfl, rfl⟩ := H
    go_enter Tryd.func57, Tryd.ntmps57
    go_wp2_with (first | ((with_reducible refine gate_dst (N := 6) rfl ?_); refine box_event ?hg (N := 6) ?hd (cs := #[.bool false, .string (⟨#[]⟩ : ByteArray), .int .i64 0]) (t := 23) ?hr ?_; (case hd => rfl); (case hg => rfl); (case hr => first | (go_simp; done) | (go_simp; rfl)); intro gb413 hg w6 hbox hb; have n0_ := Aside0.mk (below_step (by repeat (first | (with_reducible first | exact HB.out | apply below_alloc | apply pw_below_drewN | apply below_drew1) | exact HB.out)) hb); have n1_ := Aside0.mk (hbox); have n2_ := Aside0.mk ((by rw [hg]; exact (below_size (by repeat (first | (with_reducible first | exact HB.out | apply below_alloc | apply pw_below_drewN | apply below_drew1) | exact HB.out))) : w.heap.size ≤ gb413)); have n3_ := Aside0.mk ((by rw [hg]; exact (below_size (by repeat (first | (with_reducible first | exact HB.out | apply below_alloc | apply pw_below_drewN | apply below_drew1) | exact HB.out))) : w.heap.size ≤ gb413)); clear HB; have HB := n0_; have BK413 := n1_; have GW413 := n2_; have GE413 := n3_; clear n0_ n1_ n2_ n3_; clear hb hbox hg) | ((with_reducible refine gate_callee (f := 19) rfl ?_); refine goesL_ (some 12) rfl rfl Tryd.func19 (by kernel_rfl) rfl #[.agg #[.bool a0, .string ((⟨#[48]⟩ : ByteArray) ++ a1), .int .i64 a2]] rfl (by (try simp only [List.map_toArray]); (try simp only [List.map_cons]); (try simp only [List.map_nil]); first | done | rfl | (simp only [List.length_drop, List.length_take]; rfl)) ?_; (with_reducible refine (figureheadref05_Norm.calls k a0 ((⟨#[48]⟩ : ByteArray) ++ a1) a2 t414 t415 t416 _ A5.out).mono ?_); rintro e w7 ⟨rfl, hb⟩; refine ⟨_, rfl, ?_⟩; have n0_ := Aside0.mk (blk_below (g := gb413) (o := .cells #[.bool false, .string (⟨#[]⟩ : ByteArray), .int .i64 0] 23 (0, 0)) (by (with_reducible repeat (first | refine blk_drewN ?_ _ | refine blk_drew ?_ | refine blk_alloc ?_ _)); exact BK413.out) hb); have n1_ := Aside0.mk (below_step (by repeat (first | (with_reducible first | exact HB.out | apply below_alloc | apply pw_below_drewN | apply below_drew1 | refine below_set ?_ GE413.out) | exact HB.out)) hb); clear BK413; clear HB; have BK413 := n0_; have HB := n1_; clear n0_ n1_; (try clear hb); (try clear hb2); (try clear hk); (try clear hi); have hcz8_0 : w7.cell? ⟨gb413, 0, none⟩ = some (.bool false) := (blk_cell BK413.out 0).trans rfl; have hcz8_1 : w7.cell? ⟨gb413, 1, none⟩ = some (.string (⟨#[]⟩ : ByteArray)) := (blk_cell BK413.out 1).trans rfl; have hcz8_2 : w7.cell? ⟨gb413, 2, none⟩ = some (.int .i64 0) := (blk_cell BK413.out 2).trans rfl; have hfz8_0 := blk_frozen BK413.out 0; have hfz8_1 := blk_frozen BK413.out 1; have hfz8_2 := blk_frozen BK413.out 2))
    refine bodyPost_ret (results_cell_row rfl _ _ gb413 23 #[.bool t414, .string t415, .int .i64 t416] (0, 0) _ rfl (by (with_reducible repeat (first | refine blk_drewN ?_ _ | refine blk_drew ?_ | refine blk_alloc ?_ _)); refine blk_put (cs := #[.bool t414, .string t415, .int .i64 0]) ?_ 2 _ rfl; (with_reducible repeat (first | refine blk_drewN ?_ _ | refine blk_drew ?_ | refine blk_alloc ?_ _)); refine blk_put (cs := #[.bool t414, .string (⟨#[]⟩ : ByteArray), .int .i64 0]) ?_ 1 _ rfl; (with_reducible repeat (first | refine blk_drewN ?_ _ | refine blk_drew ?_ | refine blk_alloc ?_ _)); refine blk_put (cs := #[.bool false, .string (⟨#[]⟩ : ByteArray), .int .i64 0]) ?_ 0 _ rfl; (with_reducible repeat (first | refine blk_drewN ?_ _ | refine blk_drew ?_ | refine blk_alloc ?_ _)); exact BK413.out) Tryd.underlying23 rfl (by kernel_rfl)) rfl ?_
    exact ⟨by first | rfl | (simp [errW_none, errW_some] <;> rfl) | (simp [*, errW_none, errW_some] <;> rfl), by repeat (first | (with_reducible first | exact HB.out | apply below_alloc | apply pw_below_drewN | apply below_drew1 | refine below_set ?_ GE413.out) | exact HB.out)⟩
  · rw [if_neg c4] at H
    exact absurd H (by simp)
end Go.Proofs.YtbjaiphfehnncaaDoor.Px
end
section
namespace Go.Proofs.YtbjaiphfehnncaaDoor.Px
open Fig Go.RowKit Go.Proofs.YtbjaiphfehnncaaDoorW.PrintWords Go.Proofs.YtbjaiphfehnncaaDoorW.PrintLast Go.Proofs.YtbjaiphfehnncaaDoorW.PrintMore
attribute [local go_sem] max2_int min2_int max_two min_two max_three min_three max_four min_four   -- for this text's walks alone
attribute [local go_sem] fieldA23_0 fieldA23_1 fieldA23_2
def figureheadref05_Product.f (k : Nat) (a0_0 : Bool) (a0_1 : ByteArray) (a0_2 : Int) (a1_0 : Bool) (a1_1 : ByteArray) (a1_2 : Int) : Option (Bool × ByteArray × Int) := (figureheadref01_Strip.f k a0_1).bind fun t506 => ((figureheadref01_Strip.f k a1_1).bind fun t507 => ((figureheadref01_Times.f k t506 t507).bind fun t508 => ((figureheadref05_Make.f k (a0_0 != a1_0) t508 (wrap64 (a0_2 + a1_2))).bind fun bt509 => ((figureheadref05_plain.f bt509.1 bt509.2.1 bt509.2.2).bind fun bt512 => (some (bt512.1, bt512.2.1, bt512.2.2))))))
theorem figureheadref05_Product.mono : ∀ a0 a1 a2 a3 a4 a5 k, LeO (figureheadref05_Product.f k a0 a1 a2 a3 a4 a5) (figureheadref05_Product.f (k + 1) a0 a1 a2 a3 a4 a5) := by
  intro a0 a1 a2 a3 a4 a5 k
  unfold figureheadref05_Product.f
  repeat' first
      | (with_reducible exact figureheadref01_Strip.mono _ _)
      | (with_reducible exact figureheadref01_Times.mono _ _ _)
      | (with_reducible exact figureheadref05_Make.mono _ _ _ _)
      | (with_reducible exact LeO.refl _)
      | (with_reducible exact LeO.none _)
      | (with_reducible refine LeO.ite ?_ ?_)
      | (with_reducible refine LeO.bind ?_ (fun _ => ?_))
      | exact figureheadref01_Strip.mono _ _
      | exact figureheadref01_Times.mono _ _ _
      | exact figureheadref05_Make.mono _ _ _ _
      | exact LeO.none _
      | refine LeO.ite ?_ ?_
      | refine LeO.bind ?_ (fun _ => ?_)
def figureheadref05_Product.T1 : Bool × List (List Nat × List Nat) := (true, [([], []), ([0], [0]), ([], []), ([2], [2]), ([1, 3], [1, 3]), ([], []), ([5], [5]), ([6], [6]), ([], []), ([8], [8]), ([9, 7], [9]), ([7, 10, 10], [7, 10]), ([], []), ([12], [12]), ([], []), ([14], [14]), ([13, 15], [13, 15]), ([4, 11, 16, 11], [4, 11, 16]), ([17, 17], [17]), ([18, 18, 0, 1, 2, 3, 4, 5, 6, 7, 8, 9, 10, 11, 12, 13, 14, 15, 16, 17, 18], [18])])
def figureheadref05_Product.B1 : List Nat := [0, 1, 0, 4, 15, 0, 32, 96, 0, 256, 992, 2016, 0, 4096, 0, 16384, 61440, 131071, 262143, 524287]
theorem figureheadref05_Product.tab1 : rtab .any (opsOf Tryd.f39 1) = figureheadref05_Product.T1 := by kernel_rfl
theorem figureheadref05_Product.bits1 : waitsOk figureheadref05_Product.T1.2 figureheadref05_Product.B1 = true := by kernel_rfl
set_option maxHeartbeats 8000000 in
set_option maxRecDepth 100000 in
theorem figureheadref05_Product.calls (k : Nat) (a0_0 : Bool) (a0_1 : ByteArray) (a0_2 : Int) (a1_0 : Bool) (a1_1 : ByteArray) (a1_2 : Int) (r1 : Bool) (r2 : ByteArray) (r3 : Int) (w : World) (h : figureheadref05_Product.f k a0_0 a0_1 a0_2 a1_0 a1_1 a1_2 = some (r1, r2, r3)) :
    Calls Tryd.prog 39 #[.agg #[.bool a0_0, .string a0_1, .int .i64 a0_2], .agg #[.bool a1_0, .string a1_1, .int .i64 a1_2]] w fun e w' => e = .returned (.agg #[.bool r1, .string r2, .int .i64 r3]) ∧ Below w.heap.size w w' := by
  have hu23 := Tryd.underlying23
  have HB := Aside0.mk (Below.refl w.heap.size w)
  have H : ((figureheadref01_Strip.f k a0_1).bind fun t506 => ((figureheadref01_Strip.f k a1_1).bind fun t507 => ((figureheadref01_Times.f k t506 t507).bind fun t508 => ((figureheadref05_Make.f k (a0_0 != a1_0) t508 (wrap64 (a0_2 + a1_2))).bind fun bt509 => ((figureheadref05_plain.f bt509.1 bt509.2.1 bt509.2.2).bind fun bt512 => (some (bt512.1, bt512.2.1, bt512.2.2))))))) = some (r1, r2, r3) := h
  clear h
  replace H := Option.bind_eq_some_iff.mp H
  obtain ⟨t506, A30, H⟩ := H
  replace H : ((figureheadref01_Strip.f k a1_1).bind fun t507 => ((figureheadref01_Times.f k t506 t507).bind fun t508 => ((figureheadref05_Make.f k (a0_0 != a1_0) t508 (wrap64 (a0_2 + a1_2))).bind fun bt509 => ((figureheadref05_plain.f bt509.1 bt509.2.1 bt509.2.2).bind fun bt512 => (some (bt512.1, bt512.2.1, bt512.2.2)))))) = some (r1, r2, r3) := H
  have A3 := Aside0.mk A30
  clear A30
  replace H := Option.bind_eq_some_iff.mp H
  obtain ⟨t507, A40, H⟩ := H
  replace H : ((figureheadref01_Times.f k t506 t507).bind fun t508 => ((figureheadref05_Make.f k (a0_0 != a1_0) t508 (wrap64 (a0_2 + a1_2))).bind fun bt509 => ((figureheadref05_plain.f bt509.1 bt509.2.1 bt509.2.2).bind fun bt512 => (some (bt512.1, bt512.2.1, bt512.2.2))))) = some (r1, r2, r3) := H
  have A4 := Aside0.mk A40
  clear A40
  replace H := Option.bind_eq_some_iff.mp H
  obtain ⟨t508, A50, H⟩ := H
  replace H : ((figureheadref05_Make.f k (a0_0 != a1_0) t508 (wrap64 (a0_2 + a1_2))).bind fun bt509 => ((figureheadref05_plain.f bt509.1 bt509.2.1 bt509.2.2).bind fun bt512 => (some (bt512.1, bt512.2.1, bt512.2.2)))) = some (r1, r2, r3) := H
  have A5 := Aside0.mk A50
  clear A50
  replace H := Option.bind_eq_some_iff.mp H
  obtain ⟨⟨t509, t510, t511⟩, A60, H⟩ := H
  replace H : ((figureheadref05_plain.f t509 t510 t511).bind fun bt512 => (some (bt512.1, bt512.2.1, bt512.2.2))) = some (r1, r2, r3) := H
  have A6 := Aside0.mk A60
  clear A60
  replace H := Option.bind_eq_some_iff.mp H
  obtain ⟨⟨t512, t513, t514⟩, A70, H⟩ := H
  replace H : (some (t512, t513, t514)) = some (r1, r2, r3) := H
  have A7 := Aside0.mk A70
  clear A70
  simp only [Option.some.injEq, Prod.mk.injEq] at H
  obtain ⟨rfl, rfl, rfl⟩ := H
  go_enter Tryd.func39, Tryd.ntmps39
  try go_wp2_with (first | ((with_reducible refine gate_dst (N := 2) rfl ?_); refine box_event ?hg (N := 2) ?hd (cs := #[.bool a0_0, .string a0_1, .int .i64 a0_2]) (t := 23) ?hr ?_; (case hd => rfl); (case hg => rfl); (case hr => first | (go_simp; done) | (go_simp; rfl)); intro gb503 hg w8 hbox hb; have n0_ := Aside0.mk (below_step (by repeat (first | (with_reducible first | exact HB.out | apply below_alloc | apply pw_below_drewN | apply below_drew1) | exact HB.out)) hb); have n1_ := Aside0.mk (hbox); have n2_ := Aside0.mk ((by rw [hg]; exact (below_size (by repeat (first | (with_reducible first | exact HB.out | apply below_alloc | apply pw_below_drewN | apply below_drew1) | exact HB.out))) : w.heap.size ≤ gb503)); have n3_ := Aside0.mk ((by rw [hg]; exact (below_size (by repeat (first | (with_reducible first | exact HB.out | apply below_alloc | apply pw_below_drewN | apply below_drew1) | exact HB.out))) : w.heap.size ≤ gb503)); clear HB; have HB := n0_; have BK503 := n1_; have GW503 := n2_; have GE503 := n3_; clear n0_ n1_ n2_ n3_; clear hb hbox hg) | ((with_reducible refine gate_dst (N := 3) rfl ?_); refine box_event ?hg (N := 3) ?hd (cs := #[.bool a1_0, .string a1_1, .int .i64 a1_2]) (t := 23) ?hr ?_; (case hd => rfl); (case hg => rfl); (case hr => first | (go_simp; done) | (go_simp; rfl)); intro gb504 hg w9 hbox hb; have n0_ := Aside0.mk (blk_below (g := gb503) (o := .cells #[.bool a0_0, .string a0_1, .int .i64 a0_2] 23 (0, 0)) (by (with_reducible repeat (first | refine blk_drewN ?_ _ | refine blk_drew ?_ | refine blk_alloc ?_ _)); exact BK503.out) hb); have n1_ := Aside0.mk (below_step (by repeat (first | (with_reducible first | exact HB.out | apply below_alloc | apply pw_below_drewN | apply below_drew1 | refine below_set ?_ GE503.out) | exact HB.out)) hb); have n2_ := Aside0.mk (hbox); have n3_ := Aside0.mk ((by rw [hg]; exact (below_size (by repeat (first | (with_reducible first | exact HB.out | apply below_alloc | apply pw_below_drewN | apply below_drew1 | refine below_set ?_ GE503.out) | exact HB.out))) : w.heap.size ≤ gb504)); have n4_ := Aside0.mk ((by rw [hg]; exact (below_size (by repeat (first | (with_reducible first | exact HB.out | apply below_alloc | apply pw_below_drewN | apply below_drew1 | refine below_set ?_ GE503.out) | exact HB.out))) : w.heap.size ≤ gb504)); have n5_ := Aside0.mk ((by rw [hg]; exact Nat.ne_of_lt (blk_lt (g := gb503) (o := .cells #[.bool a0_0, .string a0_1, .int .i64 a0_2] 23 (0, 0)) (by (with_reducible repeat (first | refine blk_drewN ?_ _ | refine blk_drew ?_ | refine blk_alloc ?_ _)); exact BK503.out)) : gb503 ≠ gb504)); have n6_ := Aside0.mk ((by rw [hg]; exact Nat.ne_of_gt (blk_lt (g := gb503) (o := .cells #[.bool a0_0, .string a0_1, .int .i64 a0_2] 23 (0, 0)) (by (with_reducible repeat (first | refine blk_drewN ?_ _ | refine blk_drew ?_ | refine blk_alloc ?_ _)); exact BK503.out)) : gb504 ≠ gb503)); clear BK503; clear HB; have BK503 := n0_; have HB := n1_; have BK504 := n2_; have GW504 := n3_; have GE504 := n4_; have NB503_504 := n5_; have NB504_503 := n6_; clear n0_ n1_ n2_ n3_ n4_ n5_ n6_; clear hb hbox hg) | ((with_reducible refine gate_dst (N := 4) rfl ?_); refine box_event ?hg (N := 4) ?hd (cs := #[.bool false, .string (⟨#[]⟩ : ByteArray), .int .i64 0]) (t := 23) ?hr ?_; (case hd => rfl); (case hg => rfl); (case hr => first | (go_simp; done) | (go_simp; rfl)); intro gb505 hg w10 hbox hb; have n0_ := Aside0.mk (blk_below (g := gb503) (o := .cells #[.bool a0_0, .string a0_1, .int .i64 a0_2] 23 (0, 0)) (by (with_reducible repeat (first | refine blk_drewN ?_ _ | refine blk_drew ?_ | refine blk_alloc ?_ _)); exact BK503.out) hb); have n1_ := Aside0.mk (blk_below (g := gb504) (o := .cells #[.bool a1_0, .string a1_1, .int .i64 a1_2] 23 (0, 0)) (by (with_reducible repeat (first | refine blk_drewN ?_ _ | refine blk_drew ?_ | refine blk_alloc ?_ _)); exact BK504.out) hb); have n2_ := Aside0.mk (below_step (by repeat (first | (with_reducible first | exact HB.out | apply below_alloc | apply pw_below_drewN | apply below_drew1 | refine below_set ?_ GE503.out | refine below_set ?_ GE504.out) | exact HB.out)) hb); have n3_ := Aside0.mk (hbox); have n4_ := Aside0.mk ((by rw [hg]; exact (below_size (by repeat (first | (with_reducible first | exact HB.out | apply below_alloc | apply pw_below_drewN | apply below_drew1 | refine below_set ?_ GE503.out | refine below_set ?_ GE504.out) | exact HB.out))) : w.heap.size ≤ gb505)); have n5_ := Aside0.mk ((by rw [hg]; exact (below_size (by repeat (first | (with_reducible first | exact HB.out | apply below_alloc | apply pw_below_drewN | apply below_drew1 | refine below_set ?_ GE503.out | refine below_set ?_ GE504.out) | exact HB.out))) : w.heap.size ≤ gb505)); have n6_ := Aside0.mk ((by rw [hg]; exact Nat.ne_of_lt (blk_lt (g := gb503) (o := .cells #[.bool a0_0, .string a0_1, .int .i64 a0_2] 23 (0, 0)) (by (with_reducible repeat (first | refine blk_drewN ?_ _ | refine blk_drew ?_ | refine blk_alloc ?_ _)); exact BK503.out)) : gb503 ≠ gb505)); have n7_ := Aside0.mk ((by rw [hg]; exact Nat.ne_of_gt (blk_lt (g := gb503) (o := .cells #[.bool a0_0, .string a0_1, .int .i64 a0_2] 23 (0, 0)) (by (with_reducible repeat (first | refine blk_drewN ?_ _ | refine blk_drew ?_ | refine blk_alloc ?_ _)); exact BK503.out)) : gb505 ≠ gb503)); have n8_ := Aside0.mk ((by rw [hg]; exact Nat.ne_of_lt (blk_lt (g := gb504) (o := .cells #[.bool a1_0, .string a1_1, .int .i64 a1_2] 23 (0, 0)) (by (with_reducible repeat (first | refine blk_drewN ?_ _ | refine blk_drew ?_ | refine blk_alloc ?_ _)); exact BK504.out)) : gb504 ≠ gb505)); have n9_ := Aside0.mk ((by rw [hg]; exact Nat.ne_of_gt (blk_lt (g := gb504) (o := .cells #[.bool a1_0, .string a1_1, .int .i64 a1_2] 23 (0, 0)) (by (with_reducible repeat (first | refine blk_drewN ?_ _ | refine blk_drew ?_ | refine blk_alloc ?_ _)); exact BK504.out)) : gb505 ≠ gb504)); clear BK503; clear BK504; clear HB; have BK503 := n0_; have BK504 := n1_; have HB := n2_; have BK505 := n3_; have GW505 := n4_; have GE505 := n5_; have NB503_505 := n6_; have NB505_503 := n7_; have NB504_505 := n8_; have NB505_504 := n9_; clear n0_ n1_ n2_ n3_ n4_ n5_ n6_ n7_ n8_ n9_; clear hb hbox hg))
  have n0_ := Aside0.mk (blk_drew BK503.out)
  have n1_ := Aside0.mk (blk_drew BK504.out)
  have n2_ := Aside0.mk (blk_drew BK505.out)
  have n3_ := Aside0.mk (below_drew1 HB.out)
  clear BK503
  clear BK504
  clear BK505
  clear HB
  have BK503 := n0_
  have BK504 := n1_
  have BK505 := n2_
  have HB := n3_
  clear n0_ n1_ n2_ n3_
  refine start_ (n := 20) (S := fun w' => w'.cell? ⟨gb503, 0, none⟩ = some (.bool a0_0) ∧ w'.cell? ⟨gb503, 1, none⟩ = some (.string a0_1) ∧ w'.cell? ⟨gb503, 2, none⟩ = some (.int .i64 a0_2) ∧ w'.cell? ⟨gb504, 0, none⟩ = some (.bool a1_0) ∧ w'.cell? ⟨gb504, 1, none⟩ = some (.string a1_1) ∧ w'.cell? ⟨gb504, 2, none⟩ = some (.int .i64 a1_2)) (ds := []) #[false, false, false, false, false, false, false, false, false, false, false, false, false, false, false, false, false, false, false, false] (by kernel_rfl) rfl rfl ⟨(blk_cell BK503.out 0).trans rfl, (blk_cell BK503.out 1).trans rfl, (blk_cell BK503.out 2).trans rfl, (blk_cell BK504.out 0).trans rfl, (blk_cell BK504.out 1).trans rfl, (blk_cell BK504.out 2).trans rfl⟩ (fun hHeld => ?_); refine with_tabW figureheadref05_Product.tab1 figureheadref05_Product.bits1 (fun HT_ HW_ => ?_)
  generalize w10.drew = w11 at BK503 BK504 BK505 HB hHeld ⊢
  refine pure_ (i := 0) (N := some 5) (v := ?_) (a' := ?_) #[true, false, false, false, false, false, false, false, false, false, false, false, false, false, false, false, false, false, false, false] rfl rfl (any_of HT_.out (by kernel_rfl)) (fun _ _ _ h => h) (Or.inl ⟨by rfl, ?_⟩) ?_ ?_
  rotate_left
  · intro w'
    go_simp
    with_reducible rfl
  rotate_left
  · simp only [Act.put, List.setIfInBounds_toArray, List.set_cons_zero, List.set_cons_succ]; (try simp only [i64_w]); (try simp only [i32_w])
    rfl
  refine pure_ (i := 2) (N := some 7) (v := ?_) (a' := ?_) #[true, false, true, false, false, false, false, false, false, false, false, false, false, false, false, false, false, false, false, false] rfl rfl (any_of HT_.out (by kernel_rfl)) (fun _ _ _ h => h) (Or.inl ⟨by rfl, ?_⟩) ?_ ?_
  rotate_left
  · intro w'
    go_simp
    with_reducible rfl
  rotate_left
  · simp only [Act.put, List.setIfInBounds_toArray, List.set_cons_zero, List.set_cons_succ]; (try simp only [i64_w]); (try simp only [i32_w])
    rfl
  refine pure_ (i := 5) (N := some 10) (v := ?_) (a' := ?_) #[true, false, true, false, false, true, false, false, false, false, false, false, false, false, false, false, false, false, false, false] rfl rfl (any_of HT_.out (by kernel_rfl)) (fun _ _ _ h => h) (Or.inl ⟨by rfl, ?_⟩) ?_ ?_
  rotate_left
  · intro w'
    go_simp
    with_reducible rfl
  rotate_left
  · simp only [Act.put, List.setIfInBounds_toArray, List.set_cons_zero, List.set_cons_succ]; (try simp only [i64_w]); (try simp only [i32_w])
    rfl
  refine pure_ (i := 8) (N := some 13) (v := ?_) (a' := ?_) #[true, false, true, false, false, true, false, false, true, false, false, false, false, false, false, false, false, false, false, false] rfl rfl (any_of HT_.out (by kernel_rfl)) (fun _ _ _ h => h) (Or.inl ⟨by rfl, ?_⟩) ?_ ?_
  rotate_left
  · intro w'
    go_simp
    with_reducible rfl
  rotate_left
  · simp only [Act.put, List.setIfInBounds_toArray, List.set_cons_zero, List.set_cons_succ]; (try simp only [i64_w]); (try simp only [i32_w])
    rfl
  refine pure_ (i := 12) (N := some 17) (v := ?_) (a' := ?_) #[true, false, true, false, false, true, false, false, true, false, false, false, true, false, false, false, false, false, false, false] rfl rfl (any_of HT_.out (by kernel_rfl)) (fun _ _ _ h => h) (Or.inl ⟨by rfl, ?_⟩) ?_ ?_
  rotate_left
  · intro w'
    go_simp
    with_reducible rfl
  rotate_left
  · simp only [Act.put, List.setIfInBounds_toArray, List.set_cons_zero, List.set_cons_succ]; (try simp only [i64_w]); (try simp only [i32_w])
    rfl
  refine pure_ (i := 14) (N := some 19) (v := ?_) (a' := ?_) #[true, false, true, false, false, true, false, false, true, false, false, false, true, false, true, false, false, false, false, false] rfl rfl (any_of HT_.out (by kernel_rfl)) (fun _ _ _ h => h) (Or.inl ⟨by rfl, ?_⟩) ?_ ?_
  rotate_left
  · intro w'
    go_simp
    with_reducible rfl
  rotate_left
  · simp only [Act.put, List.setIfInBounds_toArray, List.set_cons_zero, List.set_cons_succ]; (try simp only [i64_w]); (try simp only [i32_w])
    rfl
  refine take_ (i := 1) (N := some 6) (v := ?_) (a' := ?_) #[true, true, true, false, false, true, false, false, true, false, false, false, true, false, true, false, false, false, false, false] rfl rfl (take_ofW HT_.out HW_.out (by kernel_rfl)) (fun _ _ _ h => h) (Or.inl ⟨by rfl, ?_⟩) hHeld ?_ ?_
  rotate_left
  · rintro w' ⟨s0, s1, s2, s3, s4, s5⟩
    go_simp
    with_reducible rfl
  rotate_left
  · simp only [Act.put, List.setIfInBounds_toArray, List.set_cons_zero, List.set_cons_succ]; (try simp only [i64_w]); (try simp only [i32_w])
    rfl
  refine take_ (i := 3) (N := some 8) (v := ?_) (a' := ?_) #[true, true, true, true, false, true, false, false, true, false, false, false, true, false, true, false, false, false, false, false] rfl rfl (take_ofW HT_.out HW_.out (by kernel_rfl)) (fun _ _ _ h => h) (Or.inl ⟨by rfl, ?_⟩) hHeld ?_ ?_
  rotate_left
  · rintro w' ⟨s0, s1, s2, s3, s4, s5⟩
    go_simp
    with_reducible rfl
  rotate_left
  · simp only [Act.put, List.setIfInBounds_toArray, List.set_cons_zero, List.set_cons_succ]; (try simp only [i64_w]); (try simp only [i32_w])
    rfl
  refine pure_ (i := 4) (N := some 9) (v := ?_) (a' := ?_) #[true, true, true, true, true, true, false, false, true, false, false, false, true, false, true, false, false, false, false, false] rfl rfl (any_of HT_.out (by kernel_rfl)) (fun _ _ _ h => h) (Or.inl ⟨by rfl, ?_⟩) ?_ ?_
  rotate_left
  · intro w'
    go_simp
    with_reducible rfl
  rotate_left
  · simp only [Act.put, List.setIfInBounds_toArray, List.set_cons_zero, List.set_cons_succ]; (try simp only [i64_w]); (try simp only [i32_w])
    rfl
  refine take_ (i := 6) (N := some 11) (v := ?_) (a' := ?_) #[true, true, true, true, true, true, true, false, true, false, false, false, true, false, true, false, false, false, false, false] rfl rfl (take_ofW HT_.out HW_.out (by kernel_rfl)) (fun _ _ _ h => h) (Or.inl ⟨by rfl, ?_⟩) hHeld ?_ ?_
  rotate_left
  · rintro w' ⟨s0, s1, s2, s3, s4, s5⟩
    go_simp
    with_reducible rfl
  rotate_left
  · simp only [Act.put, List.setIfInBounds_toArray, List.set_cons_zero, List.set_cons_succ]; (try simp only [i64_w]); (try simp only [i32_w])
    rfl
  refine take_ (i := 9) (N := some 14) (v := ?_) (a' := ?_) #[true, true, true, true, true, true, true, false, true, true, false, false, true, false, true, false, false, false, false, false] rfl rfl (take_ofW HT_.out HW_.out (by kernel_rfl)) (fun _ _ _ h => h) (Or.inl ⟨by rfl, ?_⟩) hHeld ?_ ?_
  rotate_left
  · rintro w' ⟨s0, s1, s2, s3, s4, s5⟩
    go_simp
    with_reducible rfl
  rotate_left
  · simp only [Act.put, List.setIfInBounds_toArray, List.set_cons_zero, List.set_cons_succ]; (try simp only [i64_w]); (try simp only [i32_w])
    rfl
  refine take_ (i := 13) (N := some 18) (v := ?_) (a' := ?_) #[true, true, true, true, true, true, true, false, true, true, false, false, true, true, true, false, false, false, false, false] rfl rfl (take_ofW HT_.out HW_.out (by kernel_rfl)) (fun _ _ _ h => h) (Or.inl ⟨by rfl, ?_⟩) hHeld ?_ ?_
  rotate_left
  · rintro w' ⟨s0, s1, s2, s3, s4, s5⟩
    go_simp
    with_reducible rfl
  rotate_left
  · simp only [Act.put, List.setIfInBounds_toArray, List.set_cons_zero, List.set_cons_succ]; (try simp only [i64_w]); (try simp only [i32_w])
    rfl
  refine take_ (i := 15) (N := some 20) (v := ?_) (a' := ?_) #[true, true, true, true, true, true, true, false, true, true, false, false, true, true, true, true, false, false, false, false] rfl rfl (take_ofW HT_.out HW_.out (by kernel_rfl)) (fun _ _ _ h => h) (Or.inl ⟨by rfl, ?_⟩) hHeld ?_ ?_
  rotate_left
  · rintro w' ⟨s0, s1, s2, s3, s4, s5⟩
    go_simp
    with_reducible rfl
  rotate_left
  · simp only [Act.put, List.setIfInBounds_toArray, List.set_cons_zero, List.set_cons_succ]; (try simp only [i64_w]); (try simp only [i32_w])
    rfl
  refine pure_ (i := 16) (N := some 21) (v := ?_) (a' := ?_) #[true, true, true, true, true, true, true, false, true, true, false, false, true, true, true, true, true, false, false, false] rfl rfl (any_of HT_.out (by kernel_rfl)) (fun _ _ _ h => h) (Or.inl ⟨by rfl, ?_⟩) ?_ ?_
  rotate_left
  · intro w'
    go_simp
    with_reducible rfl
  rotate_left
  · simp only [Act.put, List.setIfInBounds_toArray, List.set_cons_zero, List.set_cons_succ]; (try simp only [i64_w]); (try simp only [i32_w])
    rfl
  refine one_ (i := 7) (N := some 12) #[true, true, true, true, true, true, true, true, true, true, false, false, true, true, true, true, true, false, false, false] rfl rfl (one_of HT_.out (by kernel_rfl)) (by decide) (fun K hK => ?_)
  refine goes_ Tryd.func46 (by kernel_rfl) rfl #[.string a0_1] (by rfl) rfl rfl (by (try simp only [List.map_toArray]); (try simp only [List.map_cons]); (try simp only [List.map_nil]); first | done | rfl | (simp only [List.length_drop, List.length_take]; rfl)) ?_
  with_reducible refine (figureheadref01_Strip.calls k a0_1 t506 _ A3.out).mono ?_
  rintro e w' ⟨rfl, ⟨nd, rfl⟩⟩
  refine ⟨_, rfl, ?_⟩
  refine hK.out _ _ ⟨(blk_cell BK503.out 0).trans rfl, (blk_cell BK503.out 1).trans rfl, (blk_cell BK503.out 2).trans rfl, (blk_cell BK504.out 0).trans rfl, (blk_cell BK504.out 1).trans rfl, (blk_cell BK504.out 2).trans rfl⟩ (fun hHeld => ?_)
  clear hK K
  refine norm_ (a' := ?_) ?_ ?_
  rotate_left
  · show Act.put _ (some 12) _ = _
    simp only [Act.put, List.setIfInBounds_toArray, List.set_cons_zero, List.set_cons_succ]; (try simp only [i64_w]); (try simp only [i32_w])
    rfl
  refine one_ (i := 10) (N := some 15) #[true, true, true, true, true, true, true, true, true, true, true, false, true, true, true, true, true, false, false, false] rfl rfl (one_of HT_.out (by kernel_rfl)) (by decide) (fun K hK => ?_)
  refine goes_ Tryd.func46 (by kernel_rfl) rfl #[.string a1_1] (by rfl) rfl rfl (by (try simp only [List.map_toArray]); (try simp only [List.map_cons]); (try simp only [List.map_nil]); first | done | rfl | (simp only [List.length_drop, List.length_take]; rfl)) ?_
  with_reducible refine (figureheadref01_Strip.calls k a1_1 t507 _ A4.out).mono ?_
  rintro e w' ⟨rfl, ⟨nd, rfl⟩⟩
  refine ⟨_, rfl, ?_⟩
  refine hK.out _ _ ⟨(blk_cell BK503.out 0).trans rfl, (blk_cell BK503.out 1).trans rfl, (blk_cell BK503.out 2).trans rfl, (blk_cell BK504.out 0).trans rfl, (blk_cell BK504.out 1).trans rfl, (blk_cell BK504.out 2).trans rfl⟩ (fun hHeld => ?_)
  clear hK K
  refine norm_ (a' := ?_) ?_ ?_
  rotate_left
  · show Act.put _ (some 15) _ = _
    simp only [Act.put, List.setIfInBounds_toArray, List.set_cons_zero, List.set_cons_succ]; (try simp only [i64_w]); (try simp only [i32_w])
    rfl
  refine one_ (i := 11) (N := some 16) #[true, true, true, true, true, true, true, true, true, true, true, true, true, true, true, true, true, false, false, false] rfl rfl (one_of HT_.out (by kernel_rfl)) (by decide) (fun K hK => ?_)
  refine goes_ Tryd.func61 (by kernel_rfl) rfl #[.string t506, .string t507] (by rfl) rfl rfl (by (try simp only [List.map_toArray]); (try simp only [List.map_cons]); (try simp only [List.map_nil]); first | done | rfl | (simp only [List.length_drop, List.length_take]; rfl)) ?_
  with_reducible refine (figureheadref01_Times.calls k t506 t507 t508 _ A5.out).mono ?_
  rintro e w12 ⟨rfl, hb⟩
  refine ⟨_, rfl, ?_⟩
  have n0_ := Aside0.mk (blk_below (g := gb503) (o := .cells #[.bool a0_0, .string a0_1, .int .i64 a0_2] 23 (0, 0)) (by (with_reducible repeat (first | refine blk_drewN ?_ _ | refine blk_drew ?_ | refine blk_alloc ?_ _)); exact BK503.out) hb)
  have n1_ := Aside0.mk (blk_below (g := gb504) (o := .cells #[.bool a1_0, .string a1_1, .int .i64 a1_2] 23 (0, 0)) (by (with_reducible repeat (first | refine blk_drewN ?_ _ | refine blk_drew ?_ | refine blk_alloc ?_ _)); exact BK504.out) hb)
  have n2_ := Aside0.mk (blk_below (g := gb505) (o := .cells #[.bool false, .string (⟨#[]⟩ : ByteArray), .int .i64 0] 23 (0, 0)) (by (with_reducible repeat (first | refine blk_drewN ?_ _ | refine blk_drew ?_ | refine blk_alloc ?_ _)); exact BK505.out) hb)
  have n3_ := Aside0.mk (below_step (by repeat (first | (with_reducible first | exact HB.out | apply below_alloc | apply pw_below_drewN | apply below_drew1 | refine below_set ?_ GE503.out | refine below_set ?_ GE504.out | refine below_set ?_ GE505.out) | exact HB.out)) hb)
  clear BK503
  clear BK504
  clear BK505
  clear HB
  have BK503 := n0_
  have BK504 := n1_
  have BK505 := n2_
  have HB := n3_
  clear n0_ n1_ n2_ n3_
  (try clear hb)
  (try clear hb2)
  (try clear hk)
  (try clear hi)
  refine hK.out _ _ ⟨(blk_cell BK503.out 0).trans rfl, (blk_cell BK503.out 1).trans rfl, (blk_cell BK503.out 2).trans rfl, (blk_cell BK504.out 0).trans rfl, (blk_cell BK504.out 1).trans rfl, (blk_cell BK504.out 2).trans rfl⟩ (fun hHeld => ?_)
  clear hK K
  refine norm_ (a' := ?_) ?_ ?_
  rotate_left
  · show Act.put _ (some 16) _ = _
    simp only [Act.put, List.setIfInBounds_toArray, List.set_cons_zero, List.set_cons_succ]; (try simp only [i64_w]); (try simp only [i32_w])
    rfl
  refine one_ (i := 17) (N := some 22) #[true, true, true, true, true, true, true, true, true, true, true, true, true, true, true, true, true, true, false, false] rfl rfl (one_of HT_.out (by kernel_rfl)) (by decide) (fun K hK => ?_)
  refine goes_ Tryd.func57 (by kernel_rfl) rfl #[.bool (a0_0 != a1_0), .string t508, .int .i64 (wrap64 (a0_2 + a1_2))] (by rfl) rfl rfl (by (try simp only [List.map_toArray]); (try simp only [List.map_cons]); (try simp only [List.map_nil]); first | done | rfl | (simp only [List.length_drop, List.length_take]; rfl)) ?_
  with_reducible refine (figureheadref05_Make.calls k (a0_0 != a1_0) t508 (wrap64 (a0_2 + a1_2)) t509 t510 t511 _ A6.out).mono ?_
  rintro e w13 ⟨rfl, hb⟩
  refine ⟨_, rfl, ?_⟩
  have n0_ := Aside0.mk (blk_below (g := gb503) (o := .cells #[.bool a0_0, .string a0_1, .int .i64 a0_2] 23 (0, 0)) (by (with_reducible repeat (first | refine blk_drewN ?_ _ | refine blk_drew ?_ | refine blk_alloc ?_ _)); exact BK503.out) hb)
  have n1_ := Aside0.mk (blk_below (g := gb504) (o := .cells #[.bool a1_0, .string a1_1, .int .i64 a1_2] 23 (0, 0)) (by (with_reducible repeat (first | refine blk_drewN ?_ _ | refine blk_drew ?_ | refine blk_alloc ?_ _)); exact BK504.out) hb)
  have n2_ := Aside0.mk (blk_below (g := gb505) (o := .cells #[.bool false, .string (⟨#[]⟩ : ByteArray), .int .i64 0] 23 (0, 0)) (by (with_reducible repeat (first | refine blk_drewN ?_ _ | refine blk_drew ?_ | refine blk_alloc ?_ _)); exact BK505.out) hb)
  have n3_ := Aside0.mk (below_step (by repeat (first | (with_reducible first | exact HB.out | apply below_alloc | apply pw_below_drewN | apply below_drew1 | refine below_set ?_ GE503.out | refine below_set ?_ GE504.out | refine below_set ?_ GE505.out) | exact HB.out)) hb)
  clear BK503
  clear BK504
  clear BK505
  clear HB
  have BK503 := n0_
  have BK504 := n1_
  have BK505 := n2_
  have HB := n3_
  clear n0_ n1_ n2_ n3_
  (try clear hb)
  (try clear hb2)
  (try clear hk)
  (try clear hi)
  refine hK.out _ _ ⟨(blk_cell BK503.out 0).trans rfl, (blk_cell BK503.out 1).trans rfl, (blk_cell BK503.out 2).trans rfl, (blk_cell BK504.out 0).trans rfl, (blk_cell BK504.out 1).trans rfl, (blk_cell BK504.out 2).trans rfl⟩ (fun hHeld => ?_)
  clear hK K
  refine norm_ (a' := ?_) ?_ ?_
  rotate_left
  · show Act.put _ (some 22) _ = _
    simp only [Act.put, List.setIfInBounds_toArray, List.set_cons_zero, List.set_cons_succ]; (try simp only [i64_w]); (try simp only [i32_w])
    rfl
  refine one_ (i := 18) (N := some 23) #[true, true, true, true, true, true, true, true, true, true, true, true, true, true, true, true, true, true, true, false] rfl rfl (one_of HT_.out (by kernel_rfl)) (by decide) (fun K hK => ?_)
  refine goes_ Tryd.func56 (by kernel_rfl) rfl #[.agg #[.bool t509, .string t510, .int .i64 t511]] (by rfl) rfl rfl (by (try simp only [List.map_toArray]); (try simp only [List.map_cons]); (try simp only [List.map_nil]); first | done | rfl | (simp only [List.length_drop, List.length_take]; rfl)) ?_
  with_reducible refine (figureheadref05_plain.calls t509 t510 t511 t512 t513 t514 _ A7.out).mono ?_
  rintro e w14 ⟨rfl, hb⟩
  refine ⟨_, rfl, ?_⟩
  have n0_ := Aside0.mk (blk_below (g := gb503) (o := .cells #[.bool a0_0, .string a0_1, .int .i64 a0_2] 23 (0, 0)) (by (with_reducible repeat (first | refine blk_drewN ?_ _ | refine blk_drew ?_ | refine blk_alloc ?_ _)); exact BK503.out) hb)
  have n1_ := Aside0.mk (blk_below (g := gb504) (o := .cells #[.bool a1_0, .string a1_1, .int .i64 a1_2] 23 (0, 0)) (by (with_reducible repeat (first | refine blk_drewN ?_ _ | refine blk_drew ?_ | refine blk_alloc ?_ _)); exact BK504.out) hb)
  have n2_ := Aside0.mk (blk_below (g := gb505) (o := .cells #[.bool false, .string (⟨#[]⟩ : ByteArray), .int .i64 0] 23 (0, 0)) (by (with_reducible repeat (first | refine blk_drewN ?_ _ | refine blk_drew ?_ | refine blk_alloc ?_ _)); exact BK505.out) hb)
  have n3_ := Aside0.mk (below_step (by repeat (first | (with_reducible first | exact HB.out | apply below_alloc | apply pw_below_drewN | apply below_drew1 | refine below_set ?_ GE503.out | refine below_set ?_ GE504.out | refine below_set ?_ GE505.out) | exact HB.out)) hb)
  clear BK503
  clear BK504
  clear BK505
  clear HB
  have BK503 := n0_
  have BK504 := n1_
  have BK505 := n2_
  have HB := n3_
  clear n0_ n1_ n2_ n3_
  (try clear hb)
  (try clear hb2)
  (try clear hk)
  (try clear hi)
  refine hK.out _ _ ⟨(blk_cell BK503.out 0).trans rfl, (blk_cell BK503.out 1).trans rfl, (blk_cell BK503.out 2).trans rfl, (blk_cell BK504.out 0).trans rfl, (blk_cell BK504.out 1).trans rfl, (blk_cell BK504.out 2).trans rfl⟩ (fun hHeld => ?_)
  clear hK K
  refine norm_ (a' := ?_) ?_ ?_
  rotate_left
  · show Act.put _ (some 23) _ = _
    simp only [Act.put, List.setIfInBounds_toArray, List.set_cons_zero, List.set_cons_succ]; (try simp only [i64_w]); (try simp only [i32_w])
    rfl
  refine one_ (i := 19) (N := none) #[true, true, true, true, true, true, true, true, true, true, true, true, true, true, true, true, true, true, true, true] rfl rfl (one_of HT_.out (by kernel_rfl)) (by decide) (fun K hK => ?_)
  have hs15 : w14.cell? ⟨gb505, 0, none⟩ = some (.bool false) := (blk_cell BK505.out 0).trans rfl
  have hfs15 := blk_frozen BK505.out 0
  have hns15_0 := NB503_505.out
  have hns15_1 := NB504_505.out
  have hms15_0 := NB505_503.out
  have hms15_1 := NB505_504.out
  have hs16 : w14.cell? ⟨gb505, 1, none⟩ = some (.string (⟨#[]⟩ : ByteArray)) := (blk_cell BK505.out 1).trans rfl
  have hfs16 := blk_frozen BK505.out 1
  have hns16_0 := NB503_505.out
  have hns16_1 := NB504_505.out
  have hms16_0 := NB505_503.out
  have hms16_1 := NB505_504.out
  have hs17 : w14.cell? ⟨gb505, 2, none⟩ = some (.int .i64 0) := (blk_cell BK505.out 2).trans rfl
  have hfs17 := blk_frozen BK505.out 2
  have hns17_0 := NB503_505.out
  have hns17_1 := NB504_505.out
  have hms17_0 := NB505_503.out
  have hms17_1 := NB505_504.out
  refine skip_ (w1 := ?_) (by rfl) rfl ?_ ?_
  rotate_left
  · go_simp
    rfl
  refine hK.out _ _ ⟨((cell_far (p := ⟨gb505, _, none⟩) NB503_505.out _).trans (((cell_far (p := ⟨gb505, _, none⟩) NB503_505.out _).trans (((cell_far (p := ⟨gb505, _, none⟩) NB503_505.out _).trans (hHeld.1)))))), ((cell_far (p := ⟨gb505, _, none⟩) NB503_505.out _).trans (((cell_far (p := ⟨gb505, _, none⟩) NB503_505.out _).trans (((cell_far (p := ⟨gb505, _, none⟩) NB503_505.out _).trans (hHeld.2.1)))))), ((cell_far (p := ⟨gb505, _, none⟩) NB503_505.out _).trans (((cell_far (p := ⟨gb505, _, none⟩) NB503_505.out _).trans (((cell_far (p := ⟨gb505, _, none⟩) NB503_505.out _).trans (hHeld.2.2.1)))))), ((cell_far (p := ⟨gb505, _, none⟩) NB504_505.out _).trans (((cell_far (p := ⟨gb505, _, none⟩) NB504_505.out _).trans (((cell_far (p := ⟨gb505, _, none⟩) NB504_505.out _).trans (hHeld.2.2.2.1)))))), ((cell_far (p := ⟨gb505, _, none⟩) NB504_505.out _).trans (((cell_far (p := ⟨gb505, _, none⟩) NB504_505.out _).trans (((cell_far (p := ⟨gb505, _, none⟩) NB504_505.out _).trans (hHeld.2.2.2.2.1)))))), ((cell_far (p := ⟨gb505, _, none⟩) NB504_505.out _).trans (((cell_far (p := ⟨gb505, _, none⟩) NB504_505.out _).trans (((cell_far (p := ⟨gb505, _, none⟩) NB504_505.out _).trans (hHeld.2.2.2.2.2))))))⟩ (fun hHeld => ?_)
  clear hK K
  refine done_ (done_of HT_.out (by kernel_rfl)) ?_
  try go_wp2
  refine bodyPost_ret (results_cell_row rfl _ _ gb505 23 #[.bool t512, .string t513, .int .i64 t514] (0, 0) _ rfl (by (with_reducible repeat (first | refine blk_drewN ?_ _ | refine blk_drew ?_ | refine blk_alloc ?_ _)); refine blk_put (cs := #[.bool t512, .string t513, .int .i64 0]) ?_ 2 _ rfl; (with_reducible repeat (first | refine blk_drewN ?_ _ | refine blk_drew ?_ | refine blk_alloc ?_ _)); refine blk_put (cs := #[.bool t512, .string (⟨#[]⟩ : ByteArray), .int .i64 0]) ?_ 1 _ rfl; (with_reducible repeat (first | refine blk_drewN ?_ _ | refine blk_drew ?_ | refine blk_alloc ?_ _)); refine blk_put (cs := #[.bool false, .string (⟨#[]⟩ : ByteArray), .int .i64 0]) ?_ 0 _ rfl; (with_reducible repeat (first | refine blk_drewN ?_ _ | refine blk_drew ?_ | refine blk_alloc ?_ _)); exact BK505.out) Tryd.underlying23 rfl (by kernel_rfl)) rfl ?_
  exact ⟨by first | rfl | (simp [errW_none, errW_some] <;> rfl) | (simp [*, errW_none, errW_some] <;> rfl), by repeat (first | (with_reducible first | exact HB.out | apply below_alloc | apply pw_below_drewN | apply below_drew1 | refine below_set ?_ GE503.out | refine below_set ?_ GE504.out | refine below_set ?_ GE505.out) | exact HB.out)⟩
end Go.Proofs.YtbjaiphfehnncaaDoor.Px
end
section
namespace Go.Proofs.YtbjaiphfehnncaaDoor.Px
open Fig Go.RowKit Go.Proofs.YtbjaiphfehnncaaDoorW.PrintWords Go.Proofs.YtbjaiphfehnncaaDoorW.PrintLast Go.Proofs.YtbjaiphfehnncaaDoorW.PrintMore
attribute [local go_sem] max2_int min2_int max_two min_two max_three min_three max_four min_four   -- for this text's walks alone
attribute [local go_sem high] eqA23
attribute [local go_sem] fieldA23_0 fieldA23_1 fieldA23_2
def figureheadlaw06_ArithMuls.f (k : Nat) (a0_0 : Bool) (a0_1 : ByteArray) (a0_2 : Int) (a1_0 : Bool) (a1_1 : ByteArray) (a1_2 : Int) : Option (Bool) := (figureheadlaw06_good.f k (([(⟨a0_0, a0_1, a0_2⟩ : S23), (⟨a1_0, a1_1, a1_2⟩ : S23)] : List (S23)))).bind fun t520 => (if t520 = true then ((figureheadlaw06_answers.f k).bind fun t521 => (if t521 = true then ((arith_Mul.f k a0_0 a0_1 a0_2 a1_0 a1_1 a1_2).bind fun bt522 => ((figureheadref05_Product.f k a0_0 a0_1 a0_2 a1_0 a1_1 a1_2).bind fun bt525 => (some (bt522.1 == bt525.1 && (bt522.2.1.toList == bt525.2.1.toList && (bt522.2.2 == bt525.2.2)))))) else (some false))) else ((figureheadlaw06_answers.f k).bind fun t528 => (some t528)))
theorem figureheadlaw06_ArithMuls.mono : ∀ a0 a1 a2 a3 a4 a5 k, LeO (figureheadlaw06_ArithMuls.f k a0 a1 a2 a3 a4 a5) (figureheadlaw06_ArithMuls.f (k + 1) a0 a1 a2 a3 a4 a5) := by
  intro a0 a1 a2 a3 a4 a5 k
  unfold figureheadlaw06_ArithMuls.f
  repeat' first
      | (with_reducible exact arith_Mul.mono _ _ _ _ _ _ _)
      | (with_reducible exact figureheadlaw06_answers.mono _)
      | (with_reducible exact figureheadlaw06_good.mono _ _)
      | (with_reducible exact figureheadref05_Product.mono _ _ _ _ _ _ _)
      | (with_reducible exact LeO.refl _)
      | (with_reducible exact LeO.none _)
      | (with_reducible refine LeO.ite ?_ ?_)
      | (with_reducible refine LeO.bind ?_ (fun _ => ?_))
      | exact arith_Mul.mono _ _ _ _ _ _ _
      | exact figureheadlaw06_answers.mono _
      | exact figureheadlaw06_good.mono _ _
      | exact figureheadref05_Product.mono _ _ _ _ _ _ _
      | exact LeO.none _
      | refine LeO.ite ?_ ?_
      | refine LeO.bind ?_ (fun _ => ?_)
def figureheadlaw06_ArithMuls.T3 : Bool × List (List Nat × List Nat) := (true, [([], []), ([0, 0], [0]), ([1], [1]), ([1], [1]), ([2, 3, 1, 1], [1, 2, 3]), ([1], [1]), ([1], [1]), ([5, 6, 4, 1], [1, 5, 6]), ([4, 7, 1], [1, 4, 7]), ([1, 8], [1, 8]), ([9, 7, 0, 1, 2, 3, 4, 5, 6, 7, 8, 9], [9])])
def figureheadlaw06_ArithMuls.B3 : List Nat := [0, 1, 3, 3, 15, 3, 3, 127, 255, 511, 1023]
theorem figureheadlaw06_ArithMuls.tab3 : rtab .any (opsOf Tryd.f11 3) = figureheadlaw06_ArithMuls.T3 := by kernel_rfl
theorem figureheadlaw06_ArithMuls.bits3 : waitsOk figureheadlaw06_ArithMuls.T3.2 figureheadlaw06_ArithMuls.B3 = true := by kernel_rfl
set_option maxHeartbeats 8000000 in
set_option maxRecDepth 100000 in
theorem figureheadlaw06_ArithMuls.calls (k : Nat) (a0_0 : Bool) (a0_1 : ByteArray) (a0_2 : Int) (a1_0 : Bool) (a1_1 : ByteArray) (a1_2 : Int) (r : Bool) (w : World) (hG : Fig.Glob w) (HT : Aside0 (r = true)) (h : figureheadlaw06_ArithMuls.f k a0_0 a0_1 a0_2 a1_0 a1_1 a1_2 = some r) :
    Calls Tryd.prog 11 #[.agg #[.bool a0_0, .string a0_1, .int .i64 a0_2], .agg #[.bool a1_0, .string a1_1, .int .i64 a1_2]] w fun e w' => e = .returned (.bool r) ∧ Below w.heap.size w w' := by
  have hu23 := Tryd.underlying23
  have HG := Aside0.mk hG
  clear hG
  have HB := Aside0.mk (Below.refl w.heap.size w)
  have H : ((figureheadlaw06_good.f k (([(⟨a0_0, a0_1, a0_2⟩ : S23), (⟨a1_0, a1_1, a1_2⟩ : S23)] : List (S23)))).bind fun t520 => (if t520 = true then ((figureheadlaw06_answers.f k).bind fun t521 => (if t521 = true then ((arith_Mul.f k a0_0 a0_1 a0_2 a1_0 a1_1 a1_2).bind fun bt522 => ((figureheadref05_Product.f k a0_0 a0_1 a0_2 a1_0 a1_1 a1_2).bind fun bt525 => (some (bt522.1 == bt525.1 && (bt522.2.1.toList == bt525.2.1.toList && (bt522.2.2 == bt525.2.2)))))) else (some false))) else ((figureheadlaw06_answers.f k).bind fun t528 => (some t528)))) = some r := h
  clear h
  obtain ⟨y517, hy517⟩ : ∃ y_ : List (S23), y_ = (([(⟨a0_0, a0_1, a0_2⟩ : S23), (⟨a1_0, a1_1, a1_2⟩ : S23)] : List (S23))) := ⟨_, rfl⟩
  replace H : ((figureheadlaw06_good.f k y517).bind fun t520 => (if t520 = true then ((figureheadlaw06_answers.f k).bind fun t521 => (if t521 = true then ((arith_Mul.f k a0_0 a0_1 a0_2 a1_0 a1_1 a1_2).bind fun bt522 => ((figureheadref05_Product.f k a0_0 a0_1 a0_2 a1_0 a1_1 a1_2).bind fun bt525 => (some (bt522.1 == bt525.1 && (bt522.2.1.toList == bt525.2.1.toList && (bt522.2.2 == bt525.2.2)))))) else (some false))) else ((figureheadlaw06_answers.f k).bind fun t528 => (some t528)))) = some r := by first | (rw [hy517]; with_reducible exact H) | (have H2_ := (Option.bind_some _ _).symm.trans H; rw [hy517]; with_reducible exact H2_) | (have H2_ := (Option.bind_some _ _).symm.trans H; with_reducible exact H2_) | with_reducible exact H | (rw [hy517]; exact H) | exact H
  have Ny517 := Aside0.mk hy517
  clear hy517
  replace H := Option.bind_eq_some_iff.mp H
  obtain ⟨t520, A30, H⟩ := H
  replace H : (if t520 = true then ((figureheadlaw06_answers.f k).bind fun t521 => (if t521 = true then ((arith_Mul.f k a0_0 a0_1 a0_2 a1_0 a1_1 a1_2).bind fun bt522 => ((figureheadref05_Product.f k a0_0 a0_1 a0_2 a1_0 a1_1 a1_2).bind fun bt525 => (some (bt522.1 == bt525.1 && (bt522.2.1.toList == bt525.2.1.toList && (bt522.2.2 == bt525.2.2)))))) else (some false))) else ((figureheadlaw06_answers.f k).bind fun t528 => (some t528))) = some r := H
  have A3 := Aside0.mk A30
  clear A30
  by_cases c4 : t520 = true
  · subst c4
    have H1 : ((figureheadlaw06_answers.f k).bind fun t521 => (if t521 = true then ((arith_Mul.f k a0_0 a0_1 a0_2 a1_0 a1_1 a1_2).bind fun bt522 => ((figureheadref05_Product.f k a0_0 a0_1 a0_2 a1_0 a1_1 a1_2).bind fun bt525 => (some (bt522.1 == bt525.1 && (bt522.2.1.toList == bt525.2.1.toList && (bt522.2.2 == bt525.2.2)))))) else (some false))) = some r := by rw [if_pos rfl] at H; exact H
    clear H
    have H := H1
    clear H1
    replace H := Option.bind_eq_some_iff.mp H
    obtain ⟨t521, A50, H⟩ := H
    replace H : (if t521 = true then ((arith_Mul.f k a0_0 a0_1 a0_2 a1_0 a1_1 a1_2).bind fun bt522 => ((figureheadref05_Product.f k a0_0 a0_1 a0_2 a1_0 a1_1 a1_2).bind fun bt525 => (some (bt522.1 == bt525.1 && (bt522.2.1.toList == bt525.2.1.toList && (bt522.2.2 == bt525.2.2)))))) else (some false)) = some r := H
    have A5 := Aside0.mk A50
    clear A50
    by_cases c6 : t521 = true
    · subst c6
      have H1 : ((arith_Mul.f k a0_0 a0_1 a0_2 a1_0 a1_1 a1_2).bind fun bt522 => ((figureheadref05_Product.f k a0_0 a0_1 a0_2 a1_0 a1_1 a1_2).bind fun bt525 => (some (bt522.1 == bt525.1 && (bt522.2.1.toList == bt525.2.1.toList && (bt522.2.2 == bt525.2.2)))))) = some r := by rw [if_pos rfl] at H; exact H
      clear H
      have H := H1
      clear H1
      replace H := Option.bind_eq_some_iff.mp H
      obtain ⟨⟨t522, t523, t524⟩, A70, H⟩ := H
      replace H : ((figureheadref05_Product.f k a0_0 a0_1 a0_2 a1_0 a1_1 a1_2).bind fun bt525 => (some (t522 == bt525.1 && (t523.toList == bt525.2.1.toList && (t524 == bt525.2.2))))) = some r := H
      have A7 := Aside0.mk A70
      clear A70
      replace H := Option.bind_eq_some_iff.mp H
      obtain ⟨⟨t525, t526, t527⟩, A80, H⟩ := H
      replace H : (some (t522 == t525 && (t523.toList == t526.toList && (t524 == t527)))) = some r := H
      have A8 := Aside0.mk A80
      clear A80
      obtain rfl := Option.some.inj H
      go_enter Tryd.func11, Tryd.ntmps11
      try go_wp2_with (first | ((with_reducible refine gate_dst (N := 2) rfl ?_); refine box_event ?hg (N := 2) ?hd (cs := #[.bool a0_0, .string a0_1, .int .i64 a0_2]) (t := 23) ?hr ?_; (case hd => rfl); (case hg => rfl); (case hr => first | (go_simp; done) | (go_simp; rfl)); intro gb515 hg w9 hbox hb; have n0_ := Aside0.mk (below_step (by repeat (first | (with_reducible first | exact HB.out | apply below_alloc | apply pw_below_drewN | apply below_drew1) | exact HB.out)) hb); have n1_ := Aside0.mk (hbox); have n2_ := Aside0.mk ((by rw [hg]; exact (below_size (by repeat (first | (with_reducible first | exact HB.out | apply below_alloc | apply pw_below_drewN | apply below_drew1) | exact HB.out))) : w.heap.size ≤ gb515)); have n3_ := Aside0.mk ((by rw [hg]; exact (below_size (by repeat (first | (with_reducible first | exact HB.out | apply below_alloc | apply pw_below_drewN | apply below_drew1) | exact HB.out))) : w.heap.size ≤ gb515)); clear HB; have HB := n0_; have BK515 := n1_; have GW515 := n2_; have GE515 := n3_; clear n0_ n1_ n2_ n3_; clear hb hbox hg) | ((with_reducible refine gate_dst (N := 3) rfl ?_); refine box_event ?hg (N := 3) ?hd (cs := #[.bool a1_0, .string a1_1, .int .i64 a1_2]) (t := 23) ?hr ?_; (case hd => rfl); (case hg => rfl); (case hr => first | (go_simp; done) | (go_simp; rfl)); intro gb516 hg w10 hbox hb; have n0_ := Aside0.mk (blk_below (g := gb515) (o := .cells #[.bool a0_0, .string a0_1, .int .i64 a0_2] 23 (0, 0)) (by (with_reducible repeat (first | refine blk_drewN ?_ _ | refine blk_drew ?_ | refine blk_alloc ?_ _)); exact BK515.out) hb); have n1_ := Aside0.mk (below_step (by repeat (first | (with_reducible first | exact HB.out | apply below_alloc | apply pw_below_drewN | apply below_drew1 | refine below_set ?_ GE515.out) | exact HB.out)) hb); have n2_ := Aside0.mk (hbox); have n3_ := Aside0.mk ((by rw [hg]; exact (below_size (by repeat (first | (with_reducible first | exact HB.out | apply below_alloc | apply pw_below_drewN | apply below_drew1 | refine below_set ?_ GE515.out) | exact HB.out))) : w.heap.size ≤ gb516)); have n4_ := Aside0.mk ((by rw [hg]; exact (below_size (by repeat (first | (with_reducible first | exact HB.out | apply below_alloc | apply pw_below_drewN | apply below_drew1 | refine below_set ?_ GE515.out) | exact HB.out))) : w.heap.size ≤ gb516)); have n5_ := Aside0.mk ((by rw [hg]; exact Nat.ne_of_lt (blk_lt (g := gb515) (o := .cells #[.bool a0_0, .string a0_1, .int .i64 a0_2] 23 (0, 0)) (by (with_reducible repeat (first | refine blk_drewN ?_ _ | refine blk_drew ?_ | refine blk_alloc ?_ _)); exact BK515.out)) : gb515 ≠ gb516)); have n6_ := Aside0.mk ((by rw [hg]; exact Nat.ne_of_gt (blk_lt (g := gb515) (o := .cells #[.bool a0_0, .string a0_1, .int .i64 a0_2] 23 (0, 0)) (by (with_reducible repeat (first | refine blk_drewN ?_ _ | refine blk_drew ?_ | refine blk_alloc ?_ _)); exact BK515.out)) : gb516 ≠ gb515)); clear BK515; clear HB; have BK515 := n0_; have HB := n1_; have BK516 := n2_; have GW516 := n3_; have GE516 := n4_; have NB515_516 := n5_; have NB516_515 := n6_; clear n0_ n1_ n2_ n3_ n4_ n5_ n6_; clear hb hbox hg; have hnb11 := NB515_516.out; have hnc11 := NB516_515.out; have hcz12_0 : w10.cell? ⟨gb515, 0, none⟩ = some (.bool a0_0) := (blk_cell BK515.out 0).trans rfl; have hcz12_1 : w10.cell? ⟨gb515, 1, none⟩ = some (.string a0_1) := (blk_cell BK515.out 1).trans rfl; have hcz12_2 : w10.cell? ⟨gb515, 2, none⟩ = some (.int .i64 a0_2) := (blk_cell BK515.out 2).trans rfl; have hfz12_0 := blk_frozen BK515.out 0; have hfz12_1 := blk_frozen BK515.out 1; have hfz12_2 := blk_frozen BK515.out 2; have hcz13_0 : w10.cell? ⟨gb516, 0, none⟩ = some (.bool a1_0) := (blk_cell BK516.out 0).trans rfl; have hcz13_1 : w10.cell? ⟨gb516, 1, none⟩ = some (.string a1_1) := (blk_cell BK516.out 1).trans rfl; have hcz13_2 : w10.cell? ⟨gb516, 2, none⟩ = some (.int .i64 a1_2) := (blk_cell BK516.out 2).trans rfl; have hfz13_0 := blk_frozen BK516.out 0; have hfz13_1 := blk_frozen BK516.out 1; have hfz13_2 := blk_frozen BK516.out 2) | ((with_reducible refine gate_dst (N := 7) rfl ?_); refine Kd.R_lit k23 _ 23 ?hg (N := 7) ?hd (xs := ([(⟨a0_0, a0_1, a0_2⟩ : S23), (⟨a1_0, a1_1, a1_2⟩ : S23)] : List (S23))) (inner := [.bool a0_0, .string a0_1, .int .i64 a0_2, .bool a1_0, .string a1_1, .int .i64 a1_2]) (ok := fun _ => True) (okp := fun _ => True) ?hr ?hp (fun _ hk => hk) trivial (Below.refl _ _) (Nat.le_refl _) (by simp) ?_; (case hd => rfl); (case hg => rfl); (case hr => first | (go_simp; done) | (go_simp; rfl)); (case hp => exact (Reps.c3 (show Kd.M k23 _ _ _ (⟨a0_0, a0_1, a0_2⟩ : S23) [.bool a0_0, .string a0_1, .int .i64 a0_2] from (k23_mkM _ _ _ (⟨a0_0, a0_1, a0_2⟩ : S23) )) (Reps.c3 (show Kd.M k23 _ _ _ (⟨a1_0, a1_1, a1_2⟩ : S23) [.bool a1_0, .string a1_1, .int .i64 a1_2] from (k23_mkM _ _ _ (⟨a1_0, a1_1, a1_2⟩ : S23) )) (Reps.none _ _)))); intro v518 w14 ho15 hb hg_ hnew_; clear hg_ hnew_; (first | rw [← Ny517.out] at ho15 | (simp only [Int.reduceToNat] at ho15; rw [← Ny517.out] at ho15)); have n0_ := Aside0.mk (Kd.R_lower (Kd.R_newB (Kd.R_newB ho15 (g := gb515) (o := .cells #[.bool a0_0, .string a0_1, .int .i64 a0_2] 23 (0, 0)) (by (with_reducible repeat (first | refine blk_drewN ?_ _ | refine blk_drew ?_ | refine blk_alloc ?_ _)); exact BK515.out)) (g := gb516) (o := .cells #[.bool a1_0, .string a1_1, .int .i64 a1_2] 23 (0, 0)) (by (with_reducible repeat (first | refine blk_drewN ?_ _ | refine blk_drew ?_ | refine blk_alloc ?_ _)); exact BK516.out)) (below_size (by repeat (first | (with_reducible first | exact HB.out | apply below_alloc | apply pw_below_drewN | apply below_drew1 | refine below_set ?_ GE515.out | refine below_set ?_ GE516.out) | exact HB.out)))); have n1_ := Aside0.mk (blk_below (g := gb515) (o := .cells #[.bool a0_0, .string a0_1, .int .i64 a0_2] 23 (0, 0)) (by (with_reducible repeat (first | refine blk_drewN ?_ _ | refine blk_drew ?_ | refine blk_alloc ?_ _)); exact BK515.out) hb); have n2_ := Aside0.mk (blk_below (g := gb516) (o := .cells #[.bool a1_0, .string a1_1, .int .i64 a1_2] 23 (0, 0)) (by (with_reducible repeat (first | refine blk_drewN ?_ _ | refine blk_drew ?_ | refine blk_alloc ?_ _)); exact BK516.out) hb); have n3_ := Aside0.mk (below_step (by repeat (first | (with_reducible first | exact HB.out | apply below_alloc | apply pw_below_drewN | apply below_drew1 | refine below_set ?_ GE515.out | refine below_set ?_ GE516.out) | exact HB.out)) hb); clear BK515; clear BK516; clear HB; have HO519 := n0_; have BK515 := n1_; have BK516 := n2_; have HB := n3_; clear n0_ n1_ n2_ n3_; clear hb ho15; obtain ⟨Ao16, co16, eo16⟩ := Kd.R_slice HO519.out; subst eo16) | ((with_reducible refine gate_callee (f := 32) rfl ?_); refine goesL_ (some 8) rfl rfl Tryd.func32 (by kernel_rfl) rfl #[.slice Ao16 y517.length co16] rfl (by (try simp only [List.map_toArray]); (try simp only [List.map_cons]); (try simp only [List.map_nil]); first | done | rfl | (simp only [List.length_drop, List.length_take]; rfl)) ?_; (with_reducible refine (figureheadlaw06_good.calls k _ _ y517 true _ ?side1 ?side2 A3.out).mono ?_); (case side1 => repeat (first | exact (Kd.R_reads' HO519.out).2.2 | (with_reducible refine Kd.C_alloc ?_ _) | (with_reducible refine Kd.C_drewN ?_ _) | (with_reducible refine Kd.C_drew ?_))); (case side2 => exact (Kd.R_reads' HO519.out).2.1); rintro e w17 ⟨rfl, hb⟩; refine ⟨_, rfl, ?_⟩; have n0_ := Aside0.mk (Kd.R_below (by (with_reducible repeat (first | apply Kd.R_alloc | apply Kd.R_drewN | apply Kd.R_drew)); exact HO519.out) hb); have n1_ := Aside0.mk (blk_below (g := gb515) (o := .cells #[.bool a0_0, .string a0_1, .int .i64 a0_2] 23 (0, 0)) (by (with_reducible repeat (first | refine blk_drewN ?_ _ | refine blk_drew ?_ | refine blk_alloc ?_ _)); exact BK515.out) hb); have n2_ := Aside0.mk (blk_below (g := gb516) (o := .cells #[.bool a1_0, .string a1_1, .int .i64 a1_2] 23 (0, 0)) (by (with_reducible repeat (first | refine blk_drewN ?_ _ | refine blk_drew ?_ | refine blk_alloc ?_ _)); exact BK516.out) hb); have n3_ := Aside0.mk (below_step (by repeat (first | (with_reducible first | exact HB.out | apply below_alloc | apply pw_below_drewN | apply below_drew1 | refine below_set ?_ GE515.out | refine below_set ?_ GE516.out) | exact HB.out)) hb); clear HO519; clear BK515; clear BK516; clear HB; have HO519 := n0_; have BK515 := n1_; have BK516 := n2_; have HB := n3_; clear n0_ n1_ n2_ n3_; (try clear hb); (try clear hb2); (try clear hk); (try clear hi)))
      have n0_ := Aside0.mk (Kd.R_drew HO519.out)
      have n1_ := Aside0.mk (blk_drew BK515.out)
      have n2_ := Aside0.mk (blk_drew BK516.out)
      have n3_ := Aside0.mk (below_drew1 HB.out)
      clear HO519
      clear BK515
      clear BK516
      clear HB
      have HO519 := n0_
      have BK515 := n1_
      have BK516 := n2_
      have HB := n3_
      clear n0_ n1_ n2_ n3_
      refine start_ (n := 11) (S := fun w' => w'.cell? ⟨gb515, 0, none⟩ = some (.bool a0_0) ∧ w'.cell? ⟨gb515, 1, none⟩ = some (.string a0_1) ∧ w'.cell? ⟨gb515, 2, none⟩ = some (.int .i64 a0_2) ∧ w'.cell? ⟨gb516, 0, none⟩ = some (.bool a1_0) ∧ w'.cell? ⟨gb516, 1, none⟩ = some (.string a1_1) ∧ w'.cell? ⟨gb516, 2, none⟩ = some (.int .i64 a1_2)) (ds := []) #[false, false, false, false, false, false, false, false, false, false, false] (by kernel_rfl) rfl rfl ⟨(blk_cell BK515.out 0).trans rfl, (blk_cell BK515.out 1).trans rfl, (blk_cell BK515.out 2).trans rfl, (blk_cell BK516.out 0).trans rfl, (blk_cell BK516.out 1).trans rfl, (blk_cell BK516.out 2).trans rfl⟩ (fun hHeld => ?_); refine with_tabW figureheadlaw06_ArithMuls.tab3 figureheadlaw06_ArithMuls.bits3 (fun HT_ HW_ => ?_)
      generalize w17.drew = w18 at HO519 BK515 BK516 HB hHeld ⊢
      refine one_ (i := 0) (N := some 11) #[true, false, false, false, false, false, false, false, false, false, false] rfl rfl (one_of HT_.out (by kernel_rfl)) (by decide) (fun K hK => ?_)
      refine goes_ Tryd.func33 (by kernel_rfl) rfl #[] (by rfl) rfl rfl (by (try simp only [List.map_toArray]); (try simp only [List.map_cons]); (try simp only [List.map_nil]); first | done | rfl | (simp only [List.length_drop, List.length_take]; rfl)) ?_
      with_reducible refine (figureheadlaw06_answers.calls k  true _ ?side1 ?side2 A5.out).mono ?_
      (case side1 => exact Fig.Glob.below HG.out (by repeat (first | (with_reducible first | exact HB.out | apply below_alloc | apply pw_below_drewN | apply below_drew1 | refine below_set ?_ GE515.out | refine below_set ?_ GE516.out) | exact HB.out)))
      (case side2 => exact ⟨by first | rfl | exact HT.out⟩)
      rintro e w19 ⟨rfl, hb⟩
      refine ⟨_, rfl, ?_⟩
      have n0_ := Aside0.mk (Kd.R_below (by (with_reducible repeat (first | apply Kd.R_alloc | apply Kd.R_drewN | apply Kd.R_drew)); exact HO519.out) hb)
      have n1_ := Aside0.mk (blk_below (g := gb515) (o := .cells #[.bool a0_0, .string a0_1, .int .i64 a0_2] 23 (0, 0)) (by (with_reducible repeat (first | refine blk_drewN ?_ _ | refine blk_drew ?_ | refine blk_alloc ?_ _)); exact BK515.out) hb)
      have n2_ := Aside0.mk (blk_below (g := gb516) (o := .cells #[.bool a1_0, .string a1_1, .int .i64 a1_2] 23 (0, 0)) (by (with_reducible repeat (first | refine blk_drewN ?_ _ | refine blk_drew ?_ | refine blk_alloc ?_ _)); exact BK516.out) hb)
      have n3_ := Aside0.mk (below_step (by repeat (first | (with_reducible first | exact HB.out | apply below_alloc | apply pw_below_drewN | apply below_drew1 | refine below_set ?_ GE515.out | refine below_set ?_ GE516.out) | exact HB.out)) hb)
      clear HO519
      clear BK515
      clear BK516
      clear HB
      have HO519 := n0_
      have BK515 := n1_
      have BK516 := n2_
      have HB := n3_
      clear n0_ n1_ n2_ n3_
      (try clear hb)
      (try clear hb2)
      (try clear hk)
      (try clear hi)
      refine hK.out _ _ ⟨(blk_cell BK515.out 0).trans rfl, (blk_cell BK515.out 1).trans rfl, (blk_cell BK515.out 2).trans rfl, (blk_cell BK516.out 0).trans rfl, (blk_cell BK516.out 1).trans rfl, (blk_cell BK516.out 2).trans rfl⟩ (fun hHeld => ?_)
      clear hK K
      refine norm_ (a' := ?_) ?_ ?_
      rotate_left
      · show Act.put _ (some 11) _ = _
        simp only [Act.put, List.setIfInBounds_toArray, List.set_cons_zero, List.set_cons_succ]; (try simp only [i64_w]); (try simp only [i32_w])
        rfl
      refine pure_ (i := 1) (N := some 12) (v := ?_) (a' := ?_) #[true, true, false, false, false, false, false, false, false, false, false] rfl rfl (any_of HT_.out (by kernel_rfl)) (fun _ _ _ h => h) (Or.inl ⟨by rfl, ?_⟩) ?_ ?_
      rotate_left
      · intro w'
        go_simp
        with_reducible rfl
      rotate_left
      · simp only [Act.put, List.setIfInBounds_toArray, List.set_cons_zero, List.set_cons_succ]; (try simp only [i64_w]); (try simp only [i32_w])
        rfl
      refine take_ (i := 2) (N := some 13) (v := ?_) (a' := ?_) #[true, true, true, false, false, false, false, false, false, false, false] rfl rfl (take_ofW HT_.out HW_.out (by kernel_rfl)) (fun _ _ _ h => h) (Or.inl ⟨by rfl, ?_⟩) hHeld ?_ ?_
      rotate_left
      · rintro w' ⟨s0, s1, s2, s3, s4, s5⟩
        go_simp
        with_reducible rfl
      rotate_left
      · simp only [Act.put, List.setIfInBounds_toArray, List.set_cons_zero, List.set_cons_succ]; (try simp only [i64_w]); (try simp only [i32_w])
        rfl
      refine take_ (i := 3) (N := some 14) (v := ?_) (a' := ?_) #[true, true, true, true, false, false, false, false, false, false, false] rfl rfl (take_ofW HT_.out HW_.out (by kernel_rfl)) (fun _ _ _ h => h) (Or.inl ⟨by rfl, ?_⟩) hHeld ?_ ?_
      rotate_left
      · rintro w' ⟨s0, s1, s2, s3, s4, s5⟩
        go_simp
        with_reducible rfl
      rotate_left
      · simp only [Act.put, List.setIfInBounds_toArray, List.set_cons_zero, List.set_cons_succ]; (try simp only [i64_w]); (try simp only [i32_w])
        rfl
      refine take_ (i := 5) (N := some 16) (v := ?_) (a' := ?_) #[true, true, true, true, false, true, false, false, false, false, false] rfl rfl (take_ofW HT_.out HW_.out (by kernel_rfl)) (fun _ _ _ h => h) (Or.inl ⟨by rfl, ?_⟩) hHeld ?_ ?_
      rotate_left
      · rintro w' ⟨s0, s1, s2, s3, s4, s5⟩
        go_simp
        with_reducible rfl
      rotate_left
      · simp only [Act.put, List.setIfInBounds_toArray, List.set_cons_zero, List.set_cons_succ]; (try simp only [i64_w]); (try simp only [i32_w])
        rfl
      refine take_ (i := 6) (N := some 17) (v := ?_) (a' := ?_) #[true, true, true, true, false, true, true, false, false, false, false] rfl rfl (take_ofW HT_.out HW_.out (by kernel_rfl)) (fun _ _ _ h => h) (Or.inl ⟨by rfl, ?_⟩) hHeld ?_ ?_
      rotate_left
      · rintro w' ⟨s0, s1, s2, s3, s4, s5⟩
        go_simp
        with_reducible rfl
      rotate_left
      · simp only [Act.put, List.setIfInBounds_toArray, List.set_cons_zero, List.set_cons_succ]; (try simp only [i64_w]); (try simp only [i32_w])
        rfl
      refine one_ (i := 4) (N := some 15) #[true, true, true, true, true, true, true, false, false, false, false] rfl rfl (one_of HT_.out (by kernel_rfl)) (by decide) (fun K hK => ?_)
      refine goes_ Tryd.func38 (by kernel_rfl) rfl #[.agg #[.bool a0_0, .string a0_1, .int .i64 a0_2], .agg #[.bool a1_0, .string a1_1, .int .i64 a1_2]] (by rfl) rfl rfl (by (try simp only [List.map_toArray]); (try simp only [List.map_cons]); (try simp only [List.map_nil]); first | done | rfl | (simp only [List.length_drop, List.length_take]; rfl)) ?_
      with_reducible refine (arith_Mul.calls k a0_0 a0_1 a0_2 a1_0 a1_1 a1_2 t522 t523 t524 _ A7.out).mono ?_
      rintro e w20 ⟨rfl, hb⟩
      refine ⟨_, rfl, ?_⟩
      have n0_ := Aside0.mk (Kd.R_below (by (with_reducible repeat (first | apply Kd.R_alloc | apply Kd.R_drewN | apply Kd.R_drew)); exact HO519.out) hb)
      have n1_ := Aside0.mk (blk_below (g := gb515) (o := .cells #[.bool a0_0, .string a0_1, .int .i64 a0_2] 23 (0, 0)) (by (with_reducible repeat (first | refine blk_drewN ?_ _ | refine blk_drew ?_ | refine blk_alloc ?_ _)); exact BK515.out) hb)
      have n2_ := Aside0.mk (blk_below (g := gb516) (o := .cells #[.bool a1_0, .string a1_1, .int .i64 a1_2] 23 (0, 0)) (by (with_reducible repeat (first | refine blk_drewN ?_ _ | refine blk_drew ?_ | refine blk_alloc ?_ _)); exact BK516.out) hb)
      have n3_ := Aside0.mk (below_step (by repeat (first | (with_reducible first | exact HB.out | apply below_alloc | apply pw_below_drewN | apply below_drew1 | refine below_set ?_ GE515.out | refine below_set ?_ GE516.out) | exact HB.out)) hb)
      clear HO519
      clear BK515
      clear BK516
      clear HB
      have HO519 := n0_
      have BK515 := n1_
      have BK516 := n2_
      have HB := n3_
      clear n0_ n1_ n2_ n3_
      (try clear hb)
      (try clear hb2)
      (try clear hk)
      (try clear hi)
      refine hK.out _ _ ⟨(blk_cell BK515.out 0).trans rfl, (blk_cell BK515.out 1).trans rfl, (blk_cell BK515.out 2).trans rfl, (blk_cell BK516.out 0).trans rfl, (blk_cell BK516.out 1).trans rfl, (blk_cell BK516.out 2).trans rfl⟩ (fun hHeld => ?_)
      clear hK K
      refine norm_ (a' := ?_) ?_ ?_
      rotate_left
      · show Act.put _ (some 15) _ = _
        simp only [Act.put, List.setIfInBounds_toArray, List.set_cons_zero, List.set_cons_succ]; (try simp only [i64_w]); (try simp only [i32_w])
        rfl
      refine one_ (i := 7) (N := some 18) #[true, true, true, true, true, true, true, true, false, false, false] rfl rfl (one_of HT_.out (by kernel_rfl)) (by decide) (fun K hK => ?_)
      refine goes_ Tryd.func39 (by kernel_rfl) rfl #[.agg #[.bool a0_0, .string a0_1, .int .i64 a0_2], .agg #[.bool a1_0, .string a1_1, .int .i64 a1_2]] (by rfl) rfl rfl (by (try simp only [List.map_toArray]); (try simp only [List.map_cons]); (try simp only [List.map_nil]); first | done | rfl | (simp only [List.length_drop, List.length_take]; rfl)) ?_
      with_reducible refine (figureheadref05_Product.calls k a0_0 a0_1 a0_2 a1_0 a1_1 a1_2 t525 t526 t527 _ A8.out).mono ?_
      rintro e w21 ⟨rfl, hb⟩
      refine ⟨_, rfl, ?_⟩
      have n0_ := Aside0.mk (Kd.R_below (by (with_reducible repeat (first | apply Kd.R_alloc | apply Kd.R_drewN | apply Kd.R_drew)); exact HO519.out) hb)
      have n1_ := Aside0.mk (blk_below (g := gb515) (o := .cells #[.bool a0_0, .string a0_1, .int .i64 a0_2] 23 (0, 0)) (by (with_reducible repeat (first | refine blk_drewN ?_ _ | refine blk_drew ?_ | refine blk_alloc ?_ _)); exact BK515.out) hb)
      have n2_ := Aside0.mk (blk_below (g := gb516) (o := .cells #[.bool a1_0, .string a1_1, .int .i64 a1_2] 23 (0, 0)) (by (with_reducible repeat (first | refine blk_drewN ?_ _ | refine blk_drew ?_ | refine blk_alloc ?_ _)); exact BK516.out) hb)
      have n3_ := Aside0.mk (below_step (by repeat (first | (with_reducible first | exact HB.out | apply below_alloc | apply pw_below_drewN | apply below_drew1 | refine below_set ?_ GE515.out | refine below_set ?_ GE516.out) | exact HB.out)) hb)
      clear HO519
      clear BK515
      clear BK516
      clear HB
      have HO519 := n0_
      have BK515 := n1_
      have BK516 := n2_
      have HB := n3_
      clear n0_ n1_ n2_ n3_
      (try clear hb)
      (try clear hb2)
      (try clear hk)
      (try clear hi)
      refine hK.out _ _ ⟨(blk_cell BK515.out 0).trans rfl, (blk_cell BK515.out 1).trans rfl, (blk_cell BK515.out 2).trans rfl, (blk_cell BK516.out 0).trans rfl, (blk_cell BK516.out 1).trans rfl, (blk_cell BK516.out 2).trans rfl⟩ (fun hHeld => ?_)
      clear hK K
      refine norm_ (a' := ?_) ?_ ?_
      rotate_left
      · show Act.put _ (some 18) _ = _
        simp only [Act.put, List.setIfInBounds_toArray, List.set_cons_zero, List.set_cons_succ]; (try simp only [i64_w]); (try simp only [i32_w])
        rfl
      refine pure_ (i := 8) (N := some 19) (v := ?_) (a' := ?_) #[true, true, true, true, true, true, true, true, true, false, false] rfl rfl (any_of HT_.out (by kernel_rfl)) (fun _ _ _ h => h) (Or.inl ⟨by rfl, ?_⟩) ?_ ?_
      rotate_left
      · intro w'
        go_simp
        with_reducible rfl
      rotate_left
      · simp only [Act.put, List.setIfInBounds_toArray, List.set_cons_zero, List.set_cons_succ]; (try simp only [i64_w]); (try simp only [i32_w])
        rfl
      refine pure_ (i := 9) (N := some 20) (v := ?_) (a' := ?_) #[true, true, true, true, true, true, true, true, true, true, false] rfl rfl (any_of HT_.out (by kernel_rfl)) (fun _ _ _ h => h) (Or.inl ⟨by rfl, ?_⟩) ?_ ?_
      rotate_left
      · intro w'
        go_simp
        with_reducible rfl
      rotate_left
      · simp only [Act.put, List.setIfInBounds_toArray, List.set_cons_zero, List.set_cons_succ]; (try simp only [i64_w]); (try simp only [i32_w])
        rfl
      refine pure_ (i := 10) (N := some 4) (v := ?_) (a' := ?_) #[true, true, true, true, true, true, true, true, true, true, true] rfl rfl (any_of HT_.out (by kernel_rfl)) (fun _ _ _ h => h) (Or.inl ⟨by rfl, ?_⟩) ?_ ?_
      rotate_left
      · intro w'
        go_simp
        with_reducible rfl
      rotate_left
      · simp only [Act.put, List.setIfInBounds_toArray, List.set_cons_zero, List.set_cons_succ]; (try simp only [i64_w]); (try simp only [i32_w])
        rfl
      refine done_ (done_of HT_.out (by kernel_rfl)) ?_
      try go_wp2
      go_ret
      exact ⟨by first | rfl | (simp [errW_none, errW_some] <;> rfl) | (simp [*, errW_none, errW_some] <;> rfl), by repeat (first | (with_reducible first | exact HB.out | apply below_alloc | apply pw_below_drewN | apply below_drew1 | refine below_set ?_ GE515.out | refine below_set ?_ GE516.out) | exact HB.out)⟩
    · replace c6 := Bool.eq_false_iff.mpr c6
      subst c6
      have H1 : (some false) = some r := by rw [if_neg (show ¬ (false = true) by decide)] at H; exact H
      clear H
      have H := H1
      clear H1
      exact absurd ((Option.some.inj H).trans HT.out) (by decide)
  · replace c4 := Bool.eq_false_iff.mpr c4
    subst c4
    have H1 : ((figureheadlaw06_answers.f k).bind fun t528 => (some t528)) = some r := by rw [if_neg (show ¬ (false = true) by decide)] at H; exact H
    clear H
    have H := H1
    clear H1
    replace H := Option.bind_eq_some_iff.mp H
    obtain ⟨t528, A220, H⟩ := H
    replace H : (some t528) = some r := H
    have A22 := Aside0.mk A220
    clear A220
    obtain rfl := Option.some.inj H
    go_enter Tryd.func11, Tryd.ntmps11
    go_wp2_with (first | ((with_reducible refine gate_dst (N := 2) rfl ?_); refine box_event ?hg (N := 2) ?hd (cs := #[.bool a0_0, .string a0_1, .int .i64 a0_2]) (t := 23) ?hr ?_; (case hd => rfl); (case hg => rfl); (case hr => first | (go_simp; done) | (go_simp; rfl)); intro gb515 hg w23 hbox hb; have n0_ := Aside0.mk (below_step (by repeat (first | (with_reducible first | exact HB.out | apply below_alloc | apply pw_below_drewN | apply below_drew1) | exact HB.out)) hb); have n1_ := Aside0.mk (hbox); have n2_ := Aside0.mk ((by rw [hg]; exact (below_size (by repeat (first | (with_reducible first | exact HB.out | apply below_alloc | apply pw_below_drewN | apply below_drew1) | exact HB.out))) : w.heap.size ≤ gb515)); have n3_ := Aside0.mk ((by rw [hg]; exact (below_size (by repeat (first | (with_reducible first | exact HB.out | apply below_alloc | apply pw_below_drewN | apply below_drew1) | exact HB.out))) : w.heap.size ≤ gb515)); clear HB; have HB := n0_; have BK515 := n1_; have GW515 := n2_; have GE515 := n3_; clear n0_ n1_ n2_ n3_; clear hb hbox hg) | ((with_reducible refine gate_dst (N := 3) rfl ?_); refine box_event ?hg (N := 3) ?hd (cs := #[.bool a1_0, .string a1_1, .int .i64 a1_2]) (t := 23) ?hr ?_; (case hd => rfl); (case hg => rfl); (case hr => first | (go_simp; done) | (go_simp; rfl)); intro gb516 hg w24 hbox hb; have n0_ := Aside0.mk (blk_below (g := gb515) (o := .cells #[.bool a0_0, .string a0_1, .int .i64 a0_2] 23 (0, 0)) (by (with_reducible repeat (first | refine blk_drewN ?_ _ | refine blk_drew ?_ | refine blk_alloc ?_ _)); exact BK515.out) hb); have n1_ := Aside0.mk (below_step (by repeat (first | (with_reducible first | exact HB.out | apply below_alloc | apply pw_below_drewN | apply below_drew1 | refine below_set ?_ GE515.out) | exact HB.out)) hb); have n2_ := Aside0.mk (hbox); have n3_ := Aside0.mk ((by rw [hg]; exact (below_size (by repeat (first | (with_reducible first | exact HB.out | apply below_alloc | apply pw_below_drewN | apply below_drew1 | refine below_set ?_ GE515.out) | exact HB.out))) : w.heap.size ≤ gb516)); have n4_ := Aside0.mk ((by rw [hg]; exact (below_size (by repeat (first | (with_reducible first | exact HB.out | apply below_alloc | apply pw_below_drewN | apply below_drew1 | refine below_set ?_ GE515.out) | exact HB.out))) : w.heap.size ≤ gb516)); have n5_ := Aside0.mk ((by rw [hg]; exact Nat.ne_of_lt (blk_lt (g := gb515) (o := .cells #[.bool a0_0, .string a0_1, .int .i64 a0_2] 23 (0, 0)) (by (with_reducible repeat (first | refine blk_drewN ?_ _ | refine blk_drew ?_ | refine blk_alloc ?_ _)); exact BK515.out)) : gb515 ≠ gb516)); have n6_ := Aside0.mk ((by rw [hg]; exact Nat.ne_of_gt (blk_lt (g := gb515) (o := .cells #[.bool a0_0, .string a0_1, .int .i64 a0_2] 23 (0, 0)) (by (with_reducible repeat (first | refine blk_drewN ?_ _ | refine blk_drew ?_ | refine blk_alloc ?_ _)); exact BK515.out)) : gb516 ≠ gb515)); clear BK515; clear HB; have BK515 := n0_; have HB := n1_; have BK516 := n2_; have GW516 := n3_; have GE516 := n4_; have NB515_516 := n5_; have NB516_515 := n6_; clear n0_ n1_ n2_ n3_ n4_ n5_ n6_; clear hb hbox hg; have hnb25 := NB515_516.out; have hnc25 := NB516_515.out; have hcz26_0 : w24.cell? ⟨gb515, 0, none⟩ = some (.bool a0_0) := (blk_cell BK515.out 0).trans rfl; have hcz26_1 : w24.cell? ⟨gb515, 1, none⟩ = some (.string a0_1) := (blk_cell BK515.out 1).trans rfl; have hcz26_2 : w24.cell? ⟨gb515, 2, none⟩ = some (.int .i64 a0_2) := (blk_cell BK515.out 2).trans rfl; have hfz26_0 := blk_frozen BK515.out 0; have hfz26_1 := blk_frozen BK515.out 1; have hfz26_2 := blk_frozen BK515.out 2; have hcz27_0 : w24.cell? ⟨gb516, 0, none⟩ = some (.bool a1_0) := (blk_cell BK516.out 0).trans rfl; have hcz27_1 : w24.cell? ⟨gb516, 1, none⟩ = some (.string a1_1) := (blk_cell BK516.out 1).trans rfl; have hcz27_2 : w24.cell? ⟨gb516, 2, none⟩ = some (.int .i64 a1_2) := (blk_cell BK516.out 2).trans rfl; have hfz27_0 := blk_frozen BK516.out 0; have hfz27_1 := blk_frozen BK516.out 1; have hfz27_2 := blk_frozen BK516.out 2) | ((with_reducible refine gate_dst (N := 7) rfl ?_); refine Kd.R_lit k23 _ 23 ?hg (N := 7) ?hd (xs := ([(⟨a0_0, a0_1, a0_2⟩ : S23), (⟨a1_0, a1_1, a1_2⟩ : S23)] : List (S23))) (inner := [.bool a0_0, .string a0_1, .int .i64 a0_2, .bool a1_0, .string a1_1, .int .i64 a1_2]) (ok := fun _ => True) (okp := fun _ => True) ?hr ?hp (fun _ hk => hk) trivial (Below.refl _ _) (Nat.le_refl _) (by simp) ?_; (case hd => rfl); (case hg => rfl); (case hr => first | (go_simp; done) | (go_simp; rfl)); (case hp => exact (Reps.c3 (show Kd.M k23 _ _ _ (⟨a0_0, a0_1, a0_2⟩ : S23) [.bool a0_0, .string a0_1, .int .i64 a0_2] from (k23_mkM _ _ _ (⟨a0_0, a0_1, a0_2⟩ : S23) )) (Reps.c3 (show Kd.M k23 _ _ _ (⟨a1_0, a1_1, a1_2⟩ : S23) [.bool a1_0, .string a1_1, .int .i64 a1_2] from (k23_mkM _ _ _ (⟨a1_0, a1_1, a1_2⟩ : S23) )) (Reps.none _ _)))); intro v518 w28 ho29 hb hg_ hnew_; clear hg_ hnew_; (first | rw [← Ny517.out] at ho29 | (simp only [Int.reduceToNat] at ho29; rw [← Ny517.out] at ho29)); have n0_ := Aside0.mk (Kd.R_lower (Kd.R_newB (Kd.R_newB ho29 (g := gb515) (o := .cells #[.bool a0_0, .string a0_1, .int .i64 a0_2] 23 (0, 0)) (by (with_reducible repeat (first | refine blk_drewN ?_ _ | refine blk_drew ?_ | refine blk_alloc ?_ _)); exact BK515.out)) (g := gb516) (o := .cells #[.bool a1_0, .string a1_1, .int .i64 a1_2] 23 (0, 0)) (by (with_reducible repeat (first | refine blk_drewN ?_ _ | refine blk_drew ?_ | refine blk_alloc ?_ _)); exact BK516.out)) (below_size (by repeat (first | (with_reducible first | exact HB.out | apply below_alloc | apply pw_below_drewN | apply below_drew1 | refine below_set ?_ GE515.out | refine below_set ?_ GE516.out) | exact HB.out)))); have n1_ := Aside0.mk (blk_below (g := gb515) (o := .cells #[.bool a0_0, .string a0_1, .int .i64 a0_2] 23 (0, 0)) (by (with_reducible repeat (first | refine blk_drewN ?_ _ | refine blk_drew ?_ | refine blk_alloc ?_ _)); exact BK515.out) hb); have n2_ := Aside0.mk (blk_below (g := gb516) (o := .cells #[.bool a1_0, .string a1_1, .int .i64 a1_2] 23 (0, 0)) (by (with_reducible repeat (first | refine blk_drewN ?_ _ | refine blk_drew ?_ | refine blk_alloc ?_ _)); exact BK516.out) hb); have n3_ := Aside0.mk (below_step (by repeat (first | (with_reducible first | exact HB.out | apply below_alloc | apply pw_below_drewN | apply below_drew1 | refine below_set ?_ GE515.out | refine below_set ?_ GE516.out) | exact HB.out)) hb); clear BK515; clear BK516; clear HB; have HO519 := n0_; have BK515 := n1_; have BK516 := n2_; have HB := n3_; clear n0_ n1_ n2_ n3_; clear hb ho29; obtain ⟨Ao30, co30, eo30⟩ := Kd.R_slice HO519.out; subst eo30) | ((with_reducible refine gate_callee (f := 32) rfl ?_); refine goesL_ (some 8) rfl rfl Tryd.func32 (by kernel_rfl) rfl #[.slice Ao30 y517.length co30] rfl (by (try simp only [List.map_toArray]); (try simp only [List.map_cons]); (try simp only [List.map_nil]); first | done | rfl | (simp only [List.length_drop, List.length_take]; rfl)) ?_; (with_reducible refine (figureheadlaw06_good.calls k _ _ y517 false _ ?side1 ?side2 A3.out).mono ?_); (case side1 => repeat (first | exact (Kd.R_reads' HO519.out).2.2 | (with_reducible refine Kd.C_alloc ?_ _) | (with_reducible refine Kd.C_drewN ?_ _) | (with_reducible refine Kd.C_drew ?_))); (case side2 => exact (Kd.R_reads' HO519.out).2.1); rintro e w31 ⟨rfl, hb⟩; refine ⟨_, rfl, ?_⟩; have n0_ := Aside0.mk (Kd.R_below (by (with_reducible repeat (first | apply Kd.R_alloc | apply Kd.R_drewN | apply Kd.R_drew)); exact HO519.out) hb); have n1_ := Aside0.mk (blk_below (g := gb515) (o := .cells #[.bool a0_0, .string a0_1, .int .i64 a0_2] 23 (0, 0)) (by (with_reducible repeat (first | refine blk_drewN ?_ _ | refine blk_drew ?_ | refine blk_alloc ?_ _)); exact BK515.out) hb); have n2_ := Aside0.mk (blk_below (g := gb516) (o := .cells #[.bool a1_0, .string a1_1, .int .i64 a1_2] 23 (0, 0)) (by (with_reducible repeat (first | refine blk_drewN ?_ _ | refine blk_drew ?_ | refine blk_alloc ?_ _)); exact BK516.out) hb); have n3_ := Aside0.mk (below_step (by repeat (first | (with_reducible first | exact HB.out | apply below_alloc | apply pw_below_drewN | apply below_drew1 | refine below_set ?_ GE515.out | refine below_set ?_ GE516.out) | exact HB.out)) hb); clear HO519; clear BK515; clear BK516; clear HB; have HO519 := n0_; have BK515 := n1_; have BK516 := n2_; have HB := n3_; clear n0_ n1_ n2_ n3_; (try clear hb); (try clear hb2); (try clear hk); (try clear hi)) | ((with_reducible refine gate_callee (f := 33) rfl ?_); refine goesL_ (some 10) rfl rfl Tryd.func33 (by kernel_rfl) rfl #[] rfl (by (try simp only [List.map_toArray]); (try simp only [List.map_cons]); (try simp only [List.map_nil]); first | done | rfl | (simp only [List.length_drop, List.length_take]; rfl)) ?_; (with_reducible refine (figureheadlaw06_answers.calls k  t528 _ ?side1 ?side2 A22.out).mono ?_); (case side1 => exact Fig.Glob.below HG.out (by repeat (first | (with_reducible first | exact HB.out | apply below_alloc | apply pw_below_drewN | apply below_drew1 | refine below_set ?_ GE515.out | refine below_set ?_ GE516.out) | exact HB.out))); (case side2 => exact ⟨by first | rfl | exact HT.out⟩); rintro e w32 ⟨rfl, hb⟩; refine ⟨_, rfl, ?_⟩; have n0_ := Aside0.mk (Kd.R_below (by (with_reducible repeat (first | apply Kd.R_alloc | apply Kd.R_drewN | apply Kd.R_drew)); exact HO519.out) hb); have n1_ := Aside0.mk (blk_below (g := gb515) (o := .cells #[.bool a0_0, .string a0_1, .int .i64 a0_2] 23 (0, 0)) (by (with_reducible repeat (first | refine blk_drewN ?_ _ | refine blk_drew ?_ | refine blk_alloc ?_ _)); exact BK515.out) hb); have n2_ := Aside0.mk (blk_below (g := gb516) (o := .cells #[.bool a1_0, .string a1_1, .int .i64 a1_2] 23 (0, 0)) (by (with_reducible repeat (first | refine blk_drewN ?_ _ | refine blk_drew ?_ | refine blk_alloc ?_ _)); exact BK516.out) hb); have n3_ := Aside0.mk (below_step (by repeat (first | (with_reducible first | exact HB.out | apply below_alloc | apply pw_below_drewN | apply below_drew1 | refine below_set ?_ GE515.out | refine below_set ?_ GE516.out) | exact HB.out)) hb); clear HO519; clear BK515; clear BK516; clear HB; have HO519 := n0_; have BK515 := n1_; have BK516 := n2_; have HB := n3_; clear n0_ n1_ n2_ n3_; (try clear hb); (try clear hb2); (try clear hk); (try clear hi)))
    go_ret
    exact ⟨by first | rfl | (simp [errW_none, errW_some] <;> rfl) | (simp [*, errW_none, errW_some] <;> rfl), by repeat (first | (with_reducible first | exact HB.out | apply below_alloc | apply pw_below_drewN | apply below_drew1 | refine below_set ?_ GE515.out | refine below_set ?_ GE516.out) | exact HB.out)⟩
end Go.Proofs.YtbjaiphfehnncaaDoor.Px
end
section
namespace Go.Proofs.YtbjaiphfehnncaaDoor.Px
open Fig Go.RowKit Go.Proofs.YtbjaiphfehnncaaDoorW.PrintWords Go.Proofs.YtbjaiphfehnncaaDoorW.PrintLast Go.Proofs.YtbjaiphfehnncaaDoorW.PrintMore
attribute [local go_sem] max2_int min2_int max_two min_two max_three min_three max_four min_four   -- for this text's walks alone
attribute [local go_sem] fieldA23_0 fieldA23_1 fieldA23_2
theorem Digits_loop (s : ByteArray) (hs : s.size ≤ 4611686018427387904) : ∀ (d n : Nat), s.size - n = d → n ≤ s.size → Ev (fun k => figureheadref05_Digits.l0 k s (n : Int)) (digL (s.data.toList.drop n) && decide (s.size ≠ 0))
  | 0, n, hd, hn => by
    refine evDone (r' := (s.toList != ([] : List UInt8))) (fun k => ?_) ?_
    · simp only [figureheadref05_Digits.l0]; rw [if_neg (by omega)]
    · rw [List.drop_of_length_le (by rw [← size_eq]; omega), bne_nil, ByteArray.toList_eq, size_eq]
      cases s.data.toList <;> simp [digL]
  | d + 1, n, hd, hn => by
    have hlt : n < s.size := by omega
    have hbt := bt_get hlt
    have hc := List.drop_eq_getElem_cons (l := s.data.toList) (i := n) (by rw [← size_eq]; exact hlt)
    rw [hc]
    generalize hx : s.data.toList[n]'(by rw [← size_eq]; exact hlt) = c at hbt
    by_cases h1 : c.toNat < 48
    · refine evDone (r' := false) (fun k => ?_) ?_
      · simp only [figureheadref05_Digits.l0]; rw [if_pos (by omega), if_pos (by omega), hbt, if_pos (by omega)]
      · have : isD c = false := by unfold isD; simp; omega
        simp [digL, this]
    · by_cases h2 : c.toNat > 57
      · refine evDone (r' := false) (fun k => ?_) ?_
        · simp only [figureheadref05_Digits.l0]; rw [if_pos (by omega), if_pos (by omega), hbt, if_neg (by omega), if_pos (by omega)]
        · have : isD c = false := by unfold isD; simp; omega
          simp [digL, this]
      · have hd1 : isD c = true := isD_iff.2 ⟨by omega, by omega⟩
        refine evIs (Ev.step (f := fun k => figureheadref05_Digits.l0 k s ((n + 1 : Nat) : Int)) (fun k => ?_) (Digits_loop s hs d (n + 1) (by omega) (by omega))) ?_
        · simp only [figureheadref05_Digits.l0]; rw [if_pos (by omega), if_pos (by omega), hbt, if_neg (by omega), if_neg (by omega), succ64 _ (by omega)]
        · simp [digL, hd1]
theorem Digits05_ev {s : ByteArray} (hs : s.size ≤ 4611686018427387904) : Ev (fun k => figureheadref05_Digits.f k s) (dB s && decide (s.size ≠ 0)) := by
  have := Digits_loop s hs s.size 0 (by omega) (by omega)
  rw [List.drop_zero] at this
  exact this
end Go.Proofs.YtbjaiphfehnncaaDoor.Px
end
section
namespace Go.Proofs.YtbjaiphfehnncaaDoor.Px
open Fig Go.RowKit Go.Proofs.YtbjaiphfehnncaaDoorW.PrintWords Go.Proofs.YtbjaiphfehnncaaDoorW.PrintLast Go.Proofs.YtbjaiphfehnncaaDoorW.PrintMore
attribute [local go_sem] max2_int min2_int max_two min_two max_three min_three max_four min_four   -- for this text's walks alone
attribute [local go_sem] fieldA23_0 fieldA23_1 fieldA23_2
theorem Good05_ev {b : Bool} {s : ByteArray} {e : Int} (hs : s.size ≤ 4611686018427387904) : Ev (fun k => figureheadref05_Good.f k b s e) (goodD s e) := by
  unfold figureheadref05_Good.f
  refine Ev.bind (Digits05_ev hs) ?_
  unfold goodD
  cases hd : (dB s && decide (s.size ≠ 0))
  · simp only [Bool.false_eq_true, if_false, Bool.false_and]
    exact Ev.now _
  · simp only [if_true, Bool.true_and]
    by_cases h1 : s.size ≤ 1000
    · have h1' : (s.size : Int) ≤ 1000 := by omega
      simp only [h1', h1, if_true, decide_true, Bool.true_and]
      by_cases h2 : e ≥ -1000
      · have h2' : -1000 ≤ e := h2
        simp only [h2, h2', if_true, decide_true, Bool.true_and]
        exact Ev.now _
      · have h2' : ¬ -1000 ≤ e := h2
        simp only [h2, h2', if_false, decide_false, Bool.false_and]
        exact Ev.now _
    · have h1' : ¬ (s.size : Int) ≤ 1000 := by omega
      simp only [h1', h1, if_false, decide_false, Bool.false_and]
      exact Ev.now _
end Go.Proofs.YtbjaiphfehnncaaDoor.Px
end
section
namespace Go.Proofs.YtbjaiphfehnncaaDoor.Px
open Fig Go.RowKit Go.Proofs.YtbjaiphfehnncaaDoorW.PrintWords Go.Proofs.YtbjaiphfehnncaaDoorW.PrintLast Go.Proofs.YtbjaiphfehnncaaDoorW.PrintMore
attribute [local go_sem] max2_int min2_int max_two min_two max_three min_three max_four min_four   -- for this text's walks alone
attribute [local go_sem] fieldA23_0 fieldA23_1 fieldA23_2
theorem good06_loop (ls : List S23) (hl : ls.length ≤ 1000) (hb : ∀ d ∈ ls, d.f1.size ≤ 140737488351232) : ∀ (d n : Nat), ls.length - n = d → n ≤ ls.length → Ev (fun k => figureheadlaw06_good.l0 k ls (n : Int)) ((ls.drop n).all fun x => goodD x.f1 x.f2 && decide (x.f1.size ≤ 200))
  | 0, n, hd, hn => by
    refine evDone (r' := true) (fun k => ?_) (by rw [List.drop_of_length_le (by omega)]; rfl)
    simp only [figureheadlaw06_good.l0]; rw [if_neg (by omega)]
  | d + 1, n, hd, hn => by
    have hlt : n < ls.length := by omega
    have hm := List.getElem_mem hlt
    have hrd : rd_T23 ls (n : Int) = ls[n] := by
      unfold rd_T23; rw [Int.toNat_natCast, List.getD_eq_getElem?_getD, List.getElem?_eq_getElem hlt]; rfl
    rw [List.drop_eq_getElem_cons hlt, List.all_cons]
    have hbm := hb _ hm
    refine Ev.step (f := fun k => (figureheadref05_Good.f k ls[n].f0 ls[n].f1 ls[n].f2).bind fun t => if t = true then if (ls[n].f1.size : Int) > 200 then some false else figureheadlaw06_good.l0 k ls ((n + 1 : Nat) : Int) else some false) (fun k => ?_) ?_
    · simp only [figureheadlaw06_good.l0]; rw [if_pos (by omega), if_pos (by omega), hrd, succ64 _ (by omega)]
    · refine Ev.bind (Good05_ev (by omega)) ?_
      cases hg : goodD ls[n].f1 ls[n].f2
      · refine evF (by decide) (evIs (Ev.now false) (by simp))
      · refine evT rfl ?_
        by_cases h2 : (ls[n].f1.size : Int) > 200
        · have : ¬ ls[n].f1.size ≤ 200 := by omega
          exact evT h2 (evIs (Ev.now false) (by simp [this]))
        · have h3 : ls[n].f1.size ≤ 200 := by omega
          refine evF h2 (evIs (good06_loop ls hl hb d (n + 1) (by omega) (by omega)) ?_)
          simp [h3]
theorem good06_ev {ls : List S23} (hl : ls.length ≤ 1000) (hb : ∀ d ∈ ls, d.f1.size ≤ 140737488351232) : Ev (fun k => figureheadlaw06_good.f k ls) (ls.all fun x => goodD x.f1 x.f2 && decide (x.f1.size ≤ 200)) := by
  have := good06_loop ls hl hb ls.length 0 (by omega) (by omega)
  rw [List.drop_zero] at this
  exact this
end Go.Proofs.YtbjaiphfehnncaaDoor.Px
end
section
namespace Go.Proofs.YtbjaiphfehnncaaDoor.Px
open Fig Go.RowKit Go.Proofs.YtbjaiphfehnncaaDoorW.PrintWords Go.Proofs.YtbjaiphfehnncaaDoorW.PrintLast Go.Proofs.YtbjaiphfehnncaaDoorW.PrintMore
attribute [local go_sem] max2_int min2_int max_two min_two max_three min_three max_four min_four   -- for this text's walks alone
attribute [local go_sem] fieldA23_0 fieldA23_1 fieldA23_2
theorem numP {s : ByteArray} (h : dB s = true) (hne : s.size ≠ 0) (hs : s.size ≤ 140737488351232) : ten_Number.f s = some (limbs (vB s), true) := by
  unfold ten_Number.f; rw [if_pos hs, if_pos ⟨h, hne⟩]
end Go.Proofs.YtbjaiphfehnncaaDoor.Px
end
section
namespace Go.Proofs.YtbjaiphfehnncaaDoor.Px
open Fig Go.RowKit Go.Proofs.YtbjaiphfehnncaaDoorW.PrintWords Go.Proofs.YtbjaiphfehnncaaDoorW.PrintLast Go.Proofs.YtbjaiphfehnncaaDoorW.PrintMore
attribute [local go_sem] max2_int min2_int max_two min_two max_three min_three max_four min_four   -- for this text's walks alone
attribute [local go_sem] fieldA23_0 fieldA23_1 fieldA23_2
theorem coefP {b : Bool} {s : ByteArray} {e : Int} (h : OkD s e) : dec_Coef.f b s e = some (limbs (vB s)) := by
  have := h.sz
  unfold dec_Coef.f; rw [numP h.d h.ne (by omega)]; rfl
end Go.Proofs.YtbjaiphfehnncaaDoor.Px
end
section
namespace Go.Proofs.YtbjaiphfehnncaaDoor.Px
open Fig Go.RowKit Go.Proofs.YtbjaiphfehnncaaDoorW.PrintWords Go.Proofs.YtbjaiphfehnncaaDoorW.PrintLast Go.Proofs.YtbjaiphfehnncaaDoorW.PrintMore
attribute [local go_sem] max2_int min2_int max_two min_two max_three min_three max_four min_four   -- for this text's walks alone
attribute [local go_sem] fieldA23_0 fieldA23_1 fieldA23_2
def dec_size.f (a0_0 : Bool) (a0_1 : ByteArray) (a0_2 : Int) (a1 : Int) : Option (List Int) := (dec_Coef.f a0_0 a0_1 a0_2).bind fun t141 => ((ten_Shift.f t141 (wrap64 (a0_2 - a1))).bind fun t144 => (some t144))
def dec_size.T1 : Bool × List (List Nat × List Nat) := (true, [([], []), ([0], [0]), ([], []), ([2], [2]), ([], []), ([3, 4], [3, 4]), ([1, 5, 1], [1, 5]), ([6, 6, 0, 1, 2, 3, 4, 5, 6], [6])])
def dec_size.B1 : List Nat := [0, 1, 0, 4, 0, 28, 63, 127]
theorem dec_size.tab1 : rtab .any (opsOf Tryd.f47 1) = dec_size.T1 := by kernel_rfl
theorem dec_size.bits1 : waitsOk dec_size.T1.2 dec_size.B1 = true := by kernel_rfl
set_option maxHeartbeats 8000000 in
set_option maxRecDepth 100000 in
theorem dec_size.calls (a0_0 : Bool) (a0_1 : ByteArray) (a0_2 : Int) (a1 : Int) (r : List Int) (w : World) (hG : Fig.Glob w) (h : dec_size.f a0_0 a0_1 a0_2 a1 = some r) :
    Calls Tryd.prog 47 #[.agg #[.bool a0_0, .string a0_1, .int .i64 a0_2], .int .i64 a1] w fun e w' => ∃ v0_ : Value, e = .returned (v0_) ∧ Kd.R (Kd.int .u32) 47 w' w.heap.size (fun _ => True) v0_ r ∧ Below w.heap.size w w' := by
  have hu23 := Tryd.underlying23
  have HG := Aside0.mk hG
  clear hG
  have HB := Aside0.mk (Below.refl w.heap.size w)
  have H : ((dec_Coef.f a0_0 a0_1 a0_2).bind fun t141 => ((ten_Shift.f t141 (wrap64 (a0_2 - a1))).bind fun t144 => (some t144))) = some r := h
  clear h
  replace H := Option.bind_eq_some_iff.mp H
  obtain ⟨t141, A30, H⟩ := H
  replace H : ((ten_Shift.f t141 (wrap64 (a0_2 - a1))).bind fun t144 => (some t144)) = some r := H
  have A3 := Aside0.mk A30
  clear A30
  replace H := Option.bind_eq_some_iff.mp H
  obtain ⟨t144, A40, H⟩ := H
  replace H : (some t144) = some r := H
  have A4 := Aside0.mk A40
  clear A40
  obtain rfl := Option.some.inj H
  go_enter Tryd.func47, Tryd.ntmps47
  try go_wp2_with (first | ((with_reducible refine gate_dst (N := 2) rfl ?_); refine box_event ?hg (N := 2) ?hd (cs := #[.bool a0_0, .string a0_1, .int .i64 a0_2]) (t := 23) ?hr ?_; (case hd => rfl); (case hg => rfl); (case hr => first | (go_simp; done) | (go_simp; rfl)); intro gb140 hg w5 hbox hb; have n0_ := Aside0.mk (below_step (by repeat (first | (with_reducible first | exact HB.out | apply below_alloc | apply pw_below_drewN | apply below_drew1) | exact HB.out)) hb); have n1_ := Aside0.mk (hbox); have n2_ := Aside0.mk ((by rw [hg]; exact (below_size (by repeat (first | (with_reducible first | exact HB.out | apply below_alloc | apply pw_below_drewN | apply below_drew1) | exact HB.out))) : w.heap.size ≤ gb140)); have n3_ := Aside0.mk ((by rw [hg]; exact (below_size (by repeat (first | (with_reducible first | exact HB.out | apply below_alloc | apply pw_below_drewN | apply below_drew1) | exact HB.out))) : w.heap.size ≤ gb140)); clear HB; have HB := n0_; have BK140 := n1_; have GW140 := n2_; have GE140 := n3_; clear n0_ n1_ n2_ n3_; clear hb hbox hg))
  have n0_ := Aside0.mk (blk_drew BK140.out)
  have n1_ := Aside0.mk (below_drew1 HB.out)
  clear BK140
  clear HB
  have BK140 := n0_
  have HB := n1_
  clear n0_ n1_
  refine start_ (n := 8) (S := fun w' => w'.cell? ⟨gb140, 0, none⟩ = some (.bool a0_0) ∧ w'.cell? ⟨gb140, 1, none⟩ = some (.string a0_1) ∧ w'.cell? ⟨gb140, 2, none⟩ = some (.int .i64 a0_2)) (ds := []) #[false, false, false, false, false, false, false, false] (by kernel_rfl) rfl rfl ⟨(blk_cell BK140.out 0).trans rfl, (blk_cell BK140.out 1).trans rfl, (blk_cell BK140.out 2).trans rfl⟩ (fun hHeld => ?_); refine with_tabW dec_size.tab1 dec_size.bits1 (fun HT_ HW_ => ?_)
  generalize w5.drew = w6 at BK140 HB hHeld ⊢
  refine pure_ (i := 2) (N := some 7) (v := ?_) (a' := ?_) #[false, false, true, false, false, false, false, false] rfl rfl (any_of HT_.out (by kernel_rfl)) (fun _ _ _ h => h) (Or.inl ⟨by rfl, ?_⟩) ?_ ?_
  rotate_left
  · intro w'
    go_simp
    with_reducible rfl
  rotate_left
  · simp only [Act.put, List.setIfInBounds_toArray, List.set_cons_zero, List.set_cons_succ]; (try simp only [i64_w]); (try simp only [i32_w])
    rfl
  refine pure_ (i := 4) (N := some 9) (v := ?_) (a' := ?_) #[false, false, true, false, true, false, false, false] rfl rfl (any_of HT_.out (by kernel_rfl)) (fun _ _ _ h => h) (Or.inl ⟨by rfl, ?_⟩) ?_ ?_
  rotate_left
  · intro w'
    go_simp
    with_reducible rfl
  rotate_left
  · simp only [Act.put, List.setIfInBounds_toArray, List.set_cons_zero, List.set_cons_succ]; (try simp only [i64_w]); (try simp only [i32_w])
    rfl
  refine take_ (i := 0) (N := some 5) (v := ?_) (a' := ?_) #[true, false, true, false, true, false, false, false] rfl rfl (take_ofW HT_.out HW_.out (by kernel_rfl)) (fun _ _ _ h => h) (Or.inl ⟨by rfl, ?_⟩) hHeld ?_ ?_
  rotate_left
  · rintro w' ⟨s0, s1, s2⟩
    go_simp
    with_reducible rfl
  rotate_left
  · simp only [Act.put, List.setIfInBounds_toArray, List.set_cons_zero, List.set_cons_succ]; (try simp only [i64_w]); (try simp only [i32_w])
    rfl
  refine take_ (i := 3) (N := some 8) (v := ?_) (a' := ?_) #[true, false, true, true, true, false, false, false] rfl rfl (take_ofW HT_.out HW_.out (by kernel_rfl)) (fun _ _ _ h => h) (Or.inl ⟨by rfl, ?_⟩) hHeld ?_ ?_
  rotate_left
  · rintro w' ⟨s0, s1, s2⟩
    go_simp
    with_reducible rfl
  rotate_left
  · simp only [Act.put, List.setIfInBounds_toArray, List.set_cons_zero, List.set_cons_succ]; (try simp only [i64_w]); (try simp only [i32_w])
    rfl
  refine pure_ (i := 5) (N := some 10) (v := ?_) (a' := ?_) #[true, false, true, true, true, true, false, false] rfl rfl (any_of HT_.out (by kernel_rfl)) (fun _ _ _ h => h) (Or.inl ⟨by rfl, ?_⟩) ?_ ?_
  rotate_left
  · intro w'
    go_simp
    with_reducible rfl
  rotate_left
  · simp only [Act.put, List.setIfInBounds_toArray, List.set_cons_zero, List.set_cons_succ]; (try simp only [i64_w]); (try simp only [i32_w])
    rfl
  refine one_ (i := 1) (N := some 6) #[true, true, true, true, true, true, false, false] rfl rfl (one_of HT_.out (by kernel_rfl)) (by decide) (fun K hK => ?_)
  refine goes_ Tryd.func23 (by kernel_rfl) rfl #[.agg #[.bool a0_0, .string a0_1, .int .i64 a0_2]] (by rfl) rfl rfl (by (try simp only [List.map_toArray]); (try simp only [List.map_cons]); (try simp only [List.map_nil]); first | done | rfl | (simp only [List.length_drop, List.length_take]; rfl)) ?_
  with_reducible refine (dec_Coef.calls a0_0 a0_1 a0_2 t141 _ A3.out).mono ?_
  rintro e w7 ⟨v142, rfl, ho0, hb⟩
  refine ⟨_, rfl, ?_⟩
  have n0_ := Aside0.mk (Kd.R_lower ho0 (below_size (by repeat (first | (with_reducible first | exact HB.out | apply below_alloc | apply pw_below_drewN | apply below_drew1 | refine below_set ?_ GE140.out) | exact HB.out))))
  have n1_ := Aside0.mk (blk_below (g := gb140) (o := .cells #[.bool a0_0, .string a0_1, .int .i64 a0_2] 23 (0, 0)) (by (with_reducible repeat (first | refine blk_drewN ?_ _ | refine blk_drew ?_ | refine blk_alloc ?_ _)); exact BK140.out) hb)
  have n2_ := Aside0.mk (below_step (by repeat (first | (with_reducible first | exact HB.out | apply below_alloc | apply pw_below_drewN | apply below_drew1 | refine below_set ?_ GE140.out) | exact HB.out)) hb)
  clear BK140
  clear HB
  have HO143 := n0_
  have BK140 := n1_
  have HB := n2_
  clear n0_ n1_ n2_
  (try clear hb)
  (try clear hb2)
  (try clear hk)
  (try clear hi)
  (try clear ho0)
  obtain ⟨Ao8, co8, eo8⟩ := Kd.R_slice HO143.out
  (first | subst eo8 | (injection eo8 with f1_ f2_ f3_; have f4_ := f1_.symm; have f5_ := f3_.symm; clear f1_ f2_ f3_; subst f4_; subst f5_))
  refine hK.out _ _ ⟨(blk_cell BK140.out 0).trans rfl, (blk_cell BK140.out 1).trans rfl, (blk_cell BK140.out 2).trans rfl⟩ (fun hHeld => ?_)
  clear hK K
  refine norm_ (a' := ?_) ?_ ?_
  rotate_left
  · show Act.put _ (some 6) _ = _
    simp only [Act.put, List.setIfInBounds_toArray, List.set_cons_zero, List.set_cons_succ]; (try simp only [i64_w]); (try simp only [i32_w])
    rfl
  refine one_ (i := 6) (N := some 11) #[true, true, true, true, true, true, true, false] rfl rfl (one_of HT_.out (by kernel_rfl)) (by decide) (fun K hK => ?_)
  refine goes_ Tryd.func52 (by kernel_rfl) rfl #[.slice Ao8 t141.length co8, .int .i64 (wrap64 (a0_2 - a1))] (by rfl) rfl rfl (by (try simp only [List.map_toArray]); (try simp only [List.map_cons]); (try simp only [List.map_nil]); first | done | rfl | (simp only [List.length_drop, List.length_take]; rfl)) ?_
  with_reducible refine (ten_Shift.calls _ _ t141 (wrap64 (a0_2 - a1)) t144 _ ?side1 ?side2 ?side3 A4.out).mono ?_
  (case side1 => exact Fig.Glob.below HG.out (by repeat (first | (with_reducible first | exact HB.out | apply below_alloc | apply pw_below_drewN | apply below_drew1 | refine below_set ?_ GE140.out) | exact HB.out)))
  (case side2 => repeat (first | exact (Kd.R_reads' HO143.out).2.2 | (with_reducible refine Kd.C_alloc ?_ _) | (with_reducible refine Kd.C_drewN ?_ _) | (with_reducible refine Kd.C_drew ?_)))
  (case side3 => exact (Kd.R_reads' HO143.out).2.1)
  rintro e w9 ⟨v145, rfl, ho0, hb⟩
  refine ⟨_, rfl, ?_⟩
  have n0_ := Aside0.mk (Kd.R_elder' (by (with_reducible repeat (first | apply Kd.R_alloc | apply Kd.R_drewN | apply Kd.R_drew)); exact HO143.out) (Kd.R_base ho0) hb)
  have n1_ := Aside0.mk (Kd.R_lower (Kd.R_new' ho0 (Kd.R_lt (by (with_reducible repeat (first | apply Kd.R_alloc | apply Kd.R_drewN | apply Kd.R_drew)); exact HO143.out))) (below_size (by repeat (first | (with_reducible first | exact HB.out | apply below_alloc | apply pw_below_drewN | apply below_drew1 | refine below_set ?_ GE140.out) | exact HB.out))))
  have n2_ := Aside0.mk (blk_below (g := gb140) (o := .cells #[.bool a0_0, .string a0_1, .int .i64 a0_2] 23 (0, 0)) (by (with_reducible repeat (first | refine blk_drewN ?_ _ | refine blk_drew ?_ | refine blk_alloc ?_ _)); exact BK140.out) hb)
  have n3_ := Aside0.mk (below_step (by repeat (first | (with_reducible first | exact HB.out | apply below_alloc | apply pw_below_drewN | apply below_drew1 | refine below_set ?_ GE140.out) | exact HB.out)) hb)
  clear HO143
  clear BK140
  clear HB
  have HO143 := n0_
  have HO146 := n1_
  have BK140 := n2_
  have HB := n3_
  clear n0_ n1_ n2_ n3_
  (try clear hb)
  (try clear hb2)
  (try clear hk)
  (try clear hi)
  (try clear ho0)
  refine hK.out _ _ ⟨(blk_cell BK140.out 0).trans rfl, (blk_cell BK140.out 1).trans rfl, (blk_cell BK140.out 2).trans rfl⟩ (fun hHeld => ?_)
  clear hK K
  refine norm_ (a' := ?_) ?_ ?_
  rotate_left
  · show Act.put _ (some 11) _ = _
    simp only [Act.put, List.setIfInBounds_toArray, List.set_cons_zero, List.set_cons_succ]; (try simp only [i64_w]); (try simp only [i32_w])
    rfl
  refine pure_ (i := 7) (N := some 4) (v := ?_) (a' := ?_) #[true, true, true, true, true, true, true, true] rfl rfl (any_of HT_.out (by kernel_rfl)) (fun _ _ _ h => h) (Or.inl ⟨by rfl, ?_⟩) ?_ ?_
  rotate_left
  · intro w'
    go_simp
    with_reducible rfl
  rotate_left
  · simp only [Act.put, List.setIfInBounds_toArray, List.set_cons_zero, List.set_cons_succ]; (try simp only [i64_w]); (try simp only [i32_w])
    rfl
  refine done_ (done_of HT_.out (by kernel_rfl)) ?_
  try go_wp2
  go_ret
  exact ⟨_, by first | rfl | (simp [errW_none, errW_some] <;> rfl) | (simp [*, errW_none, errW_some] <;> rfl), by (with_reducible repeat (first | apply Kd.R_alloc | apply Kd.R_drewN | apply Kd.R_drew)); exact Kd.R_mono HO146.out (fun _ hk => trivial), by repeat (first | (with_reducible first | exact HB.out | apply below_alloc | apply pw_below_drewN | apply below_drew1 | refine below_set ?_ GE140.out) | exact HB.out)⟩
end Go.Proofs.YtbjaiphfehnncaaDoor.Px
end
section
namespace Go.Proofs.YtbjaiphfehnncaaDoor.Px
open Fig Go.RowKit Go.Proofs.YtbjaiphfehnncaaDoorW.PrintWords Go.Proofs.YtbjaiphfehnncaaDoorW.PrintLast Go.Proofs.YtbjaiphfehnncaaDoorW.PrintMore
attribute [local go_sem] max2_int min2_int max_two min_two max_three min_three max_four min_four   -- for this text's walks alone
attribute [local go_sem] fieldA23_0 fieldA23_1 fieldA23_2
theorem shiftP {l : List Int} {n : Int} (g : goodL l = true) (hl : l.length ≤ 500000) (hn : n ≤ 1000000) : ten_Shift.f l n = some (limbs (valL l * 10 ^ n.toNat)) := by unfold ten_Shift.f; rw [if_pos ⟨g, hl, hn⟩]
theorem coef_len {s : ByteArray} {e : Int} (h : OkD s e) : (limbs (vB s)).length ≤ 100000 := by
  have := limbs_len_digB (vB s)
  have := h.val
  have := h.sz
  omega
end Go.Proofs.YtbjaiphfehnncaaDoor.Px
end
section
namespace Go.Proofs.YtbjaiphfehnncaaDoor.Px
open Fig Go.RowKit Go.Proofs.YtbjaiphfehnncaaDoorW.PrintWords Go.Proofs.YtbjaiphfehnncaaDoorW.PrintLast Go.Proofs.YtbjaiphfehnncaaDoorW.PrintMore
attribute [local go_sem] max2_int min2_int max_two min_two max_three min_three max_four min_four   -- for this text's walks alone
attribute [local go_sem] fieldA23_0 fieldA23_1 fieldA23_2
theorem w_add (e : Int) (p : Nat) (h1 : -1000000 ≤ e) (h2 : e ≤ 1000000) (hp : p ≤ 1000000) : wrap64 (e + (p : Int)) = e + (p : Int) := w64 (by omega) (by omega)
theorem w_norm (e : Int) (p q : Nat) (h1 : -1000000 ≤ e) (h2 : e ≤ 1000000) (hp : p ≤ 1000000) (hq : q ≤ 1000000) : wrap64 (wrap64 (e + (p : Int)) - (q : Int)) = e + (p : Int) - (q : Int) := by rw [w_add e p h1 h2 hp, w64 (by omega) (by omega)]
theorem normP {b : Bool} {s : ByteArray} {e : Int} (h : OkD s e) : dec_Norm.f b s e = some (b, nD (vB s), nE (vB s) e) := by
  have hz := h.val
  have h1 := h.sz
  have h2 := h.lo
  have h3 := h.hi
  unfold dec_Norm.f
  rw [show strings_TrimLeft.f s (⟨#[48]⟩ : ByteArray) = some (digB (vB s)) by unfold strings_TrimLeft.f; rw [if_pos rfl, stripB_eq h.d]]
  simp only [Option.bind_some]
  by_cases h0 : vB s = 0
  · rw [if_pos (digB_toList_nil.2 h0), h0]; rfl
  · rw [if_neg (fun hh => h0 (digB_toList_nil.1 hh))]
    have hl := digB_len_core h0
    have ht : strings_TrimRight.f (digB (vB s)) (⟨#[48]⟩ : ByteArray) = some (digB (core (vB s))) := by
      unfold strings_TrimRight.f
      rw [if_pos ⟨rfl, by omega⟩]
      show some (⟨(Lib.trimRightB (digs (vB s)) 48).toArray⟩ : ByteArray) = _
      unfold Lib.trimRightB; rw [trimR_digs h0]; rfl
    rw [ht]
    simp only [Option.bind_some]
    rw [w_norm e _ _ (by omega) (by omega) (by omega) (by omega)]
    unfold nD nE
    rw [if_neg h0, if_neg h0, show e + ((digB (vB s)).size : Int) - ((digB (core (vB s))).size : Int) = e + (tz (vB s) : Int) by omega]
end Go.Proofs.YtbjaiphfehnncaaDoor.Px
end
section
namespace Go.Proofs.YtbjaiphfehnncaaDoor.Px
open Fig Go.RowKit Go.Proofs.YtbjaiphfehnncaaDoorW.PrintWords Go.Proofs.YtbjaiphfehnncaaDoorW.PrintLast Go.Proofs.YtbjaiphfehnncaaDoorW.PrintMore
attribute [local go_sem] max2_int min2_int max_two min_two max_three min_three max_four min_four   -- for this text's walks alone
attribute [local go_sem] fieldA23_0 fieldA23_1 fieldA23_2
theorem zeroB_ok (v : Nat) : dB (zeroB v) = true ∧ (zeroB v).size ≠ 0 ∧ vB (zeroB v) = v := by
  unfold zeroB
  by_cases h : v = 0
  · rw [if_pos h, h]; exact ⟨rfl, by decide, rfl⟩
  · rw [if_neg h]; exact ⟨dB_digB v, fun e => h (digB_empty_iff.1 e), vB_digB v⟩
theorem zeroB_size {v k : Nat} (h : (digB v).size ≤ k) (hk : 1 ≤ k) : (zeroB v).size ≤ k := by
  unfold zeroB
  by_cases h0 : v = 0
  · rw [if_pos h0]; exact hk
  · rw [if_neg h0]; exact h
theorem digitsP {v k : Nat} (h : (digB v).size ≤ k) (hk : k ≤ 1000000) : ten_Digits.f (limbs v) = some (zeroB v) := by
  have := limbs_len_digB v
  unfold ten_Digits.f; rw [if_pos ⟨limbs_good v, by omega⟩, limbs_val]
theorem madeP {b : Bool} {v : Nat} {e : Int} (hz : (digB v).size ≤ 50000) (h1 : -100000 ≤ e) (h2 : e ≤ 100000) : arith_made.f b (limbs v) e = some (resD (sg b v) e) := by
  obtain ⟨d1, d2, d3⟩ := zeroB_ok v
  have d4 := zeroB_size (k := 50000) hz (by decide)
  unfold arith_made.f
  rw [digitsP hz (by decide)]
  simp only [Option.bind_some]
  rw [normP ⟨d1, d2, by omega, h1, h2⟩, d3, resD_sg]
  simp only [Option.bind_some]
  cases b
  · simp
  · have : ((limbs v).length : Int) > 0 ↔ v ≠ 0 := by
      constructor
      · intro h e; rw [e, limbs_zero] at h; simp at h
      · intro h
        have : (limbs v).length ≠ 0 := fun e => h (limbs_nil_iff.1 (List.eq_nil_of_length_eq_zero e))
        omega
    simp only [if_true, Bool.true_and, decide_eq_decide.2 this]
end Go.Proofs.YtbjaiphfehnncaaDoor.Px
end
section
namespace Go.Proofs.YtbjaiphfehnncaaDoor.Px
open Fig Go.RowKit Go.Proofs.YtbjaiphfehnncaaDoorW.PrintWords Go.Proofs.YtbjaiphfehnncaaDoorW.PrintLast Go.Proofs.YtbjaiphfehnncaaDoorW.PrintMore
attribute [local go_sem] max2_int min2_int max_two min_two max_three min_three max_four min_four   -- for this text's walks alone
attribute [local go_sem] fieldA23_0 fieldA23_1 fieldA23_2
theorem Mul_loop (a b : List Int) (ga : goodL a = true) (gb : goodL b = true) (la : a.length ≤ 1000000) (lb : b.length ≤ 1000000) : ∀ (d n : Nat) (x : List Int), b.length - n = d → n ≤ b.length → goodL x = true → x.length = a.length + b.length + 1 → valL x = valL a * valL (b.take n) →
    Ev (fun k => mul_Mul.l0 k a x b (b.length : Int) (n : Int)) (limbs (valL a * valL b))
  | 0, n, x, h1, h2, gx, hx, hv => by
    refine evDone (r' := limbs (valL x)) (fun k => ?_) ?_
    · simp only [mul_Mul.l0, nat_Trim.f]; rw [if_neg (by omega), trimF_eq gx (by omega)]; rfl
    · rw [hv, List.take_of_length_le (by omega)]
  | d + 1, n, x, h1, h2, gx, hx, hv => by
    have hnb : n < b.length := by omega
    have pb := goodL_iff.1 gb _ (List.getElem_mem hnb)
    obtain ⟨y, hy⟩ : ∃ v : Nat, b[n] = (v : Int) := ⟨b[n].toNat, by omega⟩
    have e : valL (b.take (n + 1)) = valL (b.take n) + 1000000000 ^ n * y := by
      rw [List.take_succ_eq_append_getElem hnb, valL_snoc, hy, Int.toNat_natCast, List.length_take, Nat.min_eq_left (by omega)]
    have key : valL x + 1000000000 ^ n * (valL a * y) = valL a * valL (b.take (n + 1)) := by
      rw [hv, e, Nat.mul_add, Nat.mul_left_comm (1000000000 ^ n)]
    have hlt : valL x + 1000000000 ^ n * (valL a * y) < 1000000000 ^ x.length := by
      rw [key, hx]
      have va := valL_lt ga
      have vb := valL_lt (goodL_take gb (n + 1))
      have h3 := Nat.mul_lt_mul'' va vb
      rw [← Nat.pow_add] at h3
      exact Nat.lt_of_lt_of_le h3 (Nat.pow_le_pow_right (by omega) (by rw [List.length_take]; omega))
    obtain ⟨r, hr, g1, g2, g3⟩ := row_ev (p := n) gx ga (show y < 1000000000 by omega) (by omega) (by omega) hlt
    refine Ev.step (f := fun k => (mul_row.f k x a (y : Int) (n : Int)).bind fun t => mul_Mul.l0 k a t b (b.length : Int) ((n + 1 : Nat) : Int)) (fun k => ?_) (Ev.bind hr (Mul_loop a b ga gb la lb d (n + 1) r (by omega) (by omega) g1 (by omega) (by rw [g3, key])))
    simp only [mul_Mul.l0]; rw [if_pos (by omega), if_pos (by omega), if_pos (by omega), rd_get hnb, hy, succ64 _ (by omega)]
theorem Mul_ev {a b : List Int} (ga : goodL a = true) (gb : goodL b = true) (la : a.length ≤ 1000000) (lb : b.length ≤ 1000000) : Ev (fun k => mul_Mul.f k a b) (limbs (valL a * valL b)) := by
  unfold mul_Mul.f
  rw [times_len _ _ la lb]
  have c1 : (0 : Int) ≤ ((a.length + b.length + 1 : Nat) : Int) := by omega
  have c2 : a.length + b.length + 1 ≤ 70368744177664 := by omega
  simp only [Int.toNat_natCast, c1, c2, if_true]
  exact Mul_loop a b ga gb la lb b.length 0 _ rfl (by omega) (goodL_replicate _) (by simp) (by rw [valL_replicate]; simp [valL])
end Go.Proofs.YtbjaiphfehnncaaDoor.Px
end
section
namespace Go.Proofs.YtbjaiphfehnncaaDoor.Px
open Fig Go.RowKit Go.Proofs.YtbjaiphfehnncaaDoorW.PrintWords Go.Proofs.YtbjaiphfehnncaaDoorW.PrintLast Go.Proofs.YtbjaiphfehnncaaDoorW.PrintMore
attribute [local go_sem] max2_int min2_int max_two min_two max_three min_three max_four min_four   -- for this text's walks alone
attribute [local go_sem] fieldA23_0 fieldA23_1 fieldA23_2
theorem mulP_ev {a b : Bool} {s t : ByteArray} {e f : Int} (h : OkS s e) (g : OkS t f) : Ev (fun k => arith_Mul.f k a s e b t f) (prodD a (vB s) e b (vB t) f) := by
  have hsz := h.sz
  have hlo := h.lo
  have hhi := h.hi
  have gsz := g.sz
  have glo := g.lo
  have ghi := g.hi
  have hs := h.ok.val
  have gs := g.ok.val
  have hm := digB_mul_le (p := 10000) (q := 10000) (show (digB (vB s)).size ≤ 10000 by omega) (show (digB (vB t)).size ≤ 10000 by omega)
  have lx := coef_len h.ok
  have ly := coef_len g.ok
  unfold arith_Mul.f
  refine evE (coefP h.ok) (evE (coefP g.ok) (Ev.bind (Mul_ev (limbs_good _) (limbs_good _) (by omega) (by omega)) ?_))
  rw [limbs_val, limbs_val, w64 (x := e + f) (by omega) (by omega)]
  refine evE (madeP (by omega) (by omega) (by omega)) ?_
  rw [sg_mul]; exact Ev.now _
end Go.Proofs.YtbjaiphfehnncaaDoor.Px
end
section
namespace Go.Proofs.YtbjaiphfehnncaaDoor.Px
open Fig Go.RowKit Go.Proofs.YtbjaiphfehnncaaDoorW.PrintWords Go.Proofs.YtbjaiphfehnncaaDoorW.PrintLast Go.Proofs.YtbjaiphfehnncaaDoorW.PrintMore
attribute [local go_sem] max2_int min2_int max_two min_two max_three min_three max_four min_four   -- for this text's walks alone
attribute [local go_sem] fieldA23_0 fieldA23_1 fieldA23_2
theorem addP {a b : Bool} {s t : ByteArray} {e f : Int} (h : OkS s e) (g : OkS t f) : arith_Add.f a s e b t f = some (sumD a (vB s) e b (vB t) f) := by
  have hs := h.ok.val
  have hsz := h.sz
  have hlo := h.lo
  have hhi := h.hi
  have gs := g.ok.val
  have gsz := g.sz
  have glo := g.lo
  have ghi := g.hi
  have hm : mn e f = min e f := by unfold mn; omega
  obtain ⟨m, hm2⟩ : ∃ m, m = min e f := ⟨_, rfl⟩
  have x1 := size_vZ a (n := vB s) (p := 10000) e m (by omega)
  have y1 := size_vZ b (n := vB t) (p := 10000) f m (by omega)
  rw [vZ_natAbs] at x1 y1
  have lx := coef_len h.ok
  have ly := coef_len g.ok
  have s1 : ten_Shift.f (limbs (vB s)) (wrap64 (e - m)) = some (limbs (atE (vB s) e m)) := by
    rw [w64 (x := e - m) (by omega) (by omega), shiftP (limbs_good _) (by omega) (by omega), limbs_val]; rfl
  have s2 : ten_Shift.f (limbs (vB t)) (wrap64 (f - m)) = some (limbs (atE (vB t) f m)) := by
    rw [w64 (x := f - m) (by omega) (by omega), shiftP (limbs_good _) (by omega) (by omega), limbs_val]; rfl
  unfold arith_Add.f
  rw [hm, ← hm2, coefP h.ok]
  simp only [Option.bind_some]
  rw [s1]
  simp only [Option.bind_some]
  rw [coefP g.ok]
  simp only [Option.bind_some]
  rw [s2]
  simp only [Option.bind_some]
  rw [sumD_at (k := m) (by omega) (by omega)]
  unfold vZ
  obtain ⟨x, hx⟩ : ∃ x, x = atE (vB s) e m := ⟨_, rfl⟩
  obtain ⟨y, hy⟩ : ∃ y, y = atE (vB t) f m := ⟨_, rfl⟩
  rw [← hx, ← hy]
  rw [← hx] at x1
  rw [← hy] at y1
  have x2 : (digB x).size ≤ 30000 := by omega
  have y2 : (digB y).size ≤ 30000 := by omega
  have l1 := limbs_len_digB x
  have l2 := limbs_len_digB y
  cases hab : (a == b)
  · rw [if_neg (by decide)]
    by_cases hl : x < y
    · have q1 : nat_Sub.f (limbs x) (limbs y) = some ([], false) := subF_lt (limbs_good _) (limbs_good _) (by omega) (by omega) (by rw [limbs_val, limbs_val]; exact hl)
      have q2 : nat_Sub.f (limbs y) (limbs x) = some (limbs (y - x), true) := by
        have := subF_ge (limbs_good y) (limbs_good x) (by omega) (by omega) (by rw [limbs_val, limbs_val]; omega)
        rwa [limbs_val, limbs_val] at this
      rw [q1]
      simp only [Option.bind_some]
      rw [if_neg (by decide), q2]
      simp only [Option.bind_some]
      have := digB_mono (Nat.sub_le y x) y2
      rw [madeP (by omega) (by omega) (by omega), sg_sub' hab (by omega)]; rfl
    · have q1 : nat_Sub.f (limbs x) (limbs y) = some (limbs (x - y), true) := by
        have := subF_ge (limbs_good x) (limbs_good y) (by omega) (by omega) (by rw [limbs_val, limbs_val]; omega)
        rwa [limbs_val, limbs_val] at this
      rw [q1]
      simp only [Option.bind_some]
      rw [if_pos trivial]
      have := digB_mono (Nat.sub_le x y) x2
      rw [madeP (by omega) (by omega) (by omega), sg_sub hab (by omega)]; rfl
  · obtain rfl := beq_iff_eq.1 hab
    have q1 : nat_Add.f (limbs x) (limbs y) = some (limbs (x + y)) := by
      have := addF_eq (limbs_good x) (limbs_good y) (by omega) (by omega)
      rwa [limbs_val, limbs_val] at this
    rw [if_pos rfl, q1]
    simp only [Option.bind_some]
    have := digB_add_le x2 y2
    rw [madeP (by omega) (by omega) (by omega), sg_add]; rfl
end Go.Proofs.YtbjaiphfehnncaaDoor.Px
end
section
namespace Go.Proofs.YtbjaiphfehnncaaDoor.Px
open Fig Go.RowKit Go.Proofs.YtbjaiphfehnncaaDoorW.PrintWords Go.Proofs.YtbjaiphfehnncaaDoorW.PrintLast Go.Proofs.YtbjaiphfehnncaaDoorW.PrintMore
attribute [local go_sem] max2_int min2_int max_two min_two max_three min_three max_four min_four   -- for this text's walks alone
attribute [local go_sem] fieldA23_0 fieldA23_1 fieldA23_2
theorem subP {a b : Bool} {s t : ByteArray} {e f : Int} (h : OkS s e) (g : OkS t f) : arith_Sub.f a s e b t f = some (sumD a (vB s) e (!b) (vB t) f) := by
  unfold arith_Sub.f; rw [addP h g]; rfl
end Go.Proofs.YtbjaiphfehnncaaDoor.Px
end
section
namespace Go.Proofs.YtbjaiphfehnncaaDoor.Px
open Fig Go.RowKit Go.Proofs.YtbjaiphfehnncaaDoorW.PrintWords Go.Proofs.YtbjaiphfehnncaaDoorW.PrintLast Go.Proofs.YtbjaiphfehnncaaDoorW.PrintMore
attribute [local go_sem] max2_int min2_int max_two min_two max_three min_three max_four min_four   -- for this text's walks alone
attribute [local go_sem] fieldA23_0 fieldA23_1 fieldA23_2
theorem negP {b : Bool} {s : ByteArray} {e : Int} (h : OkD s e) : arith_Neg.f b s e = some (!b, nD (vB s), nE (vB s) e) := by
  unfold arith_Neg.f; rw [normP h]; rfl
end Go.Proofs.YtbjaiphfehnncaaDoor.Px
end
section
namespace Go.Proofs.YtbjaiphfehnncaaDoor.Px
open Fig Go.RowKit Go.Proofs.YtbjaiphfehnncaaDoorW.PrintWords Go.Proofs.YtbjaiphfehnncaaDoorW.PrintLast Go.Proofs.YtbjaiphfehnncaaDoorW.PrintMore
attribute [local go_sem] max2_int min2_int max_two min_two max_three min_three max_four min_four   -- for this text's walks alone
attribute [local go_sem] fieldA23_0 fieldA23_1 fieldA23_2
theorem scaleP {b : Bool} {s : ByteArray} {e n : Int} (h : OkD s (e + n)) (h1 : -1000000 ≤ e) (h2 : e ≤ 1000000) (h3 : -1000000 ≤ n) (h4 : n ≤ 1000000) : arith_Scale.f b s e n = some (b, nD (vB s), nE (vB s) (e + n)) := by
  unfold arith_Scale.f; rw [w64 (x := e + n) (by omega) (by omega), normP h]; rfl
end Go.Proofs.YtbjaiphfehnncaaDoor.Px
end
section
namespace Go.Proofs.YtbjaiphfehnncaaDoor.Px
open Fig Go.RowKit Go.Proofs.YtbjaiphfehnncaaDoorW.PrintWords Go.Proofs.YtbjaiphfehnncaaDoorW.PrintLast Go.Proofs.YtbjaiphfehnncaaDoorW.PrintMore
attribute [local go_sem] max2_int min2_int max_two min_two max_three min_three max_four min_four   -- for this text's walks alone
attribute [local go_sem] fieldA23_0 fieldA23_1 fieldA23_2
theorem nD_lit {n m k : Nat} {s : ByteArray} (h : n = m * 10 ^ k) (hm : m % 10 ≠ 0) (hd : dB s = true) (hv : vB s = m) (hs : stripB s = s) : nD n = s := by
  rw [h, nD_pow, nD_of hm, ← hv, ← stripB_eq hd, hs]
theorem answers06_ev : Ev (fun k => figureheadlaw06_answers.f k) true := by
  have ok1 : OkS (⟨#[49]⟩ : ByteArray) 0 := OkS.of_good (by decide)
  have ok2 : OkS (⟨#[50, 53]⟩ : ByteArray) (-2) := OkS.of_good (by decide)
  have ok3 : OkS (⟨#[50, 53]⟩ : ByteArray) (-2 + 2) := OkS.of_good (by decide)
  have v1 : vB (⟨#[49]⟩ : ByteArray) = 1 := by decide
  have v2 : vB (⟨#[50, 53]⟩ : ByteArray) = 25 := by decide
  have n75 : nD 75 = (⟨#[55, 53]⟩ : ByteArray) := nD_lit (m := 75) (k := 0) (by decide) (by decide) (by decide) (by decide) (by decide)
  have n625 : nD 625 = (⟨#[54, 50, 53]⟩ : ByteArray) := nD_lit (m := 625) (k := 0) (by decide) (by decide) (by decide) (by decide) (by decide)
  have n25 : nD 25 = (⟨#[50, 53]⟩ : ByteArray) := nD_lit (m := 25) (k := 0) (by decide) (by decide) (by decide) (by decide) (by decide)
  have e75 : nE 75 (-2) = -2 := nE_of (by decide)
  have e625 : nE 625 (-4) = -4 := nE_of (by decide)
  have e25 : nE 25 0 = 0 := nE_of (by decide)
  have r1 : sumD false 1 0 (!false) 25 (-2) = (false, (⟨#[55, 53]⟩ : ByteArray), -2) := by
    show (zN 75, nD 75, nE 75 (-2)) = _
    rw [n75, e75]; rfl
  have r2 : prodD false 25 (-2) false 25 (-2) = (false, (⟨#[54, 50, 53]⟩ : ByteArray), -4) := by
    show (zN 625, nD 625, nE 625 (-4)) = _
    rw [n625, e625]; rfl
  unfold figureheadlaw06_answers.f
  refine evE (subP ok1 ok2) ?_
  rw [v1, v2, r1]
  refine evT (by simp [ByteArray.toList_eq]) (Ev.bind (mulP_ev ok2 ok2) ?_)
  rw [v2, r2]
  refine evT (by simp [ByteArray.toList_eq]) (evE (scaleP ok3.ok (by decide) (by decide) (by decide) (by decide)) ?_)
  rw [v2, n25, show nE 25 (-2 + 2) = 0 from e25]
  refine evT (by simp [ByteArray.toList_eq]) (evE (negP ok1.ok) ?_)
  exact Ev.now true
end Go.Proofs.YtbjaiphfehnncaaDoor.Px
end
section
namespace Go.Proofs.YtbjaiphfehnncaaDoor.Px
open Fig Go.RowKit Go.Proofs.YtbjaiphfehnncaaDoorW.PrintWords Go.Proofs.YtbjaiphfehnncaaDoorW.PrintLast Go.Proofs.YtbjaiphfehnncaaDoorW.PrintMore
attribute [local go_sem] max2_int min2_int max_two min_two max_three min_three max_four min_four   -- for this text's walks alone
attribute [local go_sem] fieldA23_0 fieldA23_1 fieldA23_2
theorem nD_nought_list (n : Nat) : (nD n).toList = ([48] : List UInt8) ↔ n = 0 := by
  rw [← nD_nought_iff]
  constructor
  · intro h; apply B_ext; rw [← ByteArray.toList_eq, h]; rfl
  · intro h; rw [h, ByteArray.toList_eq]; rfl
theorem plainP (b : Bool) (n : Nat) (x : Int) : figureheadref05_plain.f b (nD n) x = some (b && decide (n ≠ 0), nD n, x) := by
  unfold figureheadref05_plain.f
  by_cases h : n = 0
  · rw [if_pos ((nD_nought_list n).2 h)]; simp [h]
  · rw [if_neg (fun hh => h ((nD_nought_list n).1 hh))]; simp [h]
end Go.Proofs.YtbjaiphfehnncaaDoor.Px
end
section
namespace Go.Proofs.YtbjaiphfehnncaaDoor.Px
open Fig Go.RowKit Go.Proofs.YtbjaiphfehnncaaDoorW.PrintWords Go.Proofs.YtbjaiphfehnncaaDoorW.PrintLast Go.Proofs.YtbjaiphfehnncaaDoorW.PrintMore
attribute [local go_sem] max2_int min2_int max_two min_two max_three min_three max_four min_four   -- for this text's walks alone
attribute [local go_sem] fieldA23_0 fieldA23_1 fieldA23_2
theorem digB_bt {n : Nat} (h : n ≠ 0) : bt (digB n) (((digB n).size : Int) - 1) = ((48 + n % 10 : Nat) : Int) := by
  have hs := digB_ten_size h
  have hl := digB_ten_last h
  have hlt : (digB (n / 10)).size < (digB n).size := by omega
  rw [show ((digB n).size : Int) - 1 = ((digB (n / 10)).size : Int) by omega, bt_get hlt]
  have hg := List.getElem?_eq_getElem (l := (digB n).data.toList) (i := (digB (n / 10)).size) (by rw [← size_eq]; exact hlt)
  rw [hl] at hg
  rw [← Option.some.inj hg, dig_toNat]
theorem Norm05_loop (b b2 : Bool) (s2 : ByteArray) (e2 : Int) : ∀ (d n : Nat) (e : Int), n ≠ 0 → n < d → (digB n).size ≤ 1000000 → -1000000 ≤ e → e + ((digB n).size : Int) ≤ 2000000 → Ev (fun k => figureheadref05_Norm.l0 k (digB n) e b s2 e2) (b, nD n, nE n e)
  | 0, n, e, h0, hd, hz, h1, h2 => absurd hd (by omega)
  | d + 1, n, e, h0, hd, hz, h1, h2 => by
    have hs := digB_ten_size h0
    have hb := digB_bt h0
    have hw : wrap64 (((digB n).size : Int) - 1) = ((digB n).size : Int) - 1 := w64 (by omega) (by omega)
    by_cases hm : n % 10 = 0
    · have h3 : n / 10 ≠ 0 := by omega
      have h4 : n / 10 < d := by have := div10_lt h0; omega
      have e1 : nD n = nD (n / 10) := by
        conv => lhs; rw [show n = n / 10 * 10 ^ 1 by omega]
        exact nD_pow _ _
      have e2' : nE n e = nE (n / 10) (e + 1) := by
        conv => lhs; rw [show n = n / 10 * 10 ^ 1 by omega]
        exact nE_pow _ _ _
      rw [e1, e2']
      refine Ev.step (f := fun k => figureheadref05_Norm.l0 k (digB (n / 10)) (e + 1) b s2 e2) (fun k => ?_) (Norm05_loop b b2 s2 e2 d (n / 10) (e + 1) h3 h4 (by omega) (by omega) (by omega))
      simp only [figureheadref05_Norm.l0]
      rw [hw, if_pos (by omega), if_pos (by omega), hb, if_pos (by omega), if_pos (by omega), w64 (x := e + 1) (by omega) (by omega)]
      rw [show (((digB n).size : Int) - 1).toNat = (digB (n / 10)).size by omega, digB_ten_init h0]
    · rw [nD_of hm, nE_of hm]
      refine evDone (r' := (b, digB n, e)) (fun k => ?_) rfl
      simp only [figureheadref05_Norm.l0]
      rw [hw, if_pos (by omega), if_pos (by omega), hb, if_neg (by omega)]
theorem Norm05_any {b : Bool} {s : ByteArray} {e : Int} (hd : dB s = true) (hz : s.size ≤ 1000000) (h1 : -1000000 ≤ e) (h2 : e ≤ 1000000) : Ev (fun k => figureheadref05_Norm.f k b s e) (b, nD (vB s), nE (vB s) e) := by
  have hv : (digB (vB s)).size ≤ s.size := digs_size_lt (vB_lt hd)
  unfold figureheadref05_Norm.f
  refine Ev.bind (StripD_ev (by omega) hd) ?_
  by_cases h0 : vB s = 0
  · simp only [digB_toList_nil.2 h0, if_true]
    rw [h0]
    exact Ev.now _
  · have h3 : ¬ (digB (vB s)).toList = ([] : List UInt8) := fun hh => h0 (digB_toList_nil.1 hh)
    simp only [h3, if_false]
    exact Norm05_loop b b s e (vB s + 1) (vB s) e h0 (by omega) (by omega) (by omega) (by omega)
end Go.Proofs.YtbjaiphfehnncaaDoor.Px
end
section
namespace Go.Proofs.YtbjaiphfehnncaaDoor.Px
open Fig Go.RowKit Go.Proofs.YtbjaiphfehnncaaDoorW.PrintWords Go.Proofs.YtbjaiphfehnncaaDoorW.PrintLast Go.Proofs.YtbjaiphfehnncaaDoorW.PrintMore
attribute [local go_sem] max2_int min2_int max_two min_two max_three min_three max_four min_four   -- for this text's walks alone
attribute [local go_sem] fieldA23_0 fieldA23_1 fieldA23_2
theorem vB_nought_append (s : ByteArray) : vB ((⟨#[48]⟩ : ByteArray) ++ s) = vB s := by
  rw [vB_append, show vB (⟨#[48]⟩ : ByteArray) = 0 from rfl, Nat.zero_mul, Nat.zero_add]
theorem Make_ev {b : Bool} {s : ByteArray} {e : Int} (hd : dB s = true) (hz : s.size ≤ 900000) (h1 : -1000000 ≤ e) (h2 : e ≤ 1000000) : Ev (fun k => figureheadref05_Make.f k b s e) (b, nD (vB s), nE (vB s) e) := by
  unfold figureheadref05_Make.f
  refine evT (by omega) ?_
  have hs : ((⟨#[48]⟩ : ByteArray) ++ s).size = 1 + s.size := by rw [ByteArray.size_append]; rfl
  have := Norm05_any (b := b) (s := (⟨#[48]⟩ : ByteArray) ++ s) (e := e) (dB_append.2 ⟨rfl, hd⟩) (by omega) h1 h2
  rw [vB_nought_append] at this
  exact Ev.bind this (Ev.now _)
theorem MakeD_ev {b : Bool} {n : Nat} {e : Int} (hz : (digB n).size ≤ 900000) (h1 : -1000000 ≤ e) (h2 : e ≤ 1000000) : Ev (fun k => figureheadref05_Make.f k b (digB n) e) (b, nD n, nE n e) := by
  have := Make_ev (b := b) (s := digB n) (e := e) (dB_digB n) hz h1 h2
  rwa [vB_digB] at this
end Go.Proofs.YtbjaiphfehnncaaDoor.Px
end
section
namespace Go.Proofs.YtbjaiphfehnncaaDoor.Px
open Fig Go.RowKit Go.Proofs.YtbjaiphfehnncaaDoorW.PrintWords Go.Proofs.YtbjaiphfehnncaaDoorW.PrintLast Go.Proofs.YtbjaiphfehnncaaDoorW.PrintMore
attribute [local go_sem] max2_int min2_int max_two min_two max_three min_three max_four min_four   -- for this text's walks alone
attribute [local go_sem] fieldA23_0 fieldA23_1 fieldA23_2
theorem Product05_ev {a b : Bool} {s t : ByteArray} {e f : Int} (h : OkS s e) (g : OkS t f) : Ev (fun k => figureheadref05_Product.f k a s e b t f) (prodD a (vB s) e b (vB t) f) := by
  have hsz := h.sz
  have hlo := h.lo
  have hhi := h.hi
  have gsz := g.sz
  have glo := g.lo
  have ghi := g.hi
  have hs := h.ok.val
  have gs := g.ok.val
  have hm := digB_mul_le (p := 10000) (q := 10000) (show (digB (vB s)).size ≤ 10000 by omega) (show (digB (vB t)).size ≤ 10000 by omega)
  unfold figureheadref05_Product.f
  refine Ev.bind (StripD_ev (by omega) h.d) (Ev.bind (StripD_ev (by omega) g.d) (Ev.bind (Times_ev (dB_digB _) (dB_digB _) (by omega) (by omega)) ?_))
  rw [vB_digB, vB_digB, w64 (x := e + f) (by omega) (by omega)]
  refine Ev.bind (MakeD_ev (by omega) (by omega) (by omega)) (evE (plainP _ _ _) ?_)
  unfold prodD
  rw [← sg_mul, resD_sg]; exact Ev.now _
end Go.Proofs.YtbjaiphfehnncaaDoor.Px
end
section
namespace Go.Proofs.YtbjaiphfehnncaaDoor.Px
open Fig Go.RowKit Go.Proofs.YtbjaiphfehnncaaDoorW.PrintWords Go.Proofs.YtbjaiphfehnncaaDoorW.PrintLast Go.Proofs.YtbjaiphfehnncaaDoorW.PrintMore
attribute [local go_sem] max2_int min2_int max_two min_two max_three min_three max_four min_four   -- for this text's walks alone
attribute [local go_sem] fieldA23_0 fieldA23_1 fieldA23_2
theorem ArithMuls_pure (a0_0 : Bool) (a0_1 : ByteArray) (a0_2 : Int) (a1_0 : Bool) (a1_1 : ByteArray) (a1_2 : Int) (w0_1 : a0_1.size ≤ 140737488351232) (w0_2 : (Lit.int .i64 a0_2).wf = true) (w1_1 : a1_1.size ≤ 140737488351232) (w1_2 : (Lit.int .i64 a1_2).wf = true) : ∃ k, figureheadlaw06_ArithMuls.f k a0_0 a0_1 a0_2 a1_0 a1_1 a1_2 = some true := by
  refine Ev.rounds (g := fun k => figureheadlaw06_ArithMuls.f k a0_0 a0_1 a0_2 a1_0 a1_1 a1_2) ?_
  unfold figureheadlaw06_ArithMuls.f
  refine Ev.bind (good06_ev (by simp) (by simp; exact ⟨w0_1, w1_1⟩)) ?_
  cases hg : [(⟨a0_0, a0_1, a0_2⟩ : S23), (⟨a1_0, a1_1, a1_2⟩ : S23)].all fun x => goodD x.f1 x.f2 && decide (x.f1.size ≤ 200)
  · exact evF (by decide) (Ev.bind answers06_ev (Ev.now true))
  obtain ⟨⟨g1, z1⟩, g2, z2⟩ : (goodD a0_1 a0_2 = true ∧ a0_1.size ≤ 200) ∧ goodD a1_1 a1_2 = true ∧ a1_1.size ≤ 200 := by simpa using hg
  have ok1 := OkS.of_good g1
  have ok2 := OkS.of_good g2
  refine evT rfl (Ev.bind answers06_ev (evT rfl (Ev.bind (mulP_ev ok1 ok2) (Ev.bind (Product05_ev ok1 ok2) ?_))))
  exact evIs (Ev.now _) (by simp)
end Go.Proofs.YtbjaiphfehnncaaDoor.Px
end
section
namespace Go.Proofs.YtbjaiphfehnncaaDoorW.PrintWords
open Go.ChangeShapes Go.WideShapes
end Go.Proofs.YtbjaiphfehnncaaDoorW.PrintWords
end
section
namespace Fig
open Go Go.ChangeShapes
end Fig
end
section
namespace Fig
open Go Go.Proofs Go.Proofs.YtbjaiphfehnncaaDoor
set_option maxRecDepth 100000
def plainL : List (String × DataW Unit) := [("unicode/utf8.acceptRanges", Rows.laid_unicode_utf8_acceptRanges), ("figurehead/ten.powers", Rows.laid_figurehead_ten_powers), ("unicode/utf8.first", Rows.laid_unicode_utf8_first)]
def laidL : List (String × DataW Unit) := [("unicode/utf8.acceptRanges", Rows.laid_unicode_utf8_acceptRanges), ("figurehead/ten.powers", Rows.laid_figurehead_ten_powers), ("unicode/utf8.first", Rows.laid_unicode_utf8_first)]
noncomputable def startW (os : Os) : World := World.laidAll Tryd.prog os plainL
theorem startW_os (os : Os) : (startW os).os = os := World.laidAll_os _ _ _
theorem met (os : Os) (args : Array Value) : laidMetH Tryd.prog laidL ((startW os).forCall (fun _ _ => 0) ⟨#[], args, []⟩).memory := by
  rw [MakeChecks.laidMetH_plain _ _ _ (by kernel_rfl)]; exact laidMet_laidAll _ (by kernel_rfl) (by kernel_rfl)
theorem plainFilter : (laidL.filter fun x => x.2.handleName?.isNone) = plainL := by kernel_rfl
theorem plain_of {W : World} (h : laidMetH Tryd.prog laidL W) : laidMet Tryd.prog plainL W := plainFilter ▸ (laidMetH_iff.1 h).1
theorem pows_of {W : World} (h : laidMetH Tryd.prog laidL W) : ∀ i, i < 9 → W.cell? ⟨0, i, none⟩ = some (.int .u32 (([1, 10, 100, 1000, 10000, 100000, 1000000, 10000000, 100000000] : List Int).getD i 0)) := by
  have gN : Tryd.prog.globalNamed "figurehead/ten.powers" = some 0 := by kernel_rfl
  have gT : (Tryd.prog.globals[0]?).map (·.type) = some 72 := by kernel_rfl
  have hT := Lib.tabIs_of_head (k := .u32) (zs := [1, 10, 100, 1000, 10000, 100000, 1000000, 10000000, 100000000]) gN gT Tryd.underlying72 Tryd.underlying47 (by kernel_rfl) (by kernel_rfl) (laidMet.tail (plain_of h))
  exact fun i hi => hT.cell gN i hi
theorem of_laid {W : World} (h : laidMetH Tryd.prog laidL W) : Glob W := ⟨pows_of h⟩
end Fig
end
section
namespace Fig
open Go Go.ChangeShapes Go.WideShapes Go.RowKit Go.Deep Go.WideElems Go.Joins
theorem open_dec {H : Type} {enc : TypeId × Value → H} {P : Program} {w : World} {base : Nat} {spare : Nat → Bool} {held : Bool} {r : Reach} {b0 : Nat} {t : TypeId} {f0 f1 f2 : Field} {v : Value} {d : DataW H} {p : List MemPlace} {k : IntKind} (hs : P.underlying t = some (.struct #[f0, f1, f2])) (hone : oneCellFields P #[f0, f1, f2] = true) (hC : P.cellsOf t = 3)
    (u0 : P.underlying f0.type = some .bool) (u1 : P.underlying f1.type = some .string) (u2 : P.underlying f2.type = some (.int k)) (hv : Value.okWide P w r b0 t v) (h : DataW.Trod enc P w base spare held t v d p) :
    ∃ (x : Bool) (s : ByteArray) (n : Int), v = .agg #[.bool x, .string s, .int k n] ∧ d = .agg [.lit (.bool x), .lit (.string s.data.toList), .lit (.int k n)] ∧ p = [] ∧ s.size ≤ maxLen ∧ (Lit.int k n).wf = true := by
  obtain ⟨v0, v1, v2, y0, y1, y2, n, rfl, rfl, rfl, h0, h1, h2⟩ := open_agg3 hs hone hC hv h
  obtain ⟨x, e0, rfl⟩ := DataW.trod_bool u0 h0
  obtain ⟨s, e1, rfl, hl⟩ := DataW.trod_string u1 h1
  obtain ⟨m, e2, rfl, hw⟩ := DataW.trod_int u2 h2
  simp only [List.cons.injEq, and_true] at e0 e1 e2
  subst e0 e1 e2
  exact ⟨x, s, m, rfl, rfl, rfl, hl, hw⟩
theorem shut_dec {H : Type} {enc : TypeId × Value → H} {P : Program} {w : World} {base : Nat} {spare : Nat → Bool} {held : Bool} {t : TypeId} {f0 f1 f2 : Field} {k : IntKind} {x : Bool} {s : ByteArray} {n : Int} (hs : P.underlying t = some (.struct #[f0, f1, f2])) (hone : oneCellFields P #[f0, f1, f2] = true) (hC : P.cellsOf t = 3)
    (u0 : P.underlying f0.type = some .bool) (u1 : P.underlying f1.type = some .string) (u2 : P.underlying f2.type = some (.int k)) (hl : s.size ≤ maxLen) (hw : (Lit.int k n).wf = true) :
    DataW.Trod enc P w base spare held t (.agg #[.bool x, .string s, .int k n]) (.agg [.lit (.bool x), .lit (.string s.data.toList), .lit (.int k n)]) [] :=
  shut_agg3 (y0 := (.lit (.bool x), [])) (y1 := (.lit (.string s.data.toList), [])) (y2 := (.lit (.int k n), [])) hs hone hC ⟨1, by simp [DataW.trod, u0]⟩ ⟨1, by simp [DataW.trod, u1, hl]⟩ ⟨1, by simp [DataW.trod, u2, hw]⟩
theorem sized_dec {H : Type} {P : Program} {ts : List TypeId} {ds : List (DataW H)} (h : (DataW.weightsEach P ts ds).all (· ≤ reachBytes) = true) {j : Nat} {t : TypeId} {f0 f1 f2 : Field} {x y : DataW H} {bytes : List UInt8} (ht : ts[j]? = some t) (hd : ds[j]? = some (.agg [x, .lit (.string bytes), y])) (hs : P.underlying t = some (.struct #[f0, f1, f2])) : bytes.length ≤ reachBytes := by
  have := List.all_eq_true.1 h _ (DataW.weights_mem_each ht hd bytes.length (by simp [DataW.weights, DataW.weightsEach, hs]))
  simpa using this
end Fig
end
