/- The functions that the law SigOrders reaches, told as plain functions, with what is proved of them, and the words they need (part 4). -/
import Derived.Test.YtjpokifkbclkiaaDoorCSigOrders0
import Derived.Test.YtjpokifkbclkiaaDoorCSigOrders1
import Derived.Test.YtjpokifkbclkiaaDoorCSigOrders3
import Derived.Test.YtjpokifkbclkiaaDoorCSigOrders2
import Derived.SizedLaws
import Derived.ChangeSlices
import Derived.LaidMore
import Derived.LaidHandle
import Derived.LaidSub
import Derived.OpenShut
import Derived.ChangeSame
import Derived.Lay
import Derived.Lib.LaidTab
import Derived.Test.YtjpokifkbclkiaaDoorRows
import Derived.Stop.LaidErr
import Derived.Lib.SmallJoins
import Derived.ChangeMaps5
set_option linter.unusedVariables false
set_option linter.unusedSimpArgs false
section
namespace Go.Proofs.YtjpokifkbclkiaaDoor.Px
open Fig Go.RowKit Go.Proofs.YtjpokifkbclkiaaDoorW.PrintWords Go.Proofs.YtjpokifkbclkiaaDoorW.PrintLast Go.Proofs.YtjpokifkbclkiaaDoorW.PrintMore
attribute [local go_sem] max2_int min2_int max_two min_two max_three min_three max_four min_four   -- for this text's walks alone
attribute [local go_sem high] eqA23
attribute [local go_sem] fieldA23_0 fieldA23_1 fieldA23_2
def figureheadlaw09_SigOrders.j0 : Nat → Int → Int → Bool → Bool → ByteArray → Int → Bool → ByteArray → Int → Option (Bool)
  | 0, _, _, _, _, _, _, _, _, _ => none
  | k + 1, x0, x9, x41, x496000, x496001, x496002, x497000, x497001, x497002 => if x41 = true then ((figureheadlaw09_answers.f k).bind fun t500 => (some t500)) else ((sig_Round.f k x0 x496000 x496001 x496002 x9).bind fun bt501 => ((sig_Round.f k x0 x497000 x497001 x497002 x9).bind fun bt506 => ((sig_Round.f k x0 bt501.1 bt501.2.1 bt501.2.2.1 x9).bind fun bt511 => ((figureheadlaw09_answers.f k).bind fun t516 => (if t516 = true then (if bt501.2.2.2 = 0 then (if bt506.2.2.2 = 0 then ((figureheadref05_Cmp.f k bt501.1 bt501.2.1 bt501.2.2.1 bt506.1 bt506.2.1 bt506.2.2.1).bind fun t517 => (if t517 ≤ 0 then (if bt511.2.2.2 = 0 then (some (bt511.1 == bt501.1 && (bt511.2.1.toList == bt501.2.1.toList && (bt511.2.2.1 == bt501.2.2.1)))) else (some false)) else (some false))) else (some false)) else (some false)) else (some false))))))
def figureheadlaw09_SigOrders.f (k : Nat) (a0 : Int) (a1_0 : Bool) (a1_1 : ByteArray) (a1_2 : Int) (a2_0 : Bool) (a2_1 : ByteArray) (a2_2 : Int) (a3 : Int) : Option (Bool) := (figureheadlaw09_good.f k a1_0 a1_1 a1_2).bind fun t497 => (if t497 = true then ((figureheadlaw09_good.f k a2_0 a2_1 a2_2).bind fun t498 => (if t498 = true then (if a0 < 0 then (figureheadlaw09_SigOrders.j0 k a0 (wrap64 ((wrap64 (Int.tmod a3 40)) + 1)) true a1_0 a1_1 a1_2 a2_0 a2_1 a2_2) else (if a0 > 6 then (figureheadlaw09_SigOrders.j0 k a0 (wrap64 ((wrap64 (Int.tmod a3 40)) + 1)) true a1_0 a1_1 a1_2 a2_0 a2_1 a2_2) else ((figureheadref05_Cmp.f k a1_0 a1_1 a1_2 a2_0 a2_1 a2_2).bind fun t499 => (figureheadlaw09_SigOrders.j0 k a0 (wrap64 ((wrap64 (Int.tmod a3 40)) + 1)) (decide (t499 > 0)) a1_0 a1_1 a1_2 a2_0 a2_1 a2_2)))) else (figureheadlaw09_SigOrders.j0 k a0 (wrap64 ((wrap64 (Int.tmod a3 40)) + 1)) true a1_0 a1_1 a1_2 a2_0 a2_1 a2_2))) else (figureheadlaw09_SigOrders.j0 k a0 (wrap64 ((wrap64 (Int.tmod a3 40)) + 1)) true a1_0 a1_1 a1_2 a2_0 a2_1 a2_2))
theorem figureheadlaw09_SigOrders.mono_l : ∀ k, (∀ y0 y1 y2 y3 y4 y5 y6 y7 y8, LeO (figureheadlaw09_SigOrders.j0 k y0 y1 y2 y3 y4 y5 y6 y7 y8) (figureheadlaw09_SigOrders.j0 (k + 1) y0 y1 y2 y3 y4 y5 y6 y7 y8))
  | 0 => fun _ _ _ _ _ _ _ _ _ r h => by simp [figureheadlaw09_SigOrders.j0] at h
  | k + 1 => by
    have ih0 := figureheadlaw09_SigOrders.mono_l k
    · intro y0 y1 y2 y3 y4 y5 y6 y7 y8
      unfold figureheadlaw09_SigOrders.j0
      repeat' first
      | (with_reducible exact ih0 _ _ _ _ _ _ _ _ _)
      | (with_reducible exact figureheadlaw09_answers.mono _)
      | (with_reducible exact figureheadlaw09_good.mono _ _ _ _)
      | (with_reducible exact figureheadref05_Cmp.mono _ _ _ _ _ _ _)
      | (with_reducible exact sig_Round.mono _ _ _ _ _ _)
      | (with_reducible exact LeO.refl _)
      | (with_reducible exact LeO.none _)
      | (with_reducible refine LeO.ite ?_ ?_)
      | (with_reducible refine LeO.bind ?_ (fun _ => ?_))
      | exact ih0 _ _ _ _ _ _ _ _ _
      | exact figureheadlaw09_answers.mono _
      | exact figureheadlaw09_good.mono _ _ _ _
      | exact figureheadref05_Cmp.mono _ _ _ _ _ _ _
      | exact sig_Round.mono _ _ _ _ _ _
      | exact LeO.none _
      | refine LeO.ite ?_ ?_
      | refine LeO.bind ?_ (fun _ => ?_)
theorem figureheadlaw09_SigOrders.mono : ∀ a0 a1 a2 a3 a4 a5 a6 a7 k, LeO (figureheadlaw09_SigOrders.f k a0 a1 a2 a3 a4 a5 a6 a7) (figureheadlaw09_SigOrders.f (k + 1) a0 a1 a2 a3 a4 a5 a6 a7) := by
  intro a0 a1 a2 a3 a4 a5 a6 a7 k
  have ih0 := figureheadlaw09_SigOrders.mono_l k
  unfold figureheadlaw09_SigOrders.f
  repeat' first
      | (with_reducible exact ih0 _ _ _ _ _ _ _ _ _)
      | (with_reducible exact figureheadlaw09_answers.mono _)
      | (with_reducible exact figureheadlaw09_good.mono _ _ _ _)
      | (with_reducible exact figureheadref05_Cmp.mono _ _ _ _ _ _ _)
      | (with_reducible exact sig_Round.mono _ _ _ _ _ _)
      | (with_reducible exact LeO.refl _)
      | (with_reducible exact LeO.none _)
      | (with_reducible refine LeO.ite ?_ ?_)
      | (with_reducible refine LeO.bind ?_ (fun _ => ?_))
      | exact ih0 _ _ _ _ _ _ _ _ _
      | exact figureheadlaw09_answers.mono _
      | exact figureheadlaw09_good.mono _ _ _ _
      | exact figureheadref05_Cmp.mono _ _ _ _ _ _ _
      | exact sig_Round.mono _ _ _ _ _ _
      | exact LeO.none _
      | refine LeO.ite ?_ ?_
      | refine LeO.bind ?_ (fun _ => ?_)
set_option maxHeartbeats 8000000 in
set_option maxRecDepth 100000 in
theorem figureheadlaw09_SigOrders.calls (k : Nat) (a0 : Int) (a1_0 : Bool) (a1_1 : ByteArray) (a1_2 : Int) (a2_0 : Bool) (a2_1 : ByteArray) (a2_2 : Int) (a3 : Int) (r : Bool) (w : World) (hG : Fig.Glob w) (HT : Aside0 (r = true)) (h : figureheadlaw09_SigOrders.f k a0 a1_0 a1_1 a1_2 a2_0 a2_1 a2_2 a3 = some r) :
    Calls Tryd.prog 11 #[.int .i64 a0, .agg #[.bool a1_0, .string a1_1, .int .i64 a1_2], .agg #[.bool a2_0, .string a2_1, .int .i64 a2_2], .int .u8 a3] w fun e w' => e = .returned (.bool r) ∧ Below w.heap.size w w' := by
  have hu23 := Tryd.underlying23
  have HG := Aside0.mk hG
  clear hG
  have HB := Aside0.mk (Below.refl w.heap.size w)
  have H : ((figureheadlaw09_good.f k a1_0 a1_1 a1_2).bind fun t497 => (if t497 = true then ((figureheadlaw09_good.f k a2_0 a2_1 a2_2).bind fun t498 => (if t498 = true then (if a0 < 0 then (figureheadlaw09_SigOrders.j0 k a0 (wrap64 ((wrap64 (Int.tmod a3 40)) + 1)) true a1_0 a1_1 a1_2 a2_0 a2_1 a2_2) else (if a0 > 6 then (figureheadlaw09_SigOrders.j0 k a0 (wrap64 ((wrap64 (Int.tmod a3 40)) + 1)) true a1_0 a1_1 a1_2 a2_0 a2_1 a2_2) else ((figureheadref05_Cmp.f k a1_0 a1_1 a1_2 a2_0 a2_1 a2_2).bind fun t499 => (figureheadlaw09_SigOrders.j0 k a0 (wrap64 ((wrap64 (Int.tmod a3 40)) + 1)) (decide (t499 > 0)) a1_0 a1_1 a1_2 a2_0 a2_1 a2_2)))) else (figureheadlaw09_SigOrders.j0 k a0 (wrap64 ((wrap64 (Int.tmod a3 40)) + 1)) true a1_0 a1_1 a1_2 a2_0 a2_1 a2_2))) else (figureheadlaw09_SigOrders.j0 k a0 (wrap64 ((wrap64 (Int.tmod a3 40)) + 1)) true a1_0 a1_1 a1_2 a2_0 a2_1 a2_2))) = some r := h
  clear h
  have HC5 := Aside0.mk H
  clear H
  go_enter Tryd.func11, Tryd.ntmps11
  go_upto_region 2 with (first | ((with_reducible refine gate_dst (N := 5) rfl ?_); refine box_event ?hg (N := 5) ?hd (cs := #[.bool a1_0, .string a1_1, .int .i64 a1_2]) (t := 23) ?hr ?_; (case hd => rfl); (case hg => rfl); (case hr => first | (go_simp; done) | (go_simp; rfl)); intro gb495 hg w6 hbox hb; have n0_ := Aside0.mk (below_step (by repeat (first | (with_reducible first | exact HB.out | apply below_alloc | apply pw_below_drewN | apply below_drew1) | exact HB.out)) hb); have n1_ := Aside0.mk (hbox); have n2_ := Aside0.mk ((by rw [hg]; exact (below_size (by repeat (first | (with_reducible first | exact HB.out | apply below_alloc | apply pw_below_drewN | apply below_drew1) | exact HB.out))) : w.heap.size ≤ gb495)); have n3_ := Aside0.mk ((by rw [hg]; exact (below_size (by repeat (first | (with_reducible first | exact HB.out | apply below_alloc | apply pw_below_drewN | apply below_drew1) | exact HB.out))) : w.heap.size ≤ gb495)); clear HB; have HB := n0_; have BK495 := n1_; have GW495 := n2_; have GE495 := n3_; clear n0_ n1_ n2_ n3_; clear hb hbox hg) | ((with_reducible refine gate_dst (N := 6) rfl ?_); refine box_event ?hg (N := 6) ?hd (cs := #[.bool a2_0, .string a2_1, .int .i64 a2_2]) (t := 23) ?hr ?_; (case hd => rfl); (case hg => rfl); (case hr => first | (go_simp; done) | (go_simp; rfl)); intro gb496 hg w7 hbox hb; have n0_ := Aside0.mk (blk_below (g := gb495) (o := .cells #[.bool a1_0, .string a1_1, .int .i64 a1_2] 23 (0, 0)) (by (with_reducible repeat (first | refine blk_drewN ?_ _ | refine blk_drew ?_ | refine blk_alloc ?_ _)); exact BK495.out) hb); have n1_ := Aside0.mk (below_step (by repeat (first | (with_reducible first | exact HB.out | apply below_alloc | apply pw_below_drewN | apply below_drew1 | refine below_set ?_ GE495.out) | exact HB.out)) hb); have n2_ := Aside0.mk (hbox); have n3_ := Aside0.mk ((by rw [hg]; exact (below_size (by repeat (first | (with_reducible first | exact HB.out | apply below_alloc | apply pw_below_drewN | apply below_drew1 | refine below_set ?_ GE495.out) | exact HB.out))) : w.heap.size ≤ gb496)); have n4_ := Aside0.mk ((by rw [hg]; exact (below_size (by repeat (first | (with_reducible first | exact HB.out | apply below_alloc | apply pw_below_drewN | apply below_drew1 | refine below_set ?_ GE495.out) | exact HB.out))) : w.heap.size ≤ gb496)); have n5_ := Aside0.mk ((by rw [hg]; exact Nat.ne_of_lt (blk_lt (g := gb495) (o := .cells #[.bool a1_0, .string a1_1, .int .i64 a1_2] 23 (0, 0)) (by (with_reducible repeat (first | refine blk_drewN ?_ _ | refine blk_drew ?_ | refine blk_alloc ?_ _)); exact BK495.out)) : gb495 ≠ gb496)); have n6_ := Aside0.mk ((by rw [hg]; exact Nat.ne_of_gt (blk_lt (g := gb495) (o := .cells #[.bool a1_0, .string a1_1, .int .i64 a1_2] 23 (0, 0)) (by (with_reducible repeat (first | refine blk_drewN ?_ _ | refine blk_drew ?_ | refine blk_alloc ?_ _)); exact BK495.out)) : gb496 ≠ gb495)); clear BK495; clear HB; have BK495 := n0_; have HB := n1_; have BK496 := n2_; have GW496 := n3_; have GE496 := n4_; have NB495_496 := n5_; have NB496_495 := n6_; clear n0_ n1_ n2_ n3_ n4_ n5_ n6_; clear hb hbox hg))
  (try simp only [Act.put, List.setIfInBounds_toArray, List.set_cons_zero, List.set_cons_succ])
  go_cut [41] (fun v41 wc => ∃ (kq : Nat) (x41_4 : Bool), v41 = .bool x41_4 ∧ Aside0 (figureheadlaw09_SigOrders.j0 kq a0 (wrap64 ((wrap64 (Int.tmod a3 40)) + 1)) x41_4 a1_0 a1_1 a1_2 a2_0 a2_1 a2_2 = some r) ∧ Aside0 (kq ≤ k) ∧ Aside0 (wc.heap[gb495]? = some (.cells #[.bool a1_0, .string a1_1, .int .i64 a1_2] 23 (0, 0))) ∧ Aside0 (wc.heap[gb496]? = some (.cells #[.bool a2_0, .string a2_1, .int .i64 a2_2] 23 (0, 0))) ∧ Aside0 (Below w.heap.size w wc))
  case first =>
    have H := HC5.out
    clear HC5
    replace H := Option.bind_eq_some_iff.mp H
    obtain ⟨t497, A80, H⟩ := H
    replace H : (if t497 = true then ((figureheadlaw09_good.f k a2_0 a2_1 a2_2).bind fun t498 => (if t498 = true then (if a0 < 0 then (figureheadlaw09_SigOrders.j0 k a0 (wrap64 ((wrap64 (Int.tmod a3 40)) + 1)) true a1_0 a1_1 a1_2 a2_0 a2_1 a2_2) else (if a0 > 6 then (figureheadlaw09_SigOrders.j0 k a0 (wrap64 ((wrap64 (Int.tmod a3 40)) + 1)) true a1_0 a1_1 a1_2 a2_0 a2_1 a2_2) else ((figureheadref05_Cmp.f k a1_0 a1_1 a1_2 a2_0 a2_1 a2_2).bind fun t499 => (figureheadlaw09_SigOrders.j0 k a0 (wrap64 ((wrap64 (Int.tmod a3 40)) + 1)) (decide (t499 > 0)) a1_0 a1_1 a1_2 a2_0 a2_1 a2_2)))) else (figureheadlaw09_SigOrders.j0 k a0 (wrap64 ((wrap64 (Int.tmod a3 40)) + 1)) true a1_0 a1_1 a1_2 a2_0 a2_1 a2_2))) else (figureheadlaw09_SigOrders.j0 k a0 (wrap64 ((wrap64 (Int.tmod a3 40)) + 1)) true a1_0 a1_1 a1_2 a2_0 a2_1 a2_2)) = some r := H
    have A8 := Aside0.mk A80
    clear A80
    by_cases c9 : t497 = true
    · subst c9
      have H1 : ((figureheadlaw09_good.f k a2_0 a2_1 a2_2).bind fun t498 => (if t498 = true then (if a0 < 0 then (figureheadlaw09_SigOrders.j0 k a0 (wrap64 ((wrap64 (Int.tmod a3 40)) + 1)) true a1_0 a1_1 a1_2 a2_0 a2_1 a2_2) else (if a0 > 6 then (figureheadlaw09_SigOrders.j0 k a0 (wrap64 ((wrap64 (Int.tmod a3 40)) + 1)) true a1_0 a1_1 a1_2 a2_0 a2_1 a2_2) else ((figureheadref05_Cmp.f k a1_0 a1_1 a1_2 a2_0 a2_1 a2_2).bind fun t499 => (figureheadlaw09_SigOrders.j0 k a0 (wrap64 ((wrap64 (Int.tmod a3 40)) + 1)) (decide (t499 > 0)) a1_0 a1_1 a1_2 a2_0 a2_1 a2_2)))) else (figureheadlaw09_SigOrders.j0 k a0 (wrap64 ((wrap64 (Int.tmod a3 40)) + 1)) true a1_0 a1_1 a1_2 a2_0 a2_1 a2_2))) = some r := by rw [if_pos rfl] at H; exact H
      clear H
      have H := H1
      clear H1
      replace H := Option.bind_eq_some_iff.mp H
      obtain ⟨t498, A100, H⟩ := H
      replace H : (if t498 = true then (if a0 < 0 then (figureheadlaw09_SigOrders.j0 k a0 (wrap64 ((wrap64 (Int.tmod a3 40)) + 1)) true a1_0 a1_1 a1_2 a2_0 a2_1 a2_2) else (if a0 > 6 then (figureheadlaw09_SigOrders.j0 k a0 (wrap64 ((wrap64 (Int.tmod a3 40)) + 1)) true a1_0 a1_1 a1_2 a2_0 a2_1 a2_2) else ((figureheadref05_Cmp.f k a1_0 a1_1 a1_2 a2_0 a2_1 a2_2).bind fun t499 => (figureheadlaw09_SigOrders.j0 k a0 (wrap64 ((wrap64 (Int.tmod a3 40)) + 1)) (decide (t499 > 0)) a1_0 a1_1 a1_2 a2_0 a2_1 a2_2)))) else (figureheadlaw09_SigOrders.j0 k a0 (wrap64 ((wrap64 (Int.tmod a3 40)) + 1)) true a1_0 a1_1 a1_2 a2_0 a2_1 a2_2)) = some r := H
      have A10 := Aside0.mk A100
      clear A100
      by_cases c11 : t498 = true
      · subst c11
        have H1 : (if a0 < 0 then (figureheadlaw09_SigOrders.j0 k a0 (wrap64 ((wrap64 (Int.tmod a3 40)) + 1)) true a1_0 a1_1 a1_2 a2_0 a2_1 a2_2) else (if a0 > 6 then (figureheadlaw09_SigOrders.j0 k a0 (wrap64 ((wrap64 (Int.tmod a3 40)) + 1)) true a1_0 a1_1 a1_2 a2_0 a2_1 a2_2) else ((figureheadref05_Cmp.f k a1_0 a1_1 a1_2 a2_0 a2_1 a2_2).bind fun t499 => (figureheadlaw09_SigOrders.j0 k a0 (wrap64 ((wrap64 (Int.tmod a3 40)) + 1)) (decide (t499 > 0)) a1_0 a1_1 a1_2 a2_0 a2_1 a2_2)))) = some r := by rw [if_pos rfl] at H; exact H
        clear H
        have H := H1
        clear H1
        by_cases c12 : a0 < 0
        · rw [if_pos c12] at H
          have c12b0 : decide (a0 < 0) = true := decide_eq_true c12
          clear c12
          (first | rw [c12b0] | (simp only [i64_w, i32_w]; rw [c12b0]) | skip)
          have H' := Aside0.mk H
          clear H
          have hnb13 := NB495_496.out
          have hnc13 := NB496_495.out
          have hcz14_0 : w7.cell? ⟨gb495, 0, none⟩ = some (.bool a1_0) := (blk_cell BK495.out 0).trans rfl
          have hcz14_1 : w7.cell? ⟨gb495, 1, none⟩ = some (.string a1_1) := (blk_cell BK495.out 1).trans rfl
          have hcz14_2 : w7.cell? ⟨gb495, 2, none⟩ = some (.int .i64 a1_2) := (blk_cell BK495.out 2).trans rfl
          have hfz14_0 := blk_frozen BK495.out 0
          have hfz14_1 := blk_frozen BK495.out 1
          have hfz14_2 := blk_frozen BK495.out 2
          go_wp2_with (first | ((with_reducible refine gate_callee (f := 23) rfl ?_); refine goesL_ (some 21) rfl rfl Tryd.func23 (by kernel_rfl) rfl #[.agg #[.bool a1_0, .string a1_1, .int .i64 a1_2]] rfl (by (try simp only [List.map_toArray]); (try simp only [List.map_cons]); (try simp only [List.map_nil]); first | done | rfl | (simp only [List.length_drop, List.length_take]; rfl)) ?_; (with_reducible refine (figureheadlaw09_good.calls k a1_0 a1_1 a1_2 true _ A8.out).mono ?_); rintro e w15 ⟨rfl, hb⟩; refine ⟨_, rfl, ?_⟩; have n0_ := Aside0.mk (blk_below (g := gb495) (o := .cells #[.bool a1_0, .string a1_1, .int .i64 a1_2] 23 (0, 0)) (by (with_reducible repeat (first | refine blk_drewN ?_ _ | refine blk_drew ?_ | refine blk_alloc ?_ _)); exact BK495.out) hb); have n1_ := Aside0.mk (blk_below (g := gb496) (o := .cells #[.bool a2_0, .string a2_1, .int .i64 a2_2] 23 (0, 0)) (by (with_reducible repeat (first | refine blk_drewN ?_ _ | refine blk_drew ?_ | refine blk_alloc ?_ _)); exact BK496.out) hb); have n2_ := Aside0.mk (below_step (by repeat (first | (with_reducible first | exact HB.out | apply below_alloc | apply pw_below_drewN | apply below_drew1 | refine below_set ?_ GE495.out | refine below_set ?_ GE496.out) | exact HB.out)) hb); clear BK495; clear BK496; clear HB; have BK495 := n0_; have BK496 := n1_; have HB := n2_; clear n0_ n1_ n2_; (try clear hb); (try clear hb2); (try clear hk); (try clear hi); have hcz16_0 : w15.cell? ⟨gb496, 0, none⟩ = some (.bool a2_0) := (blk_cell BK496.out 0).trans rfl; have hcz16_1 : w15.cell? ⟨gb496, 1, none⟩ = some (.string a2_1) := (blk_cell BK496.out 1).trans rfl; have hcz16_2 : w15.cell? ⟨gb496, 2, none⟩ = some (.int .i64 a2_2) := (blk_cell BK496.out 2).trans rfl; have hfz16_0 := blk_frozen BK496.out 0; have hfz16_1 := blk_frozen BK496.out 1; have hfz16_2 := blk_frozen BK496.out 2) | ((with_reducible refine gate_dst (N := 25) rfl ?_); (refine gate_guard (by rfl) ?_; dsimp only); (with_reducible refine gate_callee (f := 23) rfl ?_); refine goesL_ (some 25) rfl rfl Tryd.func23 (by kernel_rfl) rfl #[.agg #[.bool a2_0, .string a2_1, .int .i64 a2_2]] rfl (by (try simp only [List.map_toArray]); (try simp only [List.map_cons]); (try simp only [List.map_nil]); first | done | rfl | (simp only [List.length_drop, List.length_take]; rfl)) ?_; (with_reducible refine (figureheadlaw09_good.calls k a2_0 a2_1 a2_2 true _ A10.out).mono ?_); rintro e w17 ⟨rfl, hb⟩; refine ⟨_, rfl, ?_⟩; have n0_ := Aside0.mk (blk_below (g := gb495) (o := .cells #[.bool a1_0, .string a1_1, .int .i64 a1_2] 23 (0, 0)) (by (with_reducible repeat (first | refine blk_drewN ?_ _ | refine blk_drew ?_ | refine blk_alloc ?_ _)); exact BK495.out) hb); have n1_ := Aside0.mk (blk_below (g := gb496) (o := .cells #[.bool a2_0, .string a2_1, .int .i64 a2_2] 23 (0, 0)) (by (with_reducible repeat (first | refine blk_drewN ?_ _ | refine blk_drew ?_ | refine blk_alloc ?_ _)); exact BK496.out) hb); have n2_ := Aside0.mk (below_step (by repeat (first | (with_reducible first | exact HB.out | apply below_alloc | apply pw_below_drewN | apply below_drew1 | refine below_set ?_ GE495.out | refine below_set ?_ GE496.out) | exact HB.out)) hb); clear BK495; clear BK496; clear HB; have BK495 := n0_; have BK496 := n1_; have HB := n2_; clear n0_ n1_ n2_; (try clear hb); (try clear hb2); (try clear hk); (try clear hi)))
          go_meet
          case rel => exact ⟨_, (true), (by first | rfl | (simp; done) | (simp [*]; done) | (simp [*, Fig.bne_nil]; done)), H', ⟨by first | omega | exact Nat.le_refl _⟩, ⟨by (with_reducible repeat (first | refine blk_drewN ?_ _ | refine blk_drew ?_ | refine blk_alloc ?_ _)); exact BK495.out⟩, ⟨by (with_reducible repeat (first | refine blk_drewN ?_ _ | refine blk_drew ?_ | refine blk_alloc ?_ _)); exact BK496.out⟩, ⟨by repeat (first | (with_reducible first | exact HB.out | apply below_alloc | apply pw_below_drewN | apply below_drew1 | refine below_set ?_ GE495.out | refine below_set ?_ GE496.out) | exact HB.out)⟩⟩
        · rw [if_neg c12] at H
          have c12b0 : decide (a0 < 0) = false := decide_eq_false c12
          clear c12
          (first | rw [c12b0] | (simp only [i64_w, i32_w]; rw [c12b0]) | skip)
          by_cases c18 : a0 > 6
          · rw [if_pos c18] at H
            have c18b0 : decide (6 < a0) = true := decide_eq_true c18
            clear c18
            have H' := Aside0.mk H
            clear H
            have hnb19 := NB495_496.out
            have hnc19 := NB496_495.out
            have hcz20_0 : w7.cell? ⟨gb495, 0, none⟩ = some (.bool a1_0) := (blk_cell BK495.out 0).trans rfl
            have hcz20_1 : w7.cell? ⟨gb495, 1, none⟩ = some (.string a1_1) := (blk_cell BK495.out 1).trans rfl
            have hcz20_2 : w7.cell? ⟨gb495, 2, none⟩ = some (.int .i64 a1_2) := (blk_cell BK495.out 2).trans rfl
            have hfz20_0 := blk_frozen BK495.out 0
            have hfz20_1 := blk_frozen BK495.out 1
            have hfz20_2 := blk_frozen BK495.out 2
            go_wp2_with (first | ((with_reducible refine gate_callee (f := 23) rfl ?_); refine goesL_ (some 21) rfl rfl Tryd.func23 (by kernel_rfl) rfl #[.agg #[.bool a1_0, .string a1_1, .int .i64 a1_2]] rfl (by (try simp only [List.map_toArray]); (try simp only [List.map_cons]); (try simp only [List.map_nil]); first | done | rfl | (simp only [List.length_drop, List.length_take]; rfl)) ?_; (with_reducible refine (figureheadlaw09_good.calls k a1_0 a1_1 a1_2 true _ A8.out).mono ?_); rintro e w21 ⟨rfl, hb⟩; refine ⟨_, rfl, ?_⟩; have n0_ := Aside0.mk (blk_below (g := gb495) (o := .cells #[.bool a1_0, .string a1_1, .int .i64 a1_2] 23 (0, 0)) (by (with_reducible repeat (first | refine blk_drewN ?_ _ | refine blk_drew ?_ | refine blk_alloc ?_ _)); exact BK495.out) hb); have n1_ := Aside0.mk (blk_below (g := gb496) (o := .cells #[.bool a2_0, .string a2_1, .int .i64 a2_2] 23 (0, 0)) (by (with_reducible repeat (first | refine blk_drewN ?_ _ | refine blk_drew ?_ | refine blk_alloc ?_ _)); exact BK496.out) hb); have n2_ := Aside0.mk (below_step (by repeat (first | (with_reducible first | exact HB.out | apply below_alloc | apply pw_below_drewN | apply below_drew1 | refine below_set ?_ GE495.out | refine below_set ?_ GE496.out) | exact HB.out)) hb); clear BK495; clear BK496; clear HB; have BK495 := n0_; have BK496 := n1_; have HB := n2_; clear n0_ n1_ n2_; (try clear hb); (try clear hb2); (try clear hk); (try clear hi); have hcz22_0 : w21.cell? ⟨gb496, 0, none⟩ = some (.bool a2_0) := (blk_cell BK496.out 0).trans rfl; have hcz22_1 : w21.cell? ⟨gb496, 1, none⟩ = some (.string a2_1) := (blk_cell BK496.out 1).trans rfl; have hcz22_2 : w21.cell? ⟨gb496, 2, none⟩ = some (.int .i64 a2_2) := (blk_cell BK496.out 2).trans rfl; have hfz22_0 := blk_frozen BK496.out 0; have hfz22_1 := blk_frozen BK496.out 1; have hfz22_2 := blk_frozen BK496.out 2) | ((with_reducible refine gate_dst (N := 25) rfl ?_); (refine gate_guard (by rfl) ?_; dsimp only); (with_reducible refine gate_callee (f := 23) rfl ?_); refine goesL_ (some 25) rfl rfl Tryd.func23 (by kernel_rfl) rfl #[.agg #[.bool a2_0, .string a2_1, .int .i64 a2_2]] rfl (by (try simp only [List.map_toArray]); (try simp only [List.map_cons]); (try simp only [List.map_nil]); first | done | rfl | (simp only [List.length_drop, List.length_take]; rfl)) ?_; (with_reducible refine (figureheadlaw09_good.calls k a2_0 a2_1 a2_2 true _ A10.out).mono ?_); rintro e w23 ⟨rfl, hb⟩; refine ⟨_, rfl, ?_⟩; have n0_ := Aside0.mk (blk_below (g := gb495) (o := .cells #[.bool a1_0, .string a1_1, .int .i64 a1_2] 23 (0, 0)) (by (with_reducible repeat (first | refine blk_drewN ?_ _ | refine blk_drew ?_ | refine blk_alloc ?_ _)); exact BK495.out) hb); have n1_ := Aside0.mk (blk_below (g := gb496) (o := .cells #[.bool a2_0, .string a2_1, .int .i64 a2_2] 23 (0, 0)) (by (with_reducible repeat (first | refine blk_drewN ?_ _ | refine blk_drew ?_ | refine blk_alloc ?_ _)); exact BK496.out) hb); have n2_ := Aside0.mk (below_step (by repeat (first | (with_reducible first | exact HB.out | apply below_alloc | apply pw_below_drewN | apply below_drew1 | refine below_set ?_ GE495.out | refine below_set ?_ GE496.out) | exact HB.out)) hb); clear BK495; clear BK496; clear HB; have BK495 := n0_; have BK496 := n1_; have HB := n2_; clear n0_ n1_ n2_; (try clear hb); (try clear hb2); (try clear hk); (try clear hi)))
            go_meet
            case rel => exact ⟨_, (true), (by first | rfl | (simp; done) | (simp [*]; done) | (simp [*, Fig.bne_nil]; done)), H', ⟨by first | omega | exact Nat.le_refl _⟩, ⟨by (with_reducible repeat (first | refine blk_drewN ?_ _ | refine blk_drew ?_ | refine blk_alloc ?_ _)); exact BK495.out⟩, ⟨by (with_reducible repeat (first | refine blk_drewN ?_ _ | refine blk_drew ?_ | refine blk_alloc ?_ _)); exact BK496.out⟩, ⟨by repeat (first | (with_reducible first | exact HB.out | apply below_alloc | apply pw_below_drewN | apply below_drew1 | refine below_set ?_ GE495.out | refine below_set ?_ GE496.out) | exact HB.out)⟩⟩
          · rw [if_neg c18] at H
            have c18b0 : decide (6 < a0) = false := decide_eq_false c18
            clear c18
            replace H := Option.bind_eq_some_iff.mp H
            obtain ⟨t499, A240, H⟩ := H
            replace H : (figureheadlaw09_SigOrders.j0 k a0 (wrap64 ((wrap64 (Int.tmod a3 40)) + 1)) (decide (t499 > 0)) a1_0 a1_1 a1_2 a2_0 a2_1 a2_2) = some r := H
            have A24 := Aside0.mk A240
            clear A240
            have H' := Aside0.mk H
            clear H
            have hnb25 := NB495_496.out
            have hnc25 := NB496_495.out
            have hcz26_0 : w7.cell? ⟨gb495, 0, none⟩ = some (.bool a1_0) := (blk_cell BK495.out 0).trans rfl
            have hcz26_1 : w7.cell? ⟨gb495, 1, none⟩ = some (.string a1_1) := (blk_cell BK495.out 1).trans rfl
            have hcz26_2 : w7.cell? ⟨gb495, 2, none⟩ = some (.int .i64 a1_2) := (blk_cell BK495.out 2).trans rfl
            have hfz26_0 := blk_frozen BK495.out 0
            have hfz26_1 := blk_frozen BK495.out 1
            have hfz26_2 := blk_frozen BK495.out 2
            go_wp2_with (first | ((with_reducible refine gate_callee (f := 23) rfl ?_); refine goesL_ (some 21) rfl rfl Tryd.func23 (by kernel_rfl) rfl #[.agg #[.bool a1_0, .string a1_1, .int .i64 a1_2]] rfl (by (try simp only [List.map_toArray]); (try simp only [List.map_cons]); (try simp only [List.map_nil]); first | done | rfl | (simp only [List.length_drop, List.length_take]; rfl)) ?_; (with_reducible refine (figureheadlaw09_good.calls k a1_0 a1_1 a1_2 true _ A8.out).mono ?_); rintro e w27 ⟨rfl, hb⟩; refine ⟨_, rfl, ?_⟩; have n0_ := Aside0.mk (blk_below (g := gb495) (o := .cells #[.bool a1_0, .string a1_1, .int .i64 a1_2] 23 (0, 0)) (by (with_reducible repeat (first | refine blk_drewN ?_ _ | refine blk_drew ?_ | refine blk_alloc ?_ _)); exact BK495.out) hb); have n1_ := Aside0.mk (blk_below (g := gb496) (o := .cells #[.bool a2_0, .string a2_1, .int .i64 a2_2] 23 (0, 0)) (by (with_reducible repeat (first | refine blk_drewN ?_ _ | refine blk_drew ?_ | refine blk_alloc ?_ _)); exact BK496.out) hb); have n2_ := Aside0.mk (below_step (by repeat (first | (with_reducible first | exact HB.out | apply below_alloc | apply pw_below_drewN | apply below_drew1 | refine below_set ?_ GE495.out | refine below_set ?_ GE496.out) | exact HB.out)) hb); clear BK495; clear BK496; clear HB; have BK495 := n0_; have BK496 := n1_; have HB := n2_; clear n0_ n1_ n2_; (try clear hb); (try clear hb2); (try clear hk); (try clear hi); have hcz28_0 : w27.cell? ⟨gb496, 0, none⟩ = some (.bool a2_0) := (blk_cell BK496.out 0).trans rfl; have hcz28_1 : w27.cell? ⟨gb496, 1, none⟩ = some (.string a2_1) := (blk_cell BK496.out 1).trans rfl; have hcz28_2 : w27.cell? ⟨gb496, 2, none⟩ = some (.int .i64 a2_2) := (blk_cell BK496.out 2).trans rfl; have hfz28_0 := blk_frozen BK496.out 0; have hfz28_1 := blk_frozen BK496.out 1; have hfz28_2 := blk_frozen BK496.out 2) | ((with_reducible refine gate_dst (N := 25) rfl ?_); (refine gate_guard (by rfl) ?_; dsimp only); (with_reducible refine gate_callee (f := 23) rfl ?_); refine goesL_ (some 25) rfl rfl Tryd.func23 (by kernel_rfl) rfl #[.agg #[.bool a2_0, .string a2_1, .int .i64 a2_2]] rfl (by (try simp only [List.map_toArray]); (try simp only [List.map_cons]); (try simp only [List.map_nil]); first | done | rfl | (simp only [List.length_drop, List.length_take]; rfl)) ?_; (with_reducible refine (figureheadlaw09_good.calls k a2_0 a2_1 a2_2 true _ A10.out).mono ?_); rintro e w29 ⟨rfl, hb⟩; refine ⟨_, rfl, ?_⟩; have n0_ := Aside0.mk (blk_below (g := gb495) (o := .cells #[.bool a1_0, .string a1_1, .int .i64 a1_2] 23 (0, 0)) (by (with_reducible repeat (first | refine blk_drewN ?_ _ | refine blk_drew ?_ | refine blk_alloc ?_ _)); exact BK495.out) hb); have n1_ := Aside0.mk (blk_below (g := gb496) (o := .cells #[.bool a2_0, .string a2_1, .int .i64 a2_2] 23 (0, 0)) (by (with_reducible repeat (first | refine blk_drewN ?_ _ | refine blk_drew ?_ | refine blk_alloc ?_ _)); exact BK496.out) hb); have n2_ := Aside0.mk (below_step (by repeat (first | (with_reducible first | exact HB.out | apply below_alloc | apply pw_below_drewN | apply below_drew1 | refine below_set ?_ GE495.out | refine below_set ?_ GE496.out) | exact HB.out)) hb); clear BK495; clear BK496; clear HB; have BK495 := n0_; have BK496 := n1_; have HB := n2_; clear n0_ n1_ n2_; (try clear hb); (try clear hb2); (try clear hk); (try clear hi); have hcz30_0 : w29.cell? ⟨gb495, 0, none⟩ = some (.bool a1_0) := (blk_cell BK495.out 0).trans rfl; have hcz30_1 : w29.cell? ⟨gb495, 1, none⟩ = some (.string a1_1) := (blk_cell BK495.out 1).trans rfl; have hcz30_2 : w29.cell? ⟨gb495, 2, none⟩ = some (.int .i64 a1_2) := (blk_cell BK495.out 2).trans rfl; have hfz30_0 := blk_frozen BK495.out 0; have hfz30_1 := blk_frozen BK495.out 1; have hfz30_2 := blk_frozen BK495.out 2; have hcz31_0 : w29.cell? ⟨gb496, 0, none⟩ = some (.bool a2_0) := (blk_cell BK496.out 0).trans rfl; have hcz31_1 : w29.cell? ⟨gb496, 1, none⟩ = some (.string a2_1) := (blk_cell BK496.out 1).trans rfl; have hcz31_2 : w29.cell? ⟨gb496, 2, none⟩ = some (.int .i64 a2_2) := (blk_cell BK496.out 2).trans rfl; have hfz31_0 := blk_frozen BK496.out 0; have hfz31_1 := blk_frozen BK496.out 1; have hfz31_2 := blk_frozen BK496.out 2) | ((with_reducible refine gate_dst (N := 39) rfl ?_); (refine gate_guard (by rfl) ?_; dsimp only); (with_reducible refine gate_callee (f := 20) rfl ?_); refine goesL_ (some 39) rfl rfl Tryd.func20 (by kernel_rfl) rfl #[.agg #[.bool a1_0, .string a1_1, .int .i64 a1_2], .agg #[.bool a2_0, .string a2_1, .int .i64 a2_2]] rfl (by (try simp only [List.map_toArray]); (try simp only [List.map_cons]); (try simp only [List.map_nil]); first | done | rfl | (simp only [List.length_drop, List.length_take]; rfl)) ?_; (with_reducible refine (figureheadref05_Cmp.calls k a1_0 a1_1 a1_2 a2_0 a2_1 a2_2 t499 _ A24.out).mono ?_); rintro e w32 ⟨rfl, hb⟩; refine ⟨_, rfl, ?_⟩; have n0_ := Aside0.mk (blk_below (g := gb495) (o := .cells #[.bool a1_0, .string a1_1, .int .i64 a1_2] 23 (0, 0)) (by (with_reducible repeat (first | refine blk_drewN ?_ _ | refine blk_drew ?_ | refine blk_alloc ?_ _)); exact BK495.out) hb); have n1_ := Aside0.mk (blk_below (g := gb496) (o := .cells #[.bool a2_0, .string a2_1, .int .i64 a2_2] 23 (0, 0)) (by (with_reducible repeat (first | refine blk_drewN ?_ _ | refine blk_drew ?_ | refine blk_alloc ?_ _)); exact BK496.out) hb); have n2_ := Aside0.mk (below_step (by repeat (first | (with_reducible first | exact HB.out | apply below_alloc | apply pw_below_drewN | apply below_drew1 | refine below_set ?_ GE495.out | refine below_set ?_ GE496.out) | exact HB.out)) hb); clear BK495; clear BK496; clear HB; have BK495 := n0_; have BK496 := n1_; have HB := n2_; clear n0_ n1_ n2_; (try clear hb); (try clear hb2); (try clear hk); (try clear hi)))
            go_meet
            case rel => exact ⟨_, (decide (t499 > 0)), (by first | rfl | (simp; done) | (simp [*]; done) | (simp [*, Fig.bne_nil]; done)), H', ⟨by first | omega | exact Nat.le_refl _⟩, ⟨by (with_reducible repeat (first | refine blk_drewN ?_ _ | refine blk_drew ?_ | refine blk_alloc ?_ _)); exact BK495.out⟩, ⟨by (with_reducible repeat (first | refine blk_drewN ?_ _ | refine blk_drew ?_ | refine blk_alloc ?_ _)); exact BK496.out⟩, ⟨by repeat (first | (with_reducible first | exact HB.out | apply below_alloc | apply pw_below_drewN | apply below_drew1 | refine below_set ?_ GE495.out | refine below_set ?_ GE496.out) | exact HB.out)⟩⟩
      · replace c11 := Bool.eq_false_iff.mpr c11
        subst c11
        have H1 : (figureheadlaw09_SigOrders.j0 k a0 (wrap64 ((wrap64 (Int.tmod a3 40)) + 1)) true a1_0 a1_1 a1_2 a2_0 a2_1 a2_2) = some r := by rw [if_neg (show ¬ (false = true) by decide)] at H; exact H
        clear H
        have H := H1
        clear H1
        have H' := Aside0.mk H
        clear H
        have hnb33 := NB495_496.out
        have hnc33 := NB496_495.out
        have hcz34_0 : w7.cell? ⟨gb495, 0, none⟩ = some (.bool a1_0) := (blk_cell BK495.out 0).trans rfl
        have hcz34_1 : w7.cell? ⟨gb495, 1, none⟩ = some (.string a1_1) := (blk_cell BK495.out 1).trans rfl
        have hcz34_2 : w7.cell? ⟨gb495, 2, none⟩ = some (.int .i64 a1_2) := (blk_cell BK495.out 2).trans rfl
        have hfz34_0 := blk_frozen BK495.out 0
        have hfz34_1 := blk_frozen BK495.out 1
        have hfz34_2 := blk_frozen BK495.out 2
        go_wp2_with (first | ((with_reducible refine gate_callee (f := 23) rfl ?_); refine goesL_ (some 21) rfl rfl Tryd.func23 (by kernel_rfl) rfl #[.agg #[.bool a1_0, .string a1_1, .int .i64 a1_2]] rfl (by (try simp only [List.map_toArray]); (try simp only [List.map_cons]); (try simp only [List.map_nil]); first | done | rfl | (simp only [List.length_drop, List.length_take]; rfl)) ?_; (with_reducible refine (figureheadlaw09_good.calls k a1_0 a1_1 a1_2 true _ A8.out).mono ?_); rintro e w35 ⟨rfl, hb⟩; refine ⟨_, rfl, ?_⟩; have n0_ := Aside0.mk (blk_below (g := gb495) (o := .cells #[.bool a1_0, .string a1_1, .int .i64 a1_2] 23 (0, 0)) (by (with_reducible repeat (first | refine blk_drewN ?_ _ | refine blk_drew ?_ | refine blk_alloc ?_ _)); exact BK495.out) hb); have n1_ := Aside0.mk (blk_below (g := gb496) (o := .cells #[.bool a2_0, .string a2_1, .int .i64 a2_2] 23 (0, 0)) (by (with_reducible repeat (first | refine blk_drewN ?_ _ | refine blk_drew ?_ | refine blk_alloc ?_ _)); exact BK496.out) hb); have n2_ := Aside0.mk (below_step (by repeat (first | (with_reducible first | exact HB.out | apply below_alloc | apply pw_below_drewN | apply below_drew1 | refine below_set ?_ GE495.out | refine below_set ?_ GE496.out) | exact HB.out)) hb); clear BK495; clear BK496; clear HB; have BK495 := n0_; have BK496 := n1_; have HB := n2_; clear n0_ n1_ n2_; (try clear hb); (try clear hb2); (try clear hk); (try clear hi); have hcz36_0 : w35.cell? ⟨gb496, 0, none⟩ = some (.bool a2_0) := (blk_cell BK496.out 0).trans rfl; have hcz36_1 : w35.cell? ⟨gb496, 1, none⟩ = some (.string a2_1) := (blk_cell BK496.out 1).trans rfl; have hcz36_2 : w35.cell? ⟨gb496, 2, none⟩ = some (.int .i64 a2_2) := (blk_cell BK496.out 2).trans rfl; have hfz36_0 := blk_frozen BK496.out 0; have hfz36_1 := blk_frozen BK496.out 1; have hfz36_2 := blk_frozen BK496.out 2) | ((with_reducible refine gate_dst (N := 25) rfl ?_); (refine gate_guard (by rfl) ?_; dsimp only); (with_reducible refine gate_callee (f := 23) rfl ?_); refine goesL_ (some 25) rfl rfl Tryd.func23 (by kernel_rfl) rfl #[.agg #[.bool a2_0, .string a2_1, .int .i64 a2_2]] rfl (by (try simp only [List.map_toArray]); (try simp only [List.map_cons]); (try simp only [List.map_nil]); first | done | rfl | (simp only [List.length_drop, List.length_take]; rfl)) ?_; (with_reducible refine (figureheadlaw09_good.calls k a2_0 a2_1 a2_2 false _ A10.out).mono ?_); rintro e w37 ⟨rfl, hb⟩; refine ⟨_, rfl, ?_⟩; have n0_ := Aside0.mk (blk_below (g := gb495) (o := .cells #[.bool a1_0, .string a1_1, .int .i64 a1_2] 23 (0, 0)) (by (with_reducible repeat (first | refine blk_drewN ?_ _ | refine blk_drew ?_ | refine blk_alloc ?_ _)); exact BK495.out) hb); have n1_ := Aside0.mk (blk_below (g := gb496) (o := .cells #[.bool a2_0, .string a2_1, .int .i64 a2_2] 23 (0, 0)) (by (with_reducible repeat (first | refine blk_drewN ?_ _ | refine blk_drew ?_ | refine blk_alloc ?_ _)); exact BK496.out) hb); have n2_ := Aside0.mk (below_step (by repeat (first | (with_reducible first | exact HB.out | apply below_alloc | apply pw_below_drewN | apply below_drew1 | refine below_set ?_ GE495.out | refine below_set ?_ GE496.out) | exact HB.out)) hb); clear BK495; clear BK496; clear HB; have BK495 := n0_; have BK496 := n1_; have HB := n2_; clear n0_ n1_ n2_; (try clear hb); (try clear hb2); (try clear hk); (try clear hi)))
        go_meet
        case rel => exact ⟨_, (true), (by first | rfl | (simp; done) | (simp [*]; done) | (simp [*, Fig.bne_nil]; done)), H', ⟨by first | omega | exact Nat.le_refl _⟩, ⟨by (with_reducible repeat (first | refine blk_drewN ?_ _ | refine blk_drew ?_ | refine blk_alloc ?_ _)); exact BK495.out⟩, ⟨by (with_reducible repeat (first | refine blk_drewN ?_ _ | refine blk_drew ?_ | refine blk_alloc ?_ _)); exact BK496.out⟩, ⟨by repeat (first | (with_reducible first | exact HB.out | apply below_alloc | apply pw_below_drewN | apply below_drew1 | refine below_set ?_ GE495.out | refine below_set ?_ GE496.out) | exact HB.out)⟩⟩
    · replace c9 := Bool.eq_false_iff.mpr c9
      subst c9
      have H1 : (figureheadlaw09_SigOrders.j0 k a0 (wrap64 ((wrap64 (Int.tmod a3 40)) + 1)) true a1_0 a1_1 a1_2 a2_0 a2_1 a2_2) = some r := by rw [if_neg (show ¬ (false = true) by decide)] at H; exact H
      clear H
      have H := H1
      clear H1
      have H' := Aside0.mk H
      clear H
      have hnb38 := NB495_496.out
      have hnc38 := NB496_495.out
      have hcz39_0 : w7.cell? ⟨gb495, 0, none⟩ = some (.bool a1_0) := (blk_cell BK495.out 0).trans rfl
      have hcz39_1 : w7.cell? ⟨gb495, 1, none⟩ = some (.string a1_1) := (blk_cell BK495.out 1).trans rfl
      have hcz39_2 : w7.cell? ⟨gb495, 2, none⟩ = some (.int .i64 a1_2) := (blk_cell BK495.out 2).trans rfl
      have hfz39_0 := blk_frozen BK495.out 0
      have hfz39_1 := blk_frozen BK495.out 1
      have hfz39_2 := blk_frozen BK495.out 2
      go_wp2_with (first | ((with_reducible refine gate_callee (f := 23) rfl ?_); refine goesL_ (some 21) rfl rfl Tryd.func23 (by kernel_rfl) rfl #[.agg #[.bool a1_0, .string a1_1, .int .i64 a1_2]] rfl (by (try simp only [List.map_toArray]); (try simp only [List.map_cons]); (try simp only [List.map_nil]); first | done | rfl | (simp only [List.length_drop, List.length_take]; rfl)) ?_; (with_reducible refine (figureheadlaw09_good.calls k a1_0 a1_1 a1_2 false _ A8.out).mono ?_); rintro e w40 ⟨rfl, hb⟩; refine ⟨_, rfl, ?_⟩; have n0_ := Aside0.mk (blk_below (g := gb495) (o := .cells #[.bool a1_0, .string a1_1, .int .i64 a1_2] 23 (0, 0)) (by (with_reducible repeat (first | refine blk_drewN ?_ _ | refine blk_drew ?_ | refine blk_alloc ?_ _)); exact BK495.out) hb); have n1_ := Aside0.mk (blk_below (g := gb496) (o := .cells #[.bool a2_0, .string a2_1, .int .i64 a2_2] 23 (0, 0)) (by (with_reducible repeat (first | refine blk_drewN ?_ _ | refine blk_drew ?_ | refine blk_alloc ?_ _)); exact BK496.out) hb); have n2_ := Aside0.mk (below_step (by repeat (first | (with_reducible first | exact HB.out | apply below_alloc | apply pw_below_drewN | apply below_drew1 | refine below_set ?_ GE495.out | refine below_set ?_ GE496.out) | exact HB.out)) hb); clear BK495; clear BK496; clear HB; have BK495 := n0_; have BK496 := n1_; have HB := n2_; clear n0_ n1_ n2_; (try clear hb); (try clear hb2); (try clear hk); (try clear hi)))
      go_meet
      case rel => exact ⟨_, (true), (by first | rfl | (simp; done) | (simp [*]; done) | (simp [*, Fig.bne_nil]; done)), H', ⟨by first | omega | exact Nat.le_refl _⟩, ⟨by (with_reducible repeat (first | refine blk_drewN ?_ _ | refine blk_drew ?_ | refine blk_alloc ?_ _)); exact BK495.out⟩, ⟨by (with_reducible repeat (first | refine blk_drewN ?_ _ | refine blk_drew ?_ | refine blk_alloc ?_ _)); exact BK496.out⟩, ⟨by repeat (first | (with_reducible first | exact HB.out | apply below_alloc | apply pw_below_drewN | apply below_drew1 | refine below_set ?_ GE495.out | refine below_set ?_ GE496.out) | exact HB.out)⟩⟩
  case rest =>
    clear HC5
    try clear c1
    try clear c2
    try clear p2
    try clear c3
    try clear p6
    try clear c9
    try clear c11
    try clear c12
    try clear c12b0
    try clear c13
    try clear c18
    try clear c18b0
    try clear c19
    try clear c20
    try clear c23
    try clear c25
    try clear c33
    try clear c38
    try clear hcz14_0
    try clear hcz14_1
    try clear hcz14_2
    try clear hcz16_0
    try clear hcz16_1
    try clear hcz16_2
    try clear hcz20_0
    try clear hcz20_1
    try clear hcz20_2
    try clear hcz22_0
    try clear hcz22_1
    try clear hcz22_2
    try clear hcz26_0
    try clear hcz26_1
    try clear hcz26_2
    try clear hcz28_0
    try clear hcz28_1
    try clear hcz28_2
    try clear hcz30_0
    try clear hcz30_1
    try clear hcz30_2
    try clear hcz31_0
    try clear hcz31_1
    try clear hcz31_2
    try clear hcz34_0
    try clear hcz34_1
    try clear hcz34_2
    try clear hcz36_0
    try clear hcz36_1
    try clear hcz36_2
    try clear hcz39_0
    try clear hcz39_1
    try clear hcz39_2
    try clear hfz14_0
    try clear hfz14_1
    try clear hfz14_2
    try clear hfz16_0
    try clear hfz16_1
    try clear hfz16_2
    try clear hfz20_0
    try clear hfz20_1
    try clear hfz20_2
    try clear hfz22_0
    try clear hfz22_1
    try clear hfz22_2
    try clear hfz26_0
    try clear hfz26_1
    try clear hfz26_2
    try clear hfz28_0
    try clear hfz28_1
    try clear hfz28_2
    try clear hfz30_0
    try clear hfz30_1
    try clear hfz30_2
    try clear hfz31_0
    try clear hfz31_1
    try clear hfz31_2
    try clear hfz34_0
    try clear hfz34_1
    try clear hfz34_2
    try clear hfz36_0
    try clear hfz36_1
    try clear hfz36_2
    try clear hfz39_0
    try clear hfz39_1
    try clear hfz39_2
    obtain ⟨kq, x41_4, rfl, HA, HJ4, BK495, BK496, HB⟩ := hcut
    cases kq with
    | zero => exact absurd HA.out (by simp [figureheadlaw09_SigOrders.j0])
    | succ kj4 =>
      have H := HA.out
      clear HA
      simp only [figureheadlaw09_SigOrders.j0] at H
      by_cases c41 : x41_4 = true
      · subst c41
        have H1 : ((figureheadlaw09_answers.f kj4).bind fun t500 => (some t500)) = some r := by rw [if_pos rfl] at H; exact H
        clear H
        have H := H1
        clear H1
        replace H := Option.bind_eq_some_iff.mp H
        obtain ⟨t500, A420, H⟩ := H
        replace H : (some t500) = some r := H
        have A42 := Aside0.mk A420
        clear A420
        obtain rfl := Option.some.inj H
        go_wp2_with (first | ((with_reducible refine gate_callee (f := 24) rfl ?_); refine goesL_ (some 42) rfl rfl Tryd.func24 (by kernel_rfl) rfl #[] rfl (by (try simp only [List.map_toArray]); (try simp only [List.map_cons]); (try simp only [List.map_nil]); first | done | rfl | (simp only [List.length_drop, List.length_take]; rfl)) ?_; (with_reducible refine (figureheadlaw09_answers.calls kj4  t500 _ ?side1 ?side2 A42.out).mono ?_); (case side1 => exact Fig.Glob.below HG.out (by repeat (first | (with_reducible first | exact HB.out | apply below_alloc | apply pw_below_drewN | apply below_drew1 | refine below_set ?_ GE495.out | refine below_set ?_ GE496.out) | exact HB.out))); (case side2 => exact ⟨by first | rfl | exact HT.out⟩); rintro e w43 ⟨rfl, hb⟩; refine ⟨_, rfl, ?_⟩; have n0_ := Aside0.mk (blk_below (g := gb495) (o := .cells #[.bool a1_0, .string a1_1, .int .i64 a1_2] 23 (0, 0)) (by (with_reducible repeat (first | refine blk_drewN ?_ _ | refine blk_drew ?_ | refine blk_alloc ?_ _)); exact BK495.out) hb); have n1_ := Aside0.mk (blk_below (g := gb496) (o := .cells #[.bool a2_0, .string a2_1, .int .i64 a2_2] 23 (0, 0)) (by (with_reducible repeat (first | refine blk_drewN ?_ _ | refine blk_drew ?_ | refine blk_alloc ?_ _)); exact BK496.out) hb); have n2_ := Aside0.mk (below_step (by repeat (first | (with_reducible first | exact HB.out | apply below_alloc | apply pw_below_drewN | apply below_drew1 | refine below_set ?_ GE495.out | refine below_set ?_ GE496.out) | exact HB.out)) hb); clear BK495; clear BK496; clear HB; have BK495 := n0_; have BK496 := n1_; have HB := n2_; clear n0_ n1_ n2_; (try clear hb); (try clear hb2); (try clear hk); (try clear hi)))
        go_ret
        exact ⟨by first | rfl | (simp [errW_none, errW_some] <;> rfl) | (simp [*, errW_none, errW_some] <;> rfl), by repeat (first | (with_reducible first | exact HB.out | apply below_alloc | apply pw_below_drewN | apply below_drew1 | refine below_set ?_ GE495.out | refine below_set ?_ GE496.out) | exact HB.out)⟩
      · replace c41 := Bool.eq_false_iff.mpr c41
        subst c41
        have H1 : ((sig_Round.f kj4 a0 a1_0 a1_1 a1_2 (wrap64 ((wrap64 (Int.tmod a3 40)) + 1))).bind fun bt501 => ((sig_Round.f kj4 a0 a2_0 a2_1 a2_2 (wrap64 ((wrap64 (Int.tmod a3 40)) + 1))).bind fun bt506 => ((sig_Round.f kj4 a0 bt501.1 bt501.2.1 bt501.2.2.1 (wrap64 ((wrap64 (Int.tmod a3 40)) + 1))).bind fun bt511 => ((figureheadlaw09_answers.f kj4).bind fun t516 => (if t516 = true then (if bt501.2.2.2 = 0 then (if bt506.2.2.2 = 0 then ((figureheadref05_Cmp.f kj4 bt501.1 bt501.2.1 bt501.2.2.1 bt506.1 bt506.2.1 bt506.2.2.1).bind fun t517 => (if t517 ≤ 0 then (if bt511.2.2.2 = 0 then (some (bt511.1 == bt501.1 && (bt511.2.1.toList == bt501.2.1.toList && (bt511.2.2.1 == bt501.2.2.1)))) else (some false)) else (some false))) else (some false)) else (some false)) else (some false)))))) = some r := by rw [if_neg (show ¬ (false = true) by decide)] at H; exact H
        clear H
        have H := H1
        clear H1
        replace H := Option.bind_eq_some_iff.mp H
        obtain ⟨⟨t501, t502, t503, t504⟩, A440, H⟩ := H
        replace H : ((sig_Round.f kj4 a0 a2_0 a2_1 a2_2 (wrap64 ((wrap64 (Int.tmod a3 40)) + 1))).bind fun bt506 => ((sig_Round.f kj4 a0 t501 t502 t503 (wrap64 ((wrap64 (Int.tmod a3 40)) + 1))).bind fun bt511 => ((figureheadlaw09_answers.f kj4).bind fun t516 => (if t516 = true then (if t504 = 0 then (if bt506.2.2.2 = 0 then ((figureheadref05_Cmp.f kj4 t501 t502 t503 bt506.1 bt506.2.1 bt506.2.2.1).bind fun t517 => (if t517 ≤ 0 then (if bt511.2.2.2 = 0 then (some (bt511.1 == t501 && (bt511.2.1.toList == t502.toList && (bt511.2.2.1 == t503)))) else (some false)) else (some false))) else (some false)) else (some false)) else (some false))))) = some r := H
        have A44 := Aside0.mk A440
        clear A440
        replace H := Option.bind_eq_some_iff.mp H
        obtain ⟨⟨t506, t507, t508, t509⟩, A450, H⟩ := H
        replace H : ((sig_Round.f kj4 a0 t501 t502 t503 (wrap64 ((wrap64 (Int.tmod a3 40)) + 1))).bind fun bt511 => ((figureheadlaw09_answers.f kj4).bind fun t516 => (if t516 = true then (if t504 = 0 then (if t509 = 0 then ((figureheadref05_Cmp.f kj4 t501 t502 t503 t506 t507 t508).bind fun t517 => (if t517 ≤ 0 then (if bt511.2.2.2 = 0 then (some (bt511.1 == t501 && (bt511.2.1.toList == t502.toList && (bt511.2.2.1 == t503)))) else (some false)) else (some false))) else (some false)) else (some false)) else (some false)))) = some r := H
        have A45 := Aside0.mk A450
        clear A450
        replace H := Option.bind_eq_some_iff.mp H
        obtain ⟨⟨t511, t512, t513, t514⟩, A460, H⟩ := H
        replace H : ((figureheadlaw09_answers.f kj4).bind fun t516 => (if t516 = true then (if t504 = 0 then (if t509 = 0 then ((figureheadref05_Cmp.f kj4 t501 t502 t503 t506 t507 t508).bind fun t517 => (if t517 ≤ 0 then (if t514 = 0 then (some (t511 == t501 && (t512.toList == t502.toList && (t513 == t503)))) else (some false)) else (some false))) else (some false)) else (some false)) else (some false))) = some r := H
        have A46 := Aside0.mk A460
        clear A460
        replace H := Option.bind_eq_some_iff.mp H
        obtain ⟨t516, A470, H⟩ := H
        replace H : (if t516 = true then (if t504 = 0 then (if t509 = 0 then ((figureheadref05_Cmp.f kj4 t501 t502 t503 t506 t507 t508).bind fun t517 => (if t517 ≤ 0 then (if t514 = 0 then (some (t511 == t501 && (t512.toList == t502.toList && (t513 == t503)))) else (some false)) else (some false))) else (some false)) else (some false)) else (some false)) = some r := H
        have A47 := Aside0.mk A470
        clear A470
        by_cases c48 : t516 = true
        · subst c48
          have H1 : (if t504 = 0 then (if t509 = 0 then ((figureheadref05_Cmp.f kj4 t501 t502 t503 t506 t507 t508).bind fun t517 => (if t517 ≤ 0 then (if t514 = 0 then (some (t511 == t501 && (t512.toList == t502.toList && (t513 == t503)))) else (some false)) else (some false))) else (some false)) else (some false)) = some r := by rw [if_pos rfl] at H; exact H
          clear H
          have H := H1
          clear H1
          by_cases c49 : t504 = 0
          · rw [if_pos c49] at H
            have c49b0 : (t504 == 0) = true := beq_iff_eq.mpr c49
            have c49b1 : (t504 != 0) = false := bne_eq_false_iff_eq.mpr c49
            clear c49
            by_cases c50 : t509 = 0
            · rw [if_pos c50] at H
              have c50b0 : (t509 == 0) = true := beq_iff_eq.mpr c50
              have c50b1 : (t509 != 0) = false := bne_eq_false_iff_eq.mpr c50
              clear c50
              replace H := Option.bind_eq_some_iff.mp H
              obtain ⟨t517, A510, H⟩ := H
              replace H : (if t517 ≤ 0 then (if t514 = 0 then (some (t511 == t501 && (t512.toList == t502.toList && (t513 == t503)))) else (some false)) else (some false)) = some r := H
              have A51 := Aside0.mk A510
              clear A510
              by_cases c52 : t517 ≤ 0
              · rw [if_pos c52] at H
                have c52b0 : decide (t517 ≤ 0) = true := decide_eq_true c52
                clear c52
                by_cases c53 : t514 = 0
                · rw [if_pos c53] at H
                  have c53b0 : (t514 == 0) = true := beq_iff_eq.mpr c53
                  have c53b1 : (t514 != 0) = false := bne_eq_false_iff_eq.mpr c53
                  clear c53
                  obtain rfl := Option.some.inj H
                  have hnb54 := NB495_496.out
                  have hnc54 := NB496_495.out
                  have hcz55_0 : wc.cell? ⟨gb495, 0, none⟩ = some (.bool a1_0) := (blk_cell BK495.out 0).trans rfl
                  have hcz55_1 : wc.cell? ⟨gb495, 1, none⟩ = some (.string a1_1) := (blk_cell BK495.out 1).trans rfl
                  have hcz55_2 : wc.cell? ⟨gb495, 2, none⟩ = some (.int .i64 a1_2) := (blk_cell BK495.out 2).trans rfl
                  have hfz55_0 := blk_frozen BK495.out 0
                  have hfz55_1 := blk_frozen BK495.out 1
                  have hfz55_2 := blk_frozen BK495.out 2
                  go_wp2_with (first | ((with_reducible refine gate_callee (f := 25) rfl ?_); refine goesL_ (some 47) rfl rfl Tryd.func25 (by kernel_rfl) rfl #[.int .i64 a0, .agg #[.bool a1_0, .string a1_1, .int .i64 a1_2], .int .i64 (wrap64 ((wrap64 (Int.tmod a3 40)) + 1))] rfl (by (try simp only [List.map_toArray]); (try simp only [List.map_cons]); (try simp only [List.map_nil]); first | done | rfl | (simp only [List.length_drop, List.length_take]; rfl)) ?_; (with_reducible refine (sig_Round.calls kj4 a0 a1_0 a1_1 a1_2 (wrap64 ((wrap64 (Int.tmod a3 40)) + 1)) t501 t502 t503 t504 _ ?side1 A44.out).mono ?_); (case side1 => exact Fig.Glob.below HG.out (by repeat (first | (with_reducible first | exact HB.out | apply below_alloc | apply pw_below_drewN | apply below_drew1 | refine below_set ?_ GE495.out | refine below_set ?_ GE496.out) | exact HB.out))); rintro e w56 ⟨rfl, hb⟩; refine ⟨_, rfl, ?_⟩; have n0_ := Aside0.mk (blk_below (g := gb495) (o := .cells #[.bool a1_0, .string a1_1, .int .i64 a1_2] 23 (0, 0)) (by (with_reducible repeat (first | refine blk_drewN ?_ _ | refine blk_drew ?_ | refine blk_alloc ?_ _)); exact BK495.out) hb); have n1_ := Aside0.mk (blk_below (g := gb496) (o := .cells #[.bool a2_0, .string a2_1, .int .i64 a2_2] 23 (0, 0)) (by (with_reducible repeat (first | refine blk_drewN ?_ _ | refine blk_drew ?_ | refine blk_alloc ?_ _)); exact BK496.out) hb); have n2_ := Aside0.mk (below_step (by repeat (first | (with_reducible first | exact HB.out | apply below_alloc | apply pw_below_drewN | apply below_drew1 | refine below_set ?_ GE495.out | refine below_set ?_ GE496.out) | exact HB.out)) hb); clear BK495; clear BK496; clear HB; have BK495 := n0_; have BK496 := n1_; have HB := n2_; clear n0_ n1_ n2_; (try clear hb); (try clear hb2); (try clear hk); (try clear hi)) | ((with_reducible refine gate_dst (N := 10) rfl ?_); refine box_event ?hg (N := 10) ?hd (cs := #[.bool false, .string (⟨#[]⟩ : ByteArray), .int .i64 0]) (t := 23) ?hr ?_; (case hd => rfl); (case hg => rfl); (case hr => first | (go_simp; done) | (go_simp; rfl)); intro gb505 hg w57 hbox hb; have n0_ := Aside0.mk (blk_below (g := gb495) (o := .cells #[.bool a1_0, .string a1_1, .int .i64 a1_2] 23 (0, 0)) (by (with_reducible repeat (first | refine blk_drewN ?_ _ | refine blk_drew ?_ | refine blk_alloc ?_ _)); exact BK495.out) hb); have n1_ := Aside0.mk (blk_below (g := gb496) (o := .cells #[.bool a2_0, .string a2_1, .int .i64 a2_2] 23 (0, 0)) (by (with_reducible repeat (first | refine blk_drewN ?_ _ | refine blk_drew ?_ | refine blk_alloc ?_ _)); exact BK496.out) hb); have n2_ := Aside0.mk (below_step (by repeat (first | (with_reducible first | exact HB.out | apply below_alloc | apply pw_below_drewN | apply below_drew1 | refine below_set ?_ GE495.out | refine below_set ?_ GE496.out) | exact HB.out)) hb); have n3_ := Aside0.mk (hbox); have n4_ := Aside0.mk ((by rw [hg]; exact (below_size (by repeat (first | (with_reducible first | exact HB.out | apply below_alloc | apply pw_below_drewN | apply below_drew1 | refine below_set ?_ GE495.out | refine below_set ?_ GE496.out) | exact HB.out))) : w.heap.size ≤ gb505)); have n5_ := Aside0.mk ((by rw [hg]; exact (below_size (by repeat (first | (with_reducible first | exact HB.out | apply below_alloc | apply pw_below_drewN | apply below_drew1 | refine below_set ?_ GE495.out | refine below_set ?_ GE496.out) | exact HB.out))) : w.heap.size ≤ gb505)); have n6_ := Aside0.mk ((by rw [hg]; exact Nat.ne_of_lt (blk_lt (g := gb495) (o := .cells #[.bool a1_0, .string a1_1, .int .i64 a1_2] 23 (0, 0)) (by (with_reducible repeat (first | refine blk_drewN ?_ _ | refine blk_drew ?_ | refine blk_alloc ?_ _)); exact BK495.out)) : gb495 ≠ gb505)); have n7_ := Aside0.mk ((by rw [hg]; exact Nat.ne_of_gt (blk_lt (g := gb495) (o := .cells #[.bool a1_0, .string a1_1, .int .i64 a1_2] 23 (0, 0)) (by (with_reducible repeat (first | refine blk_drewN ?_ _ | refine blk_drew ?_ | refine blk_alloc ?_ _)); exact BK495.out)) : gb505 ≠ gb495)); have n8_ := Aside0.mk ((by rw [hg]; exact Nat.ne_of_lt (blk_lt (g := gb496) (o := .cells #[.bool a2_0, .string a2_1, .int .i64 a2_2] 23 (0, 0)) (by (with_reducible repeat (first | refine blk_drewN ?_ _ | refine blk_drew ?_ | refine blk_alloc ?_ _)); exact BK496.out)) : gb496 ≠ gb505)); have n9_ := Aside0.mk ((by rw [hg]; exact Nat.ne_of_gt (blk_lt (g := gb496) (o := .cells #[.bool a2_0, .string a2_1, .int .i64 a2_2] 23 (0, 0)) (by (with_reducible repeat (first | refine blk_drewN ?_ _ | refine blk_drew ?_ | refine blk_alloc ?_ _)); exact BK496.out)) : gb505 ≠ gb496)); clear BK495; clear BK496; clear HB; have BK495 := n0_; have BK496 := n1_; have HB := n2_; have BK505 := n3_; have GW505 := n4_; have GE505 := n5_; have NB495_505 := n6_; have NB505_495 := n7_; have NB496_505 := n8_; have NB505_496 := n9_; clear n0_ n1_ n2_ n3_ n4_ n5_ n6_ n7_ n8_ n9_; clear hb hbox hg; have hnb58 := NB505_495.out; have hnc58 := NB495_505.out; have hnb59 := NB505_496.out; have hnc59 := NB496_505.out; have hcz60_0 : w57.cell? ⟨gb505, 0, none⟩ = some (.bool false) := (blk_cell BK505.out 0).trans rfl; have hcz60_1 : w57.cell? ⟨gb505, 1, none⟩ = some (.string (⟨#[]⟩ : ByteArray)) := (blk_cell BK505.out 1).trans rfl; have hcz60_2 : w57.cell? ⟨gb505, 2, none⟩ = some (.int .i64 0) := (blk_cell BK505.out 2).trans rfl; have hfz60_0 := blk_frozen BK505.out 0; have hfz60_1 := blk_frozen BK505.out 1; have hfz60_2 := blk_frozen BK505.out 2; have hcz61_0 : w57.cell? ⟨gb496, 0, none⟩ = some (.bool a2_0) := (blk_cell BK496.out 0).trans rfl; have hcz61_1 : w57.cell? ⟨gb496, 1, none⟩ = some (.string a2_1) := (blk_cell BK496.out 1).trans rfl; have hcz61_2 : w57.cell? ⟨gb496, 2, none⟩ = some (.int .i64 a2_2) := (blk_cell BK496.out 2).trans rfl; have hfz61_0 := blk_frozen BK496.out 0; have hfz61_1 := blk_frozen BK496.out 1; have hfz61_2 := blk_frozen BK496.out 2) | ((with_reducible refine gate_callee (f := 25) rfl ?_); refine goesL_ (some 54) rfl rfl Tryd.func25 (by kernel_rfl) rfl #[.int .i64 a0, .agg #[.bool a2_0, .string a2_1, .int .i64 a2_2], .int .i64 (wrap64 ((wrap64 (Int.tmod a3 40)) + 1))] rfl (by (try simp only [List.map_toArray]); (try simp only [List.map_cons]); (try simp only [List.map_nil]); first | done | rfl | (simp only [List.length_drop, List.length_take]; rfl)) ?_; (with_reducible refine (sig_Round.calls kj4 a0 a2_0 a2_1 a2_2 (wrap64 ((wrap64 (Int.tmod a3 40)) + 1)) t506 t507 t508 t509 _ ?side1 A45.out).mono ?_); (case side1 => exact Fig.Glob.below HG.out (by repeat (first | (with_reducible first | exact HB.out | apply below_alloc | apply pw_below_drewN | apply below_drew1 | refine below_set ?_ GE495.out | refine below_set ?_ GE496.out | refine below_set ?_ GE505.out) | exact HB.out))); rintro e w62 ⟨rfl, hb⟩; refine ⟨_, rfl, ?_⟩; have n0_ := Aside0.mk (blk_below (g := gb495) (o := .cells #[.bool a1_0, .string a1_1, .int .i64 a1_2] 23 (0, 0)) (by (with_reducible repeat (first | refine blk_drewN ?_ _ | refine blk_drew ?_ | refine blk_alloc ?_ _)); refine blk_far ?_ NB495_505.out _; (with_reducible repeat (first | refine blk_drewN ?_ _ | refine blk_drew ?_ | refine blk_alloc ?_ _)); refine blk_far ?_ NB495_505.out _; (with_reducible repeat (first | refine blk_drewN ?_ _ | refine blk_drew ?_ | refine blk_alloc ?_ _)); refine blk_far ?_ NB495_505.out _; (with_reducible repeat (first | refine blk_drewN ?_ _ | refine blk_drew ?_ | refine blk_alloc ?_ _)); exact BK495.out) hb); have n1_ := Aside0.mk (blk_below (g := gb496) (o := .cells #[.bool a2_0, .string a2_1, .int .i64 a2_2] 23 (0, 0)) (by (with_reducible repeat (first | refine blk_drewN ?_ _ | refine blk_drew ?_ | refine blk_alloc ?_ _)); refine blk_far ?_ NB496_505.out _; (with_reducible repeat (first | refine blk_drewN ?_ _ | refine blk_drew ?_ | refine blk_alloc ?_ _)); refine blk_far ?_ NB496_505.out _; (with_reducible repeat (first | refine blk_drewN ?_ _ | refine blk_drew ?_ | refine blk_alloc ?_ _)); refine blk_far ?_ NB496_505.out _; (with_reducible repeat (first | refine blk_drewN ?_ _ | refine blk_drew ?_ | refine blk_alloc ?_ _)); exact BK496.out) hb); have n2_ := Aside0.mk (blk_below (g := gb505) (o := .cells #[.bool t501, .string t502, .int .i64 t503] 23 (0, 0)) (by (with_reducible repeat (first | refine blk_drewN ?_ _ | refine blk_drew ?_ | refine blk_alloc ?_ _)); refine blk_put (cs := #[.bool t501, .string t502, .int .i64 0]) ?_ 2 _ rfl; (with_reducible repeat (first | refine blk_drewN ?_ _ | refine blk_drew ?_ | refine blk_alloc ?_ _)); refine blk_put (cs := #[.bool t501, .string (⟨#[]⟩ : ByteArray), .int .i64 0]) ?_ 1 _ rfl; (with_reducible repeat (first | refine blk_drewN ?_ _ | refine blk_drew ?_ | refine blk_alloc ?_ _)); refine blk_put (cs := #[.bool false, .string (⟨#[]⟩ : ByteArray), .int .i64 0]) ?_ 0 _ rfl; (with_reducible repeat (first | refine blk_drewN ?_ _ | refine blk_drew ?_ | refine blk_alloc ?_ _)); exact BK505.out) hb); have n3_ := Aside0.mk (below_step (by repeat (first | (with_reducible first | exact HB.out | apply below_alloc | apply pw_below_drewN | apply below_drew1 | refine below_set ?_ GE495.out | refine below_set ?_ GE496.out | refine below_set ?_ GE505.out) | exact HB.out)) hb); clear BK495; clear BK496; clear BK505; clear HB; have BK495 := n0_; have BK496 := n1_; have BK505 := n2_; have HB := n3_; clear n0_ n1_ n2_ n3_; (try clear hb); (try clear hb2); (try clear hk); (try clear hi)) | ((with_reducible refine gate_dst (N := 12) rfl ?_); refine box_event ?hg (N := 12) ?hd (cs := #[.bool false, .string (⟨#[]⟩ : ByteArray), .int .i64 0]) (t := 23) ?hr ?_; (case hd => rfl); (case hg => rfl); (case hr => first | (go_simp; done) | (go_simp; rfl)); intro gb510 hg w63 hbox hb; have n0_ := Aside0.mk (blk_below (g := gb495) (o := .cells #[.bool a1_0, .string a1_1, .int .i64 a1_2] 23 (0, 0)) (by (with_reducible repeat (first | refine blk_drewN ?_ _ | refine blk_drew ?_ | refine blk_alloc ?_ _)); exact BK495.out) hb); have n1_ := Aside0.mk (blk_below (g := gb496) (o := .cells #[.bool a2_0, .string a2_1, .int .i64 a2_2] 23 (0, 0)) (by (with_reducible repeat (first | refine blk_drewN ?_ _ | refine blk_drew ?_ | refine blk_alloc ?_ _)); exact BK496.out) hb); have n2_ := Aside0.mk (blk_below (g := gb505) (o := .cells #[.bool t501, .string t502, .int .i64 t503] 23 (0, 0)) (by (with_reducible repeat (first | refine blk_drewN ?_ _ | refine blk_drew ?_ | refine blk_alloc ?_ _)); exact BK505.out) hb); have n3_ := Aside0.mk (below_step (by repeat (first | (with_reducible first | exact HB.out | apply below_alloc | apply pw_below_drewN | apply below_drew1 | refine below_set ?_ GE495.out | refine below_set ?_ GE496.out | refine below_set ?_ GE505.out) | exact HB.out)) hb); have n4_ := Aside0.mk (hbox); have n5_ := Aside0.mk ((by rw [hg]; exact (below_size (by repeat (first | (with_reducible first | exact HB.out | apply below_alloc | apply pw_below_drewN | apply below_drew1 | refine below_set ?_ GE495.out | refine below_set ?_ GE496.out | refine below_set ?_ GE505.out) | exact HB.out))) : w.heap.size ≤ gb510)); have n6_ := Aside0.mk ((by rw [hg]; exact (below_size (by repeat (first | (with_reducible first | exact HB.out | apply below_alloc | apply pw_below_drewN | apply below_drew1 | refine below_set ?_ GE495.out | refine below_set ?_ GE496.out | refine below_set ?_ GE505.out) | exact HB.out))) : w.heap.size ≤ gb510)); have n7_ := Aside0.mk ((by rw [hg]; exact Nat.ne_of_lt (blk_lt (g := gb495) (o := .cells #[.bool a1_0, .string a1_1, .int .i64 a1_2] 23 (0, 0)) (by (with_reducible repeat (first | refine blk_drewN ?_ _ | refine blk_drew ?_ | refine blk_alloc ?_ _)); exact BK495.out)) : gb495 ≠ gb510)); have n8_ := Aside0.mk ((by rw [hg]; exact Nat.ne_of_gt (blk_lt (g := gb495) (o := .cells #[.bool a1_0, .string a1_1, .int .i64 a1_2] 23 (0, 0)) (by (with_reducible repeat (first | refine blk_drewN ?_ _ | refine blk_drew ?_ | refine blk_alloc ?_ _)); exact BK495.out)) : gb510 ≠ gb495)); have n9_ := Aside0.mk ((by rw [hg]; exact Nat.ne_of_lt (blk_lt (g := gb496) (o := .cells #[.bool a2_0, .string a2_1, .int .i64 a2_2] 23 (0, 0)) (by (with_reducible repeat (first | refine blk_drewN ?_ _ | refine blk_drew ?_ | refine blk_alloc ?_ _)); exact BK496.out)) : gb496 ≠ gb510)); have n10_ := Aside0.mk ((by rw [hg]; exact Nat.ne_of_gt (blk_lt (g := gb496) (o := .cells #[.bool a2_0, .string a2_1, .int .i64 a2_2] 23 (0, 0)) (by (with_reducible repeat (first | refine blk_drewN ?_ _ | refine blk_drew ?_ | refine blk_alloc ?_ _)); exact BK496.out)) : gb510 ≠ gb496)); have n11_ := Aside0.mk ((by rw [hg]; exact Nat.ne_of_lt (blk_lt (g := gb505) (o := .cells #[.bool t501, .string t502, .int .i64 t503] 23 (0, 0)) (by (with_reducible repeat (first | refine blk_drewN ?_ _ | refine blk_drew ?_ | refine blk_alloc ?_ _)); exact BK505.out)) : gb505 ≠ gb510)); have n12_ := Aside0.mk ((by rw [hg]; exact Nat.ne_of_gt (blk_lt (g := gb505) (o := .cells #[.bool t501, .string t502, .int .i64 t503] 23 (0, 0)) (by (with_reducible repeat (first | refine blk_drewN ?_ _ | refine blk_drew ?_ | refine blk_alloc ?_ _)); exact BK505.out)) : gb510 ≠ gb505)); clear BK495; clear BK496; clear BK505; clear HB; have BK495 := n0_; have BK496 := n1_; have BK505 := n2_; have HB := n3_; have BK510 := n4_; have GW510 := n5_; have GE510 := n6_; have NB495_510 := n7_; have NB510_495 := n8_; have NB496_510 := n9_; have NB510_496 := n10_; have NB505_510 := n11_; have NB510_505 := n12_; clear n0_ n1_ n2_ n3_ n4_ n5_ n6_ n7_ n8_ n9_ n10_ n11_ n12_; clear hb hbox hg; have hnb64 := NB510_495.out; have hnc64 := NB495_510.out; have hnb65 := NB510_496.out; have hnc65 := NB496_510.out; have hnb66 := NB510_505.out; have hnc66 := NB505_510.out; have hcz67_0 : w63.cell? ⟨gb510, 0, none⟩ = some (.bool false) := (blk_cell BK510.out 0).trans rfl; have hcz67_1 : w63.cell? ⟨gb510, 1, none⟩ = some (.string (⟨#[]⟩ : ByteArray)) := (blk_cell BK510.out 1).trans rfl; have hcz67_2 : w63.cell? ⟨gb510, 2, none⟩ = some (.int .i64 0) := (blk_cell BK510.out 2).trans rfl; have hfz67_0 := blk_frozen BK510.out 0; have hfz67_1 := blk_frozen BK510.out 1; have hfz67_2 := blk_frozen BK510.out 2; have hcz68_0 : w63.cell? ⟨gb505, 0, none⟩ = some (.bool t501) := (blk_cell BK505.out 0).trans rfl; have hcz68_1 : w63.cell? ⟨gb505, 1, none⟩ = some (.string t502) := (blk_cell BK505.out 1).trans rfl; have hcz68_2 : w63.cell? ⟨gb505, 2, none⟩ = some (.int .i64 t503) := (blk_cell BK505.out 2).trans rfl; have hfz68_0 := blk_frozen BK505.out 0; have hfz68_1 := blk_frozen BK505.out 1; have hfz68_2 := blk_frozen BK505.out 2) | ((with_reducible refine gate_callee (f := 25) rfl ?_); refine goesL_ (some 61) rfl rfl Tryd.func25 (by kernel_rfl) rfl #[.int .i64 a0, .agg #[.bool t501, .string t502, .int .i64 t503], .int .i64 (wrap64 ((wrap64 (Int.tmod a3 40)) + 1))] rfl (by (try simp only [List.map_toArray]); (try simp only [List.map_cons]); (try simp only [List.map_nil]); first | done | rfl | (simp only [List.length_drop, List.length_take]; rfl)) ?_; (with_reducible refine (sig_Round.calls kj4 a0 t501 t502 t503 (wrap64 ((wrap64 (Int.tmod a3 40)) + 1)) t511 t512 t513 t514 _ ?side1 A46.out).mono ?_); (case side1 => exact Fig.Glob.below HG.out (by repeat (first | (with_reducible first | exact HB.out | apply below_alloc | apply pw_below_drewN | apply below_drew1 | refine below_set ?_ GE495.out | refine below_set ?_ GE496.out | refine below_set ?_ GE505.out | refine below_set ?_ GE510.out) | exact HB.out))); rintro e w69 ⟨rfl, hb⟩; refine ⟨_, rfl, ?_⟩; have n0_ := Aside0.mk (blk_below (g := gb495) (o := .cells #[.bool a1_0, .string a1_1, .int .i64 a1_2] 23 (0, 0)) (by (with_reducible repeat (first | refine blk_drewN ?_ _ | refine blk_drew ?_ | refine blk_alloc ?_ _)); refine blk_far ?_ NB495_510.out _; (with_reducible repeat (first | refine blk_drewN ?_ _ | refine blk_drew ?_ | refine blk_alloc ?_ _)); refine blk_far ?_ NB495_510.out _; (with_reducible repeat (first | refine blk_drewN ?_ _ | refine blk_drew ?_ | refine blk_alloc ?_ _)); refine blk_far ?_ NB495_510.out _; (with_reducible repeat (first | refine blk_drewN ?_ _ | refine blk_drew ?_ | refine blk_alloc ?_ _)); exact BK495.out) hb); have n1_ := Aside0.mk (blk_below (g := gb496) (o := .cells #[.bool a2_0, .string a2_1, .int .i64 a2_2] 23 (0, 0)) (by (with_reducible repeat (first | refine blk_drewN ?_ _ | refine blk_drew ?_ | refine blk_alloc ?_ _)); refine blk_far ?_ NB496_510.out _; (with_reducible repeat (first | refine blk_drewN ?_ _ | refine blk_drew ?_ | refine blk_alloc ?_ _)); refine blk_far ?_ NB496_510.out _; (with_reducible repeat (first | refine blk_drewN ?_ _ | refine blk_drew ?_ | refine blk_alloc ?_ _)); refine blk_far ?_ NB496_510.out _; (with_reducible repeat (first | refine blk_drewN ?_ _ | refine blk_drew ?_ | refine blk_alloc ?_ _)); exact BK496.out) hb); have n2_ := Aside0.mk (blk_below (g := gb505) (o := .cells #[.bool t501, .string t502, .int .i64 t503] 23 (0, 0)) (by (with_reducible repeat (first | refine blk_drewN ?_ _ | refine blk_drew ?_ | refine blk_alloc ?_ _)); refine blk_far ?_ NB505_510.out _; (with_reducible repeat (first | refine blk_drewN ?_ _ | refine blk_drew ?_ | refine blk_alloc ?_ _)); refine blk_far ?_ NB505_510.out _; (with_reducible repeat (first | refine blk_drewN ?_ _ | refine blk_drew ?_ | refine blk_alloc ?_ _)); refine blk_far ?_ NB505_510.out _; (with_reducible repeat (first | refine blk_drewN ?_ _ | refine blk_drew ?_ | refine blk_alloc ?_ _)); exact BK505.out) hb); have n3_ := Aside0.mk (blk_below (g := gb510) (o := .cells #[.bool t506, .string t507, .int .i64 t508] 23 (0, 0)) (by (with_reducible repeat (first | refine blk_drewN ?_ _ | refine blk_drew ?_ | refine blk_alloc ?_ _)); refine blk_put (cs := #[.bool t506, .string t507, .int .i64 0]) ?_ 2 _ rfl; (with_reducible repeat (first | refine blk_drewN ?_ _ | refine blk_drew ?_ | refine blk_alloc ?_ _)); refine blk_put (cs := #[.bool t506, .string (⟨#[]⟩ : ByteArray), .int .i64 0]) ?_ 1 _ rfl; (with_reducible repeat (first | refine blk_drewN ?_ _ | refine blk_drew ?_ | refine blk_alloc ?_ _)); refine blk_put (cs := #[.bool false, .string (⟨#[]⟩ : ByteArray), .int .i64 0]) ?_ 0 _ rfl; (with_reducible repeat (first | refine blk_drewN ?_ _ | refine blk_drew ?_ | refine blk_alloc ?_ _)); exact BK510.out) hb); have n4_ := Aside0.mk (below_step (by repeat (first | (with_reducible first | exact HB.out | apply below_alloc | apply pw_below_drewN | apply below_drew1 | refine below_set ?_ GE495.out | refine below_set ?_ GE496.out | refine below_set ?_ GE505.out | refine below_set ?_ GE510.out) | exact HB.out)) hb); clear BK495; clear BK496; clear BK505; clear BK510; clear HB; have BK495 := n0_; have BK496 := n1_; have BK505 := n2_; have BK510 := n3_; have HB := n4_; clear n0_ n1_ n2_ n3_ n4_; (try clear hb); (try clear hb2); (try clear hk); (try clear hi)) | ((with_reducible refine gate_dst (N := 14) rfl ?_); refine box_event ?hg (N := 14) ?hd (cs := #[.bool false, .string (⟨#[]⟩ : ByteArray), .int .i64 0]) (t := 23) ?hr ?_; (case hd => rfl); (case hg => rfl); (case hr => first | (go_simp; done) | (go_simp; rfl)); intro gb515 hg w70 hbox hb; have n0_ := Aside0.mk (blk_below (g := gb495) (o := .cells #[.bool a1_0, .string a1_1, .int .i64 a1_2] 23 (0, 0)) (by (with_reducible repeat (first | refine blk_drewN ?_ _ | refine blk_drew ?_ | refine blk_alloc ?_ _)); exact BK495.out) hb); have n1_ := Aside0.mk (blk_below (g := gb496) (o := .cells #[.bool a2_0, .string a2_1, .int .i64 a2_2] 23 (0, 0)) (by (with_reducible repeat (first | refine blk_drewN ?_ _ | refine blk_drew ?_ | refine blk_alloc ?_ _)); exact BK496.out) hb); have n2_ := Aside0.mk (blk_below (g := gb505) (o := .cells #[.bool t501, .string t502, .int .i64 t503] 23 (0, 0)) (by (with_reducible repeat (first | refine blk_drewN ?_ _ | refine blk_drew ?_ | refine blk_alloc ?_ _)); exact BK505.out) hb); have n3_ := Aside0.mk (blk_below (g := gb510) (o := .cells #[.bool t506, .string t507, .int .i64 t508] 23 (0, 0)) (by (with_reducible repeat (first | refine blk_drewN ?_ _ | refine blk_drew ?_ | refine blk_alloc ?_ _)); exact BK510.out) hb); have n4_ := Aside0.mk (below_step (by repeat (first | (with_reducible first | exact HB.out | apply below_alloc | apply pw_below_drewN | apply below_drew1 | refine below_set ?_ GE495.out | refine below_set ?_ GE496.out | refine below_set ?_ GE505.out | refine below_set ?_ GE510.out) | exact HB.out)) hb); have n5_ := Aside0.mk (hbox); have n6_ := Aside0.mk ((by rw [hg]; exact (below_size (by repeat (first | (with_reducible first | exact HB.out | apply below_alloc | apply pw_below_drewN | apply below_drew1 | refine below_set ?_ GE495.out | refine below_set ?_ GE496.out | refine below_set ?_ GE505.out | refine below_set ?_ GE510.out) | exact HB.out))) : w.heap.size ≤ gb515)); have n7_ := Aside0.mk ((by rw [hg]; exact (below_size (by repeat (first | (with_reducible first | exact HB.out | apply below_alloc | apply pw_below_drewN | apply below_drew1 | refine below_set ?_ GE495.out | refine below_set ?_ GE496.out | refine below_set ?_ GE505.out | refine below_set ?_ GE510.out) | exact HB.out))) : w.heap.size ≤ gb515)); have n8_ := Aside0.mk ((by rw [hg]; exact Nat.ne_of_lt (blk_lt (g := gb495) (o := .cells #[.bool a1_0, .string a1_1, .int .i64 a1_2] 23 (0, 0)) (by (with_reducible repeat (first | refine blk_drewN ?_ _ | refine blk_drew ?_ | refine blk_alloc ?_ _)); exact BK495.out)) : gb495 ≠ gb515)); have n9_ := Aside0.mk ((by rw [hg]; exact Nat.ne_of_gt (blk_lt (g := gb495) (o := .cells #[.bool a1_0, .string a1_1, .int .i64 a1_2] 23 (0, 0)) (by (with_reducible repeat (first | refine blk_drewN ?_ _ | refine blk_drew ?_ | refine blk_alloc ?_ _)); exact BK495.out)) : gb515 ≠ gb495)); have n10_ := Aside0.mk ((by rw [hg]; exact Nat.ne_of_lt (blk_lt (g := gb496) (o := .cells #[.bool a2_0, .string a2_1, .int .i64 a2_2] 23 (0, 0)) (by (with_reducible repeat (first | refine blk_drewN ?_ _ | refine blk_drew ?_ | refine blk_alloc ?_ _)); exact BK496.out)) : gb496 ≠ gb515)); have n11_ := Aside0.mk ((by rw [hg]; exact Nat.ne_of_gt (blk_lt (g := gb496) (o := .cells #[.bool a2_0, .string a2_1, .int .i64 a2_2] 23 (0, 0)) (by (with_reducible repeat (first | refine blk_drewN ?_ _ | refine blk_drew ?_ | refine blk_alloc ?_ _)); exact BK496.out)) : gb515 ≠ gb496)); have n12_ := Aside0.mk ((by rw [hg]; exact Nat.ne_of_lt (blk_lt (g := gb505) (o := .cells #[.bool t501, .string t502, .int .i64 t503] 23 (0, 0)) (by (with_reducible repeat (first | refine blk_drewN ?_ _ | refine blk_drew ?_ | refine blk_alloc ?_ _)); exact BK505.out)) : gb505 ≠ gb515)); have n13_ := Aside0.mk ((by rw [hg]; exact Nat.ne_of_gt (blk_lt (g := gb505) (o := .cells #[.bool t501, .string t502, .int .i64 t503] 23 (0, 0)) (by (with_reducible repeat (first | refine blk_drewN ?_ _ | refine blk_drew ?_ | refine blk_alloc ?_ _)); exact BK505.out)) : gb515 ≠ gb505)); have n14_ := Aside0.mk ((by rw [hg]; exact Nat.ne_of_lt (blk_lt (g := gb510) (o := .cells #[.bool t506, .string t507, .int .i64 t508] 23 (0, 0)) (by (with_reducible repeat (first | refine blk_drewN ?_ _ | refine blk_drew ?_ | refine blk_alloc ?_ _)); exact BK510.out)) : gb510 ≠ gb515)); have n15_ := Aside0.mk ((by rw [hg]; exact Nat.ne_of_gt (blk_lt (g := gb510) (o := .cells #[.bool t506, .string t507, .int .i64 t508] 23 (0, 0)) (by (with_reducible repeat (first | refine blk_drewN ?_ _ | refine blk_drew ?_ | refine blk_alloc ?_ _)); exact BK510.out)) : gb515 ≠ gb510)); clear BK495; clear BK496; clear BK505; clear BK510; clear HB; have BK495 := n0_; have BK496 := n1_; have BK505 := n2_; have BK510 := n3_; have HB := n4_; have BK515 := n5_; have GW515 := n6_; have GE515 := n7_; have NB495_515 := n8_; have NB515_495 := n9_; have NB496_515 := n10_; have NB515_496 := n11_; have NB505_515 := n12_; have NB515_505 := n13_; have NB510_515 := n14_; have NB515_510 := n15_; clear n0_ n1_ n2_ n3_ n4_ n5_ n6_ n7_ n8_ n9_ n10_ n11_ n12_ n13_ n14_ n15_; clear hb hbox hg; have hnb71 := NB515_495.out; have hnc71 := NB495_515.out; have hnb72 := NB515_496.out; have hnc72 := NB496_515.out; have hnb73 := NB515_505.out; have hnc73 := NB505_515.out; have hnb74 := NB515_510.out; have hnc74 := NB510_515.out; have hcz75_0 : w70.cell? ⟨gb515, 0, none⟩ = some (.bool false) := (blk_cell BK515.out 0).trans rfl; have hcz75_1 : w70.cell? ⟨gb515, 1, none⟩ = some (.string (⟨#[]⟩ : ByteArray)) := (blk_cell BK515.out 1).trans rfl; have hcz75_2 : w70.cell? ⟨gb515, 2, none⟩ = some (.int .i64 0) := (blk_cell BK515.out 2).trans rfl; have hfz75_0 := blk_frozen BK515.out 0; have hfz75_1 := blk_frozen BK515.out 1; have hfz75_2 := blk_frozen BK515.out 2) | ((with_reducible refine gate_callee (f := 24) rfl ?_); refine goesL_ (some 64) rfl rfl Tryd.func24 (by kernel_rfl) rfl #[] rfl (by (try simp only [List.map_toArray]); (try simp only [List.map_cons]); (try simp only [List.map_nil]); first | done | rfl | (simp only [List.length_drop, List.length_take]; rfl)) ?_; (with_reducible refine (figureheadlaw09_answers.calls kj4  true _ ?side1 ?side2 A47.out).mono ?_); (case side1 => exact Fig.Glob.below HG.out (by repeat (first | (with_reducible first | exact HB.out | apply below_alloc | apply pw_below_drewN | apply below_drew1 | refine below_set ?_ GE495.out | refine below_set ?_ GE496.out | refine below_set ?_ GE505.out | refine below_set ?_ GE510.out | refine below_set ?_ GE515.out) | exact HB.out))); (case side2 => exact ⟨by first | rfl | exact HT.out⟩); rintro e w76 ⟨rfl, hb⟩; refine ⟨_, rfl, ?_⟩; have n0_ := Aside0.mk (blk_below (g := gb495) (o := .cells #[.bool a1_0, .string a1_1, .int .i64 a1_2] 23 (0, 0)) (by (with_reducible repeat (first | refine blk_drewN ?_ _ | refine blk_drew ?_ | refine blk_alloc ?_ _)); refine blk_far ?_ NB495_515.out _; (with_reducible repeat (first | refine blk_drewN ?_ _ | refine blk_drew ?_ | refine blk_alloc ?_ _)); refine blk_far ?_ NB495_515.out _; (with_reducible repeat (first | refine blk_drewN ?_ _ | refine blk_drew ?_ | refine blk_alloc ?_ _)); refine blk_far ?_ NB495_515.out _; (with_reducible repeat (first | refine blk_drewN ?_ _ | refine blk_drew ?_ | refine blk_alloc ?_ _)); exact BK495.out) hb); have n1_ := Aside0.mk (blk_below (g := gb496) (o := .cells #[.bool a2_0, .string a2_1, .int .i64 a2_2] 23 (0, 0)) (by (with_reducible repeat (first | refine blk_drewN ?_ _ | refine blk_drew ?_ | refine blk_alloc ?_ _)); refine blk_far ?_ NB496_515.out _; (with_reducible repeat (first | refine blk_drewN ?_ _ | refine blk_drew ?_ | refine blk_alloc ?_ _)); refine blk_far ?_ NB496_515.out _; (with_reducible repeat (first | refine blk_drewN ?_ _ | refine blk_drew ?_ | refine blk_alloc ?_ _)); refine blk_far ?_ NB496_515.out _; (with_reducible repeat (first | refine blk_drewN ?_ _ | refine blk_drew ?_ | refine blk_alloc ?_ _)); exact BK496.out) hb); have n2_ := Aside0.mk (blk_below (g := gb505) (o := .cells #[.bool t501, .string t502, .int .i64 t503] 23 (0, 0)) (by (with_reducible repeat (first | refine blk_drewN ?_ _ | refine blk_drew ?_ | refine blk_alloc ?_ _)); refine blk_far ?_ NB505_515.out _; (with_reducible repeat (first | refine blk_drewN ?_ _ | refine blk_drew ?_ | refine blk_alloc ?_ _)); refine blk_far ?_ NB505_515.out _; (with_reducible repeat (first | refine blk_drewN ?_ _ | refine blk_drew ?_ | refine blk_alloc ?_ _)); refine blk_far ?_ NB505_515.out _; (with_reducible repeat (first | refine blk_drewN ?_ _ | refine blk_drew ?_ | refine blk_alloc ?_ _)); exact BK505.out) hb); have n3_ := Aside0.mk (blk_below (g := gb510) (o := .cells #[.bool t506, .string t507, .int .i64 t508] 23 (0, 0)) (by (with_reducible repeat (first | refine blk_drewN ?_ _ | refine blk_drew ?_ | refine blk_alloc ?_ _)); refine blk_far ?_ NB510_515.out _; (with_reducible repeat (first | refine blk_drewN ?_ _ | refine blk_drew ?_ | refine blk_alloc ?_ _)); refine blk_far ?_ NB510_515.out _; (with_reducible repeat (first | refine blk_drewN ?_ _ | refine blk_drew ?_ | refine blk_alloc ?_ _)); refine blk_far ?_ NB510_515.out _; (with_reducible repeat (first | refine blk_drewN ?_ _ | refine blk_drew ?_ | refine blk_alloc ?_ _)); exact BK510.out) hb); have n4_ := Aside0.mk (blk_below (g := gb515) (o := .cells #[.bool t511, .string t512, .int .i64 t513] 23 (0, 0)) (by (with_reducible repeat (first | refine blk_drewN ?_ _ | refine blk_drew ?_ | refine blk_alloc ?_ _)); refine blk_put (cs := #[.bool t511, .string t512, .int .i64 0]) ?_ 2 _ rfl; (with_reducible repeat (first | refine blk_drewN ?_ _ | refine blk_drew ?_ | refine blk_alloc ?_ _)); refine blk_put (cs := #[.bool t511, .string (⟨#[]⟩ : ByteArray), .int .i64 0]) ?_ 1 _ rfl; (with_reducible repeat (first | refine blk_drewN ?_ _ | refine blk_drew ?_ | refine blk_alloc ?_ _)); refine blk_put (cs := #[.bool false, .string (⟨#[]⟩ : ByteArray), .int .i64 0]) ?_ 0 _ rfl; (with_reducible repeat (first | refine blk_drewN ?_ _ | refine blk_drew ?_ | refine blk_alloc ?_ _)); exact BK515.out) hb); have n5_ := Aside0.mk (below_step (by repeat (first | (with_reducible first | exact HB.out | apply below_alloc | apply pw_below_drewN | apply below_drew1 | refine below_set ?_ GE495.out | refine below_set ?_ GE496.out | refine below_set ?_ GE505.out | refine below_set ?_ GE510.out | refine below_set ?_ GE515.out) | exact HB.out)) hb); clear BK495; clear BK496; clear BK505; clear BK510; clear BK515; clear HB; have BK495 := n0_; have BK496 := n1_; have BK505 := n2_; have BK510 := n3_; have BK515 := n4_; have HB := n5_; clear n0_ n1_ n2_ n3_ n4_ n5_; (try clear hb); (try clear hb2); (try clear hk); (try clear hi); have hcz77_0 : w76.cell? ⟨gb505, 0, none⟩ = some (.bool t501) := (blk_cell BK505.out 0).trans rfl; have hcz77_1 : w76.cell? ⟨gb505, 1, none⟩ = some (.string t502) := (blk_cell BK505.out 1).trans rfl; have hcz77_2 : w76.cell? ⟨gb505, 2, none⟩ = some (.int .i64 t503) := (blk_cell BK505.out 2).trans rfl; have hfz77_0 := blk_frozen BK505.out 0; have hfz77_1 := blk_frozen BK505.out 1; have hfz77_2 := blk_frozen BK505.out 2; have hcz78_0 : w76.cell? ⟨gb510, 0, none⟩ = some (.bool t506) := (blk_cell BK510.out 0).trans rfl; have hcz78_1 : w76.cell? ⟨gb510, 1, none⟩ = some (.string t507) := (blk_cell BK510.out 1).trans rfl; have hcz78_2 : w76.cell? ⟨gb510, 2, none⟩ = some (.int .i64 t508) := (blk_cell BK510.out 2).trans rfl; have hfz78_0 := blk_frozen BK510.out 0; have hfz78_1 := blk_frozen BK510.out 1; have hfz78_2 := blk_frozen BK510.out 2) | ((with_reducible refine gate_dst (N := 76) rfl ?_); (refine gate_guard (by rfl) ?_; dsimp only); (with_reducible refine gate_callee (f := 20) rfl ?_); refine goesL_ (some 76) rfl rfl Tryd.func20 (by kernel_rfl) rfl #[.agg #[.bool t501, .string t502, .int .i64 t503], .agg #[.bool t506, .string t507, .int .i64 t508]] rfl (by (try simp only [List.map_toArray]); (try simp only [List.map_cons]); (try simp only [List.map_nil]); first | done | rfl | (simp only [List.length_drop, List.length_take]; rfl)) ?_; (with_reducible refine (figureheadref05_Cmp.calls kj4 t501 t502 t503 t506 t507 t508 t517 _ A51.out).mono ?_); rintro e w79 ⟨rfl, hb⟩; refine ⟨_, rfl, ?_⟩; have n0_ := Aside0.mk (blk_below (g := gb495) (o := .cells #[.bool a1_0, .string a1_1, .int .i64 a1_2] 23 (0, 0)) (by (with_reducible repeat (first | refine blk_drewN ?_ _ | refine blk_drew ?_ | refine blk_alloc ?_ _)); exact BK495.out) hb); have n1_ := Aside0.mk (blk_below (g := gb496) (o := .cells #[.bool a2_0, .string a2_1, .int .i64 a2_2] 23 (0, 0)) (by (with_reducible repeat (first | refine blk_drewN ?_ _ | refine blk_drew ?_ | refine blk_alloc ?_ _)); exact BK496.out) hb); have n2_ := Aside0.mk (blk_below (g := gb505) (o := .cells #[.bool t501, .string t502, .int .i64 t503] 23 (0, 0)) (by (with_reducible repeat (first | refine blk_drewN ?_ _ | refine blk_drew ?_ | refine blk_alloc ?_ _)); exact BK505.out) hb); have n3_ := Aside0.mk (blk_below (g := gb510) (o := .cells #[.bool t506, .string t507, .int .i64 t508] 23 (0, 0)) (by (with_reducible repeat (first | refine blk_drewN ?_ _ | refine blk_drew ?_ | refine blk_alloc ?_ _)); exact BK510.out) hb); have n4_ := Aside0.mk (blk_below (g := gb515) (o := .cells #[.bool t511, .string t512, .int .i64 t513] 23 (0, 0)) (by (with_reducible repeat (first | refine blk_drewN ?_ _ | refine blk_drew ?_ | refine blk_alloc ?_ _)); exact BK515.out) hb); have n5_ := Aside0.mk (below_step (by repeat (first | (with_reducible first | exact HB.out | apply below_alloc | apply pw_below_drewN | apply below_drew1 | refine below_set ?_ GE495.out | refine below_set ?_ GE496.out | refine below_set ?_ GE505.out | refine below_set ?_ GE510.out | refine below_set ?_ GE515.out) | exact HB.out)) hb); clear BK495; clear BK496; clear BK505; clear BK510; clear BK515; clear HB; have BK495 := n0_; have BK496 := n1_; have BK505 := n2_; have BK510 := n3_; have BK515 := n4_; have HB := n5_; clear n0_ n1_ n2_ n3_ n4_ n5_; (try clear hb); (try clear hb2); (try clear hk); (try clear hi); have hcz80_0 : w79.cell? ⟨gb515, 0, none⟩ = some (.bool t511) := (blk_cell BK515.out 0).trans rfl; have hcz80_1 : w79.cell? ⟨gb515, 1, none⟩ = some (.string t512) := (blk_cell BK515.out 1).trans rfl; have hcz80_2 : w79.cell? ⟨gb515, 2, none⟩ = some (.int .i64 t513) := (blk_cell BK515.out 2).trans rfl; have hfz80_0 := blk_frozen BK515.out 0; have hfz80_1 := blk_frozen BK515.out 1; have hfz80_2 := blk_frozen BK515.out 2; have hcz81_0 : w79.cell? ⟨gb505, 0, none⟩ = some (.bool t501) := (blk_cell BK505.out 0).trans rfl; have hcz81_1 : w79.cell? ⟨gb505, 1, none⟩ = some (.string t502) := (blk_cell BK505.out 1).trans rfl; have hcz81_2 : w79.cell? ⟨gb505, 2, none⟩ = some (.int .i64 t503) := (blk_cell BK505.out 2).trans rfl; have hfz81_0 := blk_frozen BK505.out 0; have hfz81_1 := blk_frozen BK505.out 1; have hfz81_2 := blk_frozen BK505.out 2))
                  go_ret
                  exact ⟨by first | rfl | (simp [errW_none, errW_some] <;> rfl) | (simp [*, errW_none, errW_some] <;> rfl), by repeat (first | (with_reducible first | exact HB.out | apply below_alloc | apply pw_below_drewN | apply below_drew1 | refine below_set ?_ GE495.out | refine below_set ?_ GE496.out | refine below_set ?_ GE505.out | refine below_set ?_ GE510.out | refine below_set ?_ GE515.out) | exact HB.out)⟩
                · rw [if_neg c53] at H
                  have c53b0 : (t514 == 0) = false := beq_eq_false_iff_ne.mpr c53
                  have c53b1 : (t514 != 0) = true := bne_iff_ne.mpr c53
                  exact absurd ((Option.some.inj H).trans HT.out) (by decide)
              · rw [if_neg c52] at H
                have c52b0 : decide (t517 ≤ 0) = false := decide_eq_false c52
                clear c52
                exact absurd ((Option.some.inj H).trans HT.out) (by decide)
            · rw [if_neg c50] at H
              have c50b0 : (t509 == 0) = false := beq_eq_false_iff_ne.mpr c50
              have c50b1 : (t509 != 0) = true := bne_iff_ne.mpr c50
              exact absurd ((Option.some.inj H).trans HT.out) (by decide)
          · rw [if_neg c49] at H
            have c49b0 : (t504 == 0) = false := beq_eq_false_iff_ne.mpr c49
            have c49b1 : (t504 != 0) = true := bne_iff_ne.mpr c49
            exact absurd ((Option.some.inj H).trans HT.out) (by decide)
        · replace c48 := Bool.eq_false_iff.mpr c48
          subst c48
          have H1 : (some false) = some r := by rw [if_neg (show ¬ (false = true) by decide)] at H; exact H
          clear H
          have H := H1
          clear H1
          exact absurd ((Option.some.inj H).trans HT.out) (by decide)
end Go.Proofs.YtjpokifkbclkiaaDoor.Px
end
section
namespace Go.Proofs.YtjpokifkbclkiaaDoor.Px
open Fig Go.RowKit Go.Proofs.YtjpokifkbclkiaaDoorW.PrintWords Go.Proofs.YtjpokifkbclkiaaDoorW.PrintLast Go.Proofs.YtjpokifkbclkiaaDoorW.PrintMore
attribute [local go_sem] max2_int min2_int max_two min_two max_three min_three max_four min_four   -- for this text's walks alone
attribute [local go_sem] fieldA23_0 fieldA23_1 fieldA23_2
theorem Less_eq (m n : Nat) : figureheadref01_Less.f (digB m) (digB n) = some (decide (m < n)) := by
  unfold figureheadref01_Less.f
  rw [digB_size, digB_size]
  by_cases h : (digs m).length = (digs n).length
  · rw [if_pos (by omega)]
    rw [ByteArray.toList_eq, ByteArray.toList_eq, digB_list, digB_list, less_same (digs_dig m) (digs_dig n) h, digs_val, digs_val]
  · rw [if_neg (by omega)]
    congr 1
    rw [decide_eq_decide]
    constructor
    · intro h1; exact digs_len_lt (by omega)
    · intro h1
      rcases Nat.lt_or_ge (digs m).length (digs n).length with h2 | h2
      · omega
      · have := digs_len_lt (m := n) (n := m) (by omega); omega
end Go.Proofs.YtjpokifkbclkiaaDoor.Px
end
section
namespace Go.Proofs.YtjpokifkbclkiaaDoor.Px
open Fig Go.RowKit Go.Proofs.YtjpokifkbclkiaaDoorW.PrintWords Go.Proofs.YtjpokifkbclkiaaDoorW.PrintLast Go.Proofs.YtjpokifkbclkiaaDoorW.PrintMore
attribute [local go_sem] max2_int min2_int max_two min_two max_three min_three max_four min_four   -- for this text's walks alone
attribute [local go_sem] fieldA23_0 fieldA23_1 fieldA23_2
theorem Zeros_loop (m : Nat) (hm : m ≤ 1000000) : ∀ (d n : Nat), m - n = d → n ≤ m → Ev (fun k => figureheadref01_Zeros.l0 k (m : Int) (List.replicate n 48) (n : Int)) (strOfNums (List.replicate m 48))
  | 0, n, hd, hn => by
    obtain rfl : n = m := by omega
    refine evDone (r' := strOfNums (List.replicate n 48)) (fun k => ?_) rfl
    simp only [figureheadref01_Zeros.l0]; rw [if_neg (by omega)]
  | d + 1, n, hd, hn => by
    refine Ev.step (f := fun k => figureheadref01_Zeros.l0 k (m : Int) (List.replicate (n + 1) 48) ((n + 1 : Nat) : Int)) (fun k => ?_) (Zeros_loop m hm d (n + 1) (by omega) (by omega))
    simp only [figureheadref01_Zeros.l0]
    rw [if_pos (by omega), if_pos (by rw [List.length_replicate]; omega), List.replicate_succ', w64 (by omega) (by omega)]; rfl
def zerosB (m : Nat) : ByteArray := strOfNums (List.replicate m 48)
theorem Zeros_ev {m : Nat} (hm : m ≤ 1000000) : Ev (fun k => figureheadref01_Zeros.f k (m : Int)) (zerosB m) := Zeros_loop m hm m 0 (by omega) (by omega)
theorem zerosB_list (m : Nat) : (zerosB m).data.toList = List.replicate m 48 := by rw [zerosB, B_nums, List.map_replicate]; rfl
theorem zerosB_size (m : Nat) : (zerosB m).size = m := by rw [size_eq, zerosB_list, List.length_replicate]
end Go.Proofs.YtjpokifkbclkiaaDoor.Px
end
section
namespace Go.Proofs.YtjpokifkbclkiaaDoor.Px
open Fig Go.RowKit Go.Proofs.YtjpokifkbclkiaaDoorW.PrintWords Go.Proofs.YtjpokifkbclkiaaDoorW.PrintLast Go.Proofs.YtjpokifkbclkiaaDoorW.PrintMore
attribute [local go_sem] max2_int min2_int max_two min_two max_three min_three max_four min_four   -- for this text's walks alone
attribute [local go_sem] fieldA23_0 fieldA23_1 fieldA23_2
theorem At05_ev {b : Bool} {s : ByteArray} {e x : Int} (h : OkD s e) (h1 : x ≤ e) (h2 : -100000 ≤ x) : Ev (fun k => figureheadref05_At.f k b s e x) (digB (atE (vB s) e x)) := by
  have hs := h.sz
  have hl := h.lo
  have hh := h.hi
  have hz := h.val
  unfold figureheadref05_At.f
  refine Ev.bind (StripD_ev (by omega) h.d) ?_
  by_cases h0 : vB s = 0
  · simp only [digB_toList_nil.2 h0, if_true]
    rw [h0, atE_zero, digB_zero]
    exact Ev.now _
  · have h3 : ¬ (digB (vB s)).toList = ([] : List UInt8) := fun hh => h0 (digB_toList_nil.1 hh)
    obtain ⟨m, hm⟩ : ∃ m : Nat, m = (e - x).toNat := ⟨_, rfl⟩
    have hw : wrap64 (e - x) = (m : Int) := by rw [w64 (by omega) (by omega)]; omega
    simp only [h3, if_false, hw]
    refine Ev.bind (Zeros_ev (by omega)) ?_
    have hc : (digB (vB s)).size + (zerosB m).size ≤ 9223372036854775807 := by rw [zerosB_size]; omega
    simp only [hc, if_true]
    refine evIs (Ev.now _) ?_
    apply B_ext
    rw [B_append, digB_list, digB_list, zerosB_list]
    unfold atE
    rw [digs_pow h0, ← hm]
end Go.Proofs.YtjpokifkbclkiaaDoor.Px
end
section
namespace Go.Proofs.YtjpokifkbclkiaaDoor.Px
open Fig Go.RowKit Go.Proofs.YtjpokifkbclkiaaDoorW.PrintWords Go.Proofs.YtjpokifkbclkiaaDoorW.PrintLast Go.Proofs.YtjpokifkbclkiaaDoorW.PrintMore
attribute [local go_sem] max2_int min2_int max_two min_two max_three min_three max_four min_four   -- for this text's walks alone
attribute [local go_sem] fieldA23_0 fieldA23_1 fieldA23_2
theorem digB_toList_inj {m n : Nat} : (digB m).toList = (digB n).toList ↔ m = n := by
  constructor
  · intro h; apply digB_inj; apply B_ext; rw [← ByteArray.toList_eq, h, ByteArray.toList_eq]
  · rintro rfl; rfl
theorem Cmp05_j1 (a b : Bool) (x y : Nat) (s t : ByteArray) (e f : Int) : Ev (fun k => figureheadref05_Cmp.j1 k (digB x) (digB y) (decide (x = 0 ∧ y = 0)) a s e b t f) (cmpZ (sg a x) (sg b y)) := by
  rw [cmpZ_signs]
  by_cases hz : x = 0 ∧ y = 0
  · rw [if_pos hz]
    refine evDone (r' := 0) (fun k => ?_) rfl
    simp [figureheadref05_Cmp.j1, hz]
  · rw [if_neg hz]
    cases a <;> cases b
    · by_cases he : x = y
      · subst he
        refine evDone (r' := 0) (fun k => ?_) (by simp [cmp_self])
        simp [figureheadref05_Cmp.j1]
      · have h1 : ¬ (digB x).toList = (digB y).toList := fun hh => he (digB_toList_inj.1 hh)
        refine evDone (r' := if x < y then -1 else 1) (fun k => ?_) ?_
        · simp only [figureheadref05_Cmp.j1, hz, decide_false, Bool.false_eq_true, if_false, bne_self_eq_false, h1, Less_eq, Option.bind_some]
          by_cases hl : x < y <;> simp [hl]
        · unfold cmpN
          by_cases hl : x < y
          · simp [hl]
          · have : y < x := by omega
            simp [hl, this]
    · refine evDone (r' := 1) (fun k => ?_) (by simp)
      simp [figureheadref05_Cmp.j1, hz]
    · refine evDone (r' := -1) (fun k => ?_) (by simp)
      simp [figureheadref05_Cmp.j1, hz]
    · by_cases he : x = y
      · subst he
        refine evDone (r' := 0) (fun k => ?_) (by simp [cmp_self])
        simp [figureheadref05_Cmp.j1]
      · have h1 : ¬ (digB x).toList = (digB y).toList := fun hh => he (digB_toList_inj.1 hh)
        refine evDone (r' := if x < y then 1 else -1) (fun k => ?_) ?_
        · simp only [figureheadref05_Cmp.j1, hz, decide_false, Bool.false_eq_true, if_false, bne_self_eq_false, h1, Less_eq, Option.bind_some]
          by_cases hl : x < y <;> simp [hl]
        · unfold cmpN
          by_cases hl : x < y
          · have : ¬ y < x := by omega
            simp [hl, this]
          · have : y < x := by omega
            simp [hl, this]
theorem Cmp05_j0 {a b : Bool} {s t : ByteArray} {e f m : Int} (h : OkD s e) (g : OkD t f) (h1 : m ≤ e) (h2 : m ≤ f) (h3 : -100000 ≤ m) : Ev (fun k => figureheadref05_Cmp.j0 k m a s e b t f) (cmpD a (vB s) e b (vB t) f) := by
  rw [cmpD_at h1 h2]
  refine Ev.step (fun k => by simp only [figureheadref05_Cmp.j0]; rfl) ?_
  refine Ev.bind (At05_ev h h1 h3) (Ev.bind (At05_ev g h2 h3) ?_)
  have := Cmp05_j1 a b (atE (vB s) e m) (atE (vB t) f m) s t e f
  by_cases hx : atE (vB s) e m = 0
  · simp only [digB_toList_nil.2 hx, if_true]
    have hy : ((digB (atE (vB t) f m)).toList == ([] : List UInt8)) = decide (atE (vB s) e m = 0 ∧ atE (vB t) f m = 0) := by
      rw [Bool.eq_iff_iff, beq_iff_eq, decide_eq_true_eq, digB_toList_nil]; simp [hx]
    rw [hy]; exact this
  · have hx2 : ¬ (digB (atE (vB s) e m)).toList = ([] : List UInt8) := fun hh => hx (digB_toList_nil.1 hh)
    simp only [hx2, if_false]
    have hy : decide (atE (vB s) e m = 0 ∧ atE (vB t) f m = 0) = false := by simp [hx]
    rw [hy] at this; exact this
theorem Cmp05_ev {a b : Bool} {s t : ByteArray} {e f : Int} (h : OkD s e) (g : OkD t f) : Ev (fun k => figureheadref05_Cmp.f k a s e b t f) (cmpD a (vB s) e b (vB t) f) := by
  unfold figureheadref05_Cmp.f
  by_cases hc : f < e
  · simp only [hc, if_true]; exact Cmp05_j0 h g (by omega) (by omega) g.lo
  · simp only [hc, if_false]; exact Cmp05_j0 h g (by omega) (by omega) h.lo
end Go.Proofs.YtjpokifkbclkiaaDoor.Px
end
section
namespace Go.Proofs.YtjpokifkbclkiaaDoor.Px
open Fig Go.RowKit Go.Proofs.YtjpokifkbclkiaaDoorW.PrintWords Go.Proofs.YtjpokifkbclkiaaDoorW.PrintLast Go.Proofs.YtjpokifkbclkiaaDoorW.PrintMore
attribute [local go_sem] max2_int min2_int max_two min_two max_three min_three max_four min_four   -- for this text's walks alone
attribute [local go_sem] fieldA23_0 fieldA23_1 fieldA23_2
theorem Digits_loop (s : ByteArray) (hs : s.size ≤ 4611686018427387904) : ∀ (d n : Nat), s.size - n = d → n ≤ s.size → Ev (fun k => figureheadref05_Digits.l0 k s (n : Int)) (digL (s.data.toList.drop n) && decide (s.size ≠ 0))
  | 0, n, hd, hn => by
    refine evDone (r' := (s.toList != ([] : List UInt8))) (fun k => ?_) ?_
    · simp only [figureheadref05_Digits.l0]; rw [if_neg (by omega)]
    · rw [List.drop_of_length_le (by rw [← size_eq]; omega), bne_nil, ByteArray.toList_eq, size_eq]
      cases s.data.toList <;> simp [digL]
  | d + 1, n, hd, hn => by
    have hlt : n < s.size := by omega
    have hbt := bt_get hlt
    have hc := List.drop_eq_getElem_cons (l := s.data.toList) (i := n) (by rw [← size_eq]; exact hlt)
    rw [hc]
    generalize hx : s.data.toList[n]'(by rw [← size_eq]; exact hlt) = c at hbt
    by_cases h1 : c.toNat < 48
    · refine evDone (r' := false) (fun k => ?_) ?_
      · simp only [figureheadref05_Digits.l0]; rw [if_pos (by omega), if_pos (by omega), hbt, if_pos (by omega)]
      · have : isD c = false := by unfold isD; simp; omega
        simp [digL, this]
    · by_cases h2 : c.toNat > 57
      · refine evDone (r' := false) (fun k => ?_) ?_
        · simp only [figureheadref05_Digits.l0]; rw [if_pos (by omega), if_pos (by omega), hbt, if_neg (by omega), if_pos (by omega)]
        · have : isD c = false := by unfold isD; simp; omega
          simp [digL, this]
      · have hd1 : isD c = true := isD_iff.2 ⟨by omega, by omega⟩
        refine evIs (Ev.step (f := fun k => figureheadref05_Digits.l0 k s ((n + 1 : Nat) : Int)) (fun k => ?_) (Digits_loop s hs d (n + 1) (by omega) (by omega))) ?_
        · simp only [figureheadref05_Digits.l0]; rw [if_pos (by omega), if_pos (by omega), hbt, if_neg (by omega), if_neg (by omega), succ64 _ (by omega)]
        · simp [digL, hd1]
theorem Digits05_ev {s : ByteArray} (hs : s.size ≤ 4611686018427387904) : Ev (fun k => figureheadref05_Digits.f k s) (dB s && decide (s.size ≠ 0)) := by
  have := Digits_loop s hs s.size 0 (by omega) (by omega)
  rw [List.drop_zero] at this
  exact this
end Go.Proofs.YtjpokifkbclkiaaDoor.Px
end
section
namespace Go.Proofs.YtjpokifkbclkiaaDoor.Px
open Fig Go.RowKit Go.Proofs.YtjpokifkbclkiaaDoorW.PrintWords Go.Proofs.YtjpokifkbclkiaaDoorW.PrintLast Go.Proofs.YtjpokifkbclkiaaDoorW.PrintMore
attribute [local go_sem] max2_int min2_int max_two min_two max_three min_three max_four min_four   -- for this text's walks alone
attribute [local go_sem] fieldA23_0 fieldA23_1 fieldA23_2
theorem Good05_ev {b : Bool} {s : ByteArray} {e : Int} (hs : s.size ≤ 4611686018427387904) : Ev (fun k => figureheadref05_Good.f k b s e) (goodD s e) := by
  unfold figureheadref05_Good.f
  refine Ev.bind (Digits05_ev hs) ?_
  unfold goodD
  cases hd : (dB s && decide (s.size ≠ 0))
  · simp only [Bool.false_eq_true, if_false, Bool.false_and]
    exact Ev.now _
  · simp only [if_true, Bool.true_and]
    by_cases h1 : s.size ≤ 1000
    · have h1' : (s.size : Int) ≤ 1000 := by omega
      simp only [h1', h1, if_true, decide_true, Bool.true_and]
      by_cases h2 : e ≥ -1000
      · have h2' : -1000 ≤ e := h2
        simp only [h2, h2', if_true, decide_true, Bool.true_and]
        exact Ev.now _
      · have h2' : ¬ -1000 ≤ e := h2
        simp only [h2, h2', if_false, decide_false, Bool.false_and]
        exact Ev.now _
    · have h1' : ¬ (s.size : Int) ≤ 1000 := by omega
      simp only [h1', h1, if_false, decide_false, Bool.false_and]
      exact Ev.now _
end Go.Proofs.YtjpokifkbclkiaaDoor.Px
end
section
namespace Go.Proofs.YtjpokifkbclkiaaDoor.Px
open Fig Go.RowKit Go.Proofs.YtjpokifkbclkiaaDoorW.PrintWords Go.Proofs.YtjpokifkbclkiaaDoorW.PrintLast Go.Proofs.YtjpokifkbclkiaaDoorW.PrintMore
attribute [local go_sem] max2_int min2_int max_two min_two max_three min_three max_four min_four   -- for this text's walks alone
attribute [local go_sem] fieldA23_0 fieldA23_1 fieldA23_2
def goodP9 (s : ByteArray) (e : Int) : Bool := goodD s e && decide (s.size ≤ 100) && decide (-300 ≤ e) && decide (e ≤ 300)
theorem goodP9_iff {s : ByteArray} {e : Int} : goodP9 s e = true ↔ goodD s e = true ∧ s.size ≤ 100 ∧ -300 ≤ e ∧ e ≤ 300 := by
  unfold goodP9; simp only [Bool.and_eq_true, decide_eq_true_eq, and_assoc]
theorem good09_ev {b : Bool} {s : ByteArray} {e : Int} (hs : s.size ≤ 4611686018427387904) : Ev (fun k => figureheadlaw09_good.f k b s e) (goodP9 s e) := by
  unfold figureheadlaw09_good.f
  refine Ev.bind (Good05_ev hs) ?_
  unfold goodP9
  cases goodD s e
  · exact evF (by decide) (evIs (Ev.now _) (by simp))
  refine evT rfl ?_
  by_cases h1 : s.size ≤ 100
  · refine evT (by omega) ?_
    by_cases h4 : e ≥ -300
    · have h4' : -300 ≤ e := h4
      exact evT h4 (evIs (Ev.now _) (by simp [h1, h4']))
    · have h4' : ¬ -300 ≤ e := h4
      exact evF h4 (evIs (Ev.now _) (by simp [h4']))
  · exact evF (by omega) (evIs (Ev.now _) (by simp [h1]))
theorem goodP9_ok {s : ByteArray} {e : Int} (h : goodP9 s e = true) : OkS s e ∧ (digB (vB s)).size ≤ 100 ∧ -300 ≤ e ∧ e ≤ 300 := by
  obtain ⟨a, b, f, g⟩ := goodP9_iff.1 h
  have ok := OkS.of_good a
  have := ok.ok.val
  exact ⟨ok, by omega, f, g⟩
theorem top9 {n : Nat} {e : Int} (h : (digB n).size ≤ 100) (h1 : -600 ≤ e) (h2 : e ≤ 600) : -600 ≤ topD n e ∧ topD n e ≤ 700 := by
  unfold topD
  split
  · omega
  · rename_i h0
    have : (digB n).size ≠ 0 := fun hh => h0 (digB_empty_iff.1 hh)
    omega
theorem rv0_size9 {m : Int} {neg : Bool} {n x : Nat} {e p k : Int} (hn : (digB n).size ≤ x) (h1 : k ≤ e) (h2 : k ≤ p) : (digB (rv0 m neg n e 1 p k)).size ≤ max (x + (e - k).toNat) (1 + (p - k).toNat) + 1 := by
  have a := size_vZ neg (n := n) (p := x) e k hn
  have b := size_vZ neg (n := 1) (p := 1) p k (by rw [digB_one_size]; exact Nat.le_refl 1)
  rw [vZ_natAbs] at a b
  have hB := atE_pos (n := 1) (by decide) p k
  have h3 := (rq_near (m := m) (neg := neg) (N := atE n e k) hB).1
  refine digB_mono (n := atE n e k + atE 1 p k) (by unfold rv0; omega) ?_
  exact digB_add_le (digB_mono (Nat.le_refl _) (by omega)) (digB_mono (Nat.le_refl _) (by omega))
theorem rv0_ok9 {m : Int} {neg : Bool} {n : Nat} {e p k : Int} (hn : (digB n).size ≤ 100) (h1 : k ≤ e) (h2 : k ≤ p) (h3 : -2000 ≤ k) (h4 : k ≤ 2000) (h5 : e ≤ k + 2000) (h6 : p ≤ k + 2000) : OkS (nD (rv0 m neg n e 1 p k)) (nE (rv0 m neg n e 1 p k) k) := by
  have := rv0_size9 (m := m) (neg := neg) (x := 100) hn h1 h2
  exact OkS.norm (by omega) (by omega) (by omega)
end Go.Proofs.YtjpokifkbclkiaaDoor.Px
end
section
namespace Go.Proofs.YtjpokifkbclkiaaDoor.Px
open Fig Go.RowKit Go.Proofs.YtjpokifkbclkiaaDoorW.PrintWords Go.Proofs.YtjpokifkbclkiaaDoorW.PrintLast Go.Proofs.YtjpokifkbclkiaaDoorW.PrintMore
attribute [local go_sem] max2_int min2_int max_two min_two max_three min_three max_four min_four   -- for this text's walks alone
attribute [local go_sem] fieldA23_0 fieldA23_1 fieldA23_2
theorem modeP (m : Int) : mode_Good.f m = some (decide (0 ≤ m ∧ m < 8)) := by
  unfold mode_Good.f
  by_cases h : m ≥ 0
  · rw [if_pos h]; congr 1; rw [decide_eq_decide]; omega
  · rw [if_neg h]; congr 1; symm; rw [decide_eq_false_iff_not]; omega
end Go.Proofs.YtjpokifkbclkiaaDoor.Px
end
section
namespace Go.Proofs.YtjpokifkbclkiaaDoor.Px
open Fig Go.RowKit Go.Proofs.YtjpokifkbclkiaaDoorW.PrintWords Go.Proofs.YtjpokifkbclkiaaDoorW.PrintLast Go.Proofs.YtjpokifkbclkiaaDoorW.PrintMore
attribute [local go_sem] max2_int min2_int max_two min_two max_three min_three max_four min_four   -- for this text's walks alone
attribute [local go_sem] fieldA23_0 fieldA23_1 fieldA23_2
theorem numP {s : ByteArray} (h : dB s = true) (hne : s.size ≠ 0) (hs : s.size ≤ 140737488351232) : ten_Number.f s = some (limbs (vB s), true) := by
  unfold ten_Number.f; rw [if_pos hs, if_pos ⟨h, hne⟩]
end Go.Proofs.YtjpokifkbclkiaaDoor.Px
end
section
namespace Go.Proofs.YtjpokifkbclkiaaDoor.Px
open Fig Go.RowKit Go.Proofs.YtjpokifkbclkiaaDoorW.PrintWords Go.Proofs.YtjpokifkbclkiaaDoorW.PrintLast Go.Proofs.YtjpokifkbclkiaaDoorW.PrintMore
attribute [local go_sem] max2_int min2_int max_two min_two max_three min_three max_four min_four   -- for this text's walks alone
attribute [local go_sem] fieldA23_0 fieldA23_1 fieldA23_2
theorem coefP {b : Bool} {s : ByteArray} {e : Int} (h : OkD s e) : dec_Coef.f b s e = some (limbs (vB s)) := by
  have := h.sz
  unfold dec_Coef.f; rw [numP h.d h.ne (by omega)]; rfl
theorem coef_len {s : ByteArray} {e : Int} (h : OkD s e) : (limbs (vB s)).length ≤ 100000 := by
  have := limbs_len_digB (vB s)
  have := h.val
  have := h.sz
  omega
theorem shiftP {l : List Int} {n : Int} (g : goodL l = true) (hl : l.length ≤ 500000) (hn : n ≤ 1000000) : ten_Shift.f l n = some (limbs (valL l * 10 ^ n.toNat)) := by unfold ten_Shift.f; rw [if_pos ⟨g, hl, hn⟩]
end Go.Proofs.YtjpokifkbclkiaaDoor.Px
end
section
namespace Go.Proofs.YtjpokifkbclkiaaDoor.Px
open Fig Go.RowKit Go.Proofs.YtjpokifkbclkiaaDoorW.PrintWords Go.Proofs.YtjpokifkbclkiaaDoorW.PrintLast Go.Proofs.YtjpokifkbclkiaaDoorW.PrintMore
attribute [local go_sem] max2_int min2_int max_two min_two max_three min_three max_four min_four   -- for this text's walks alone
attribute [local go_sem] fieldA23_0 fieldA23_1 fieldA23_2
theorem cutP {b : Bool} {s : ByteArray} {e p : Int} (h : OkS s e) (h1 : -10000 ≤ p) (h2 : p ≤ 10000) : place_cut.f b s e p = some (limbs (vB s / 10 ^ (p - e).toNat), limbs (vB s % 10 ^ (p - e).toNat)) := by
  have hl := h.lo
  have hh := h.hi
  have hc := coef_len h.ok
  unfold place_cut.f
  rw [coefP h.ok]
  simp only [Option.bind_some]
  rw [w64 (x := p - e) (by omega) (by omega)]
  have : ten_Cut.f (limbs (vB s)) (p - e) = some (limbs (vB s / 10 ^ (p - e).toNat), limbs (vB s % 10 ^ (p - e).toNat)) := by
    unfold ten_Cut.f; rw [if_pos ⟨limbs_good _, by omega, by omega⟩, limbs_val]
  rw [this]; rfl
end Go.Proofs.YtjpokifkbclkiaaDoor.Px
end
section
namespace Go.Proofs.YtjpokifkbclkiaaDoor.Px
open Fig Go.RowKit Go.Proofs.YtjpokifkbclkiaaDoorW.PrintWords Go.Proofs.YtjpokifkbclkiaaDoorW.PrintLast Go.Proofs.YtjpokifkbclkiaaDoorW.PrintMore
attribute [local go_sem] max2_int min2_int max_two min_two max_three min_three max_four min_four   -- for this text's walks alone
attribute [local go_sem] fieldA23_0 fieldA23_1 fieldA23_2
theorem fitsP {b : Bool} {s : ByteArray} {e p : Int} (h : OkS s e) (h1 : -10000 ≤ p) (h2 : p ≤ 10000) : place_Fits.f b s e p = some (decide (atE (vB s) e (min e p) % atE 1 p (min e p) = 0)) := by
  unfold place_Fits.f
  by_cases hp : p ≤ e
  · rw [if_pos hp, show min e p = p by omega, atE_self, Nat.mod_one]; rfl
  · rw [if_neg hp, cutP h h1 h2]
    simp only [Option.bind_some, Option.some.injEq]
    rw [show min e p = e by omega, atE_self, show atE 1 p e = 10 ^ (p - e).toNat by unfold atE; rw [Nat.one_mul]]
    rw [Bool.eq_iff_iff, beq_iff_eq, decide_eq_true_eq]
    constructor
    · intro hh; exact limbs_nil_iff.1 (List.eq_nil_of_length_eq_zero (by omega))
    · intro hh; rw [hh, limbs_zero]; rfl
end Go.Proofs.YtjpokifkbclkiaaDoor.Px
end
section
namespace Go.Proofs.YtjpokifkbclkiaaDoor.Px
open Fig Go.RowKit Go.Proofs.YtjpokifkbclkiaaDoorW.PrintWords Go.Proofs.YtjpokifkbclkiaaDoorW.PrintLast Go.Proofs.YtjpokifkbclkiaaDoorW.PrintMore
attribute [local go_sem] max2_int min2_int max_two min_two max_three min_three max_four min_four   -- for this text's walks alone
attribute [local go_sem] fieldA23_0 fieldA23_1 fieldA23_2
theorem w_add (e : Int) (p : Nat) (h1 : -1000000 ≤ e) (h2 : e ≤ 1000000) (hp : p ≤ 1000000) : wrap64 (e + (p : Int)) = e + (p : Int) := w64 (by omega) (by omega)
theorem w_norm (e : Int) (p q : Nat) (h1 : -1000000 ≤ e) (h2 : e ≤ 1000000) (hp : p ≤ 1000000) (hq : q ≤ 1000000) : wrap64 (wrap64 (e + (p : Int)) - (q : Int)) = e + (p : Int) - (q : Int) := by rw [w_add e p h1 h2 hp, w64 (by omega) (by omega)]
theorem normP {b : Bool} {s : ByteArray} {e : Int} (h : OkD s e) : dec_Norm.f b s e = some (b, nD (vB s), nE (vB s) e) := by
  have hz := h.val
  have h1 := h.sz
  have h2 := h.lo
  have h3 := h.hi
  unfold dec_Norm.f
  rw [show strings_TrimLeft.f s (⟨#[48]⟩ : ByteArray) = some (digB (vB s)) by unfold strings_TrimLeft.f; rw [if_pos rfl, stripB_eq h.d]]
  simp only [Option.bind_some]
  by_cases h0 : vB s = 0
  · rw [if_pos (digB_toList_nil.2 h0), h0]; rfl
  · rw [if_neg (fun hh => h0 (digB_toList_nil.1 hh))]
    have hl := digB_len_core h0
    have ht : strings_TrimRight.f (digB (vB s)) (⟨#[48]⟩ : ByteArray) = some (digB (core (vB s))) := by
      unfold strings_TrimRight.f
      rw [if_pos ⟨rfl, by omega⟩]
      show some (⟨(Lib.trimRightB (digs (vB s)) 48).toArray⟩ : ByteArray) = _
      unfold Lib.trimRightB; rw [trimR_digs h0]; rfl
    rw [ht]
    simp only [Option.bind_some]
    rw [w_norm e _ _ (by omega) (by omega) (by omega) (by omega)]
    unfold nD nE
    rw [if_neg h0, if_neg h0, show e + ((digB (vB s)).size : Int) - ((digB (core (vB s))).size : Int) = e + (tz (vB s) : Int) by omega]
end Go.Proofs.YtjpokifkbclkiaaDoor.Px
end
section
namespace Go.Proofs.YtjpokifkbclkiaaDoor.Px
open Fig Go.RowKit Go.Proofs.YtjpokifkbclkiaaDoorW.PrintWords Go.Proofs.YtjpokifkbclkiaaDoorW.PrintLast Go.Proofs.YtjpokifkbclkiaaDoorW.PrintMore
attribute [local go_sem] max2_int min2_int max_two min_two max_three min_three max_four min_four   -- for this text's walks alone
attribute [local go_sem] fieldA23_0 fieldA23_1 fieldA23_2
theorem away_up (m : Int) (neg odd : Bool) (half : Int) : mode_Away.f m neg odd half = some (upB m neg odd half) := rfl
end Go.Proofs.YtjpokifkbclkiaaDoor.Px
end
section
namespace Go.Proofs.YtjpokifkbclkiaaDoor.Px
open Fig Go.RowKit Go.Proofs.YtjpokifkbclkiaaDoorW.PrintWords Go.Proofs.YtjpokifkbclkiaaDoorW.PrintLast Go.Proofs.YtjpokifkbclkiaaDoorW.PrintMore
attribute [local go_sem] max2_int min2_int max_two min_two max_three min_three max_four min_four   -- for this text's walks alone
attribute [local go_sem] fieldA23_0 fieldA23_1 fieldA23_2
theorem limbs_head {q : Nat} (h : q ≠ 0) : (limbs q).length > 0 ∧ rd (limbs q) 0 = ((q % 1000000000 : Nat) : Int) := by
  have hv := limbs_val q
  have hg := limbs_good q
  rcases hl : limbs q with _ | ⟨x, l⟩
  · exact absurd (limbs_nil_iff.1 hl) h
  · rw [hl] at hv hg
    obtain ⟨hx, _⟩ := goodL_cons.1 hg
    simp only [valL] at hv
    refine ⟨by simp, ?_⟩
    show x = _
    omega
theorem zeroB_okP (v : Nat) : dB (zeroB v) = true ∧ (zeroB v).size ≠ 0 ∧ vB (zeroB v) = v := by
  unfold zeroB
  by_cases h : v = 0
  · rw [if_pos h, h]; exact ⟨rfl, by decide, rfl⟩
  · rw [if_neg h]; exact ⟨dB_digB v, fun e => h (digB_empty_iff.1 e), vB_digB v⟩
theorem zeroB_sizeP {v k : Nat} (h : (digB v).size ≤ k) (hk : 1 ≤ k) : (zeroB v).size ≤ k := by
  unfold zeroB
  by_cases h0 : v = 0
  · rw [if_pos h0]; exact hk
  · rw [if_neg h0]; exact h
theorem digitsPP {v k : Nat} (h : (digB v).size ≤ k) (hk : k ≤ 1000000) : ten_Digits.f (limbs v) = some (zeroB v) := by
  have := limbs_len_digB v
  unfold ten_Digits.f; rw [if_pos ⟨limbs_good v, by omega⟩, limbs_val]
theorem Round_end {b : Bool} {v : Nat} {p : Int} (hz : (digB v).size ≤ 50000) (h1 : -100000 ≤ p) (h2 : p ≤ 100000) : ((ten_Digits.f (limbs v)).bind fun t => (dec_Norm.f b t p).bind fun u => some (u.1, u.2.1, u.2.2, (0 : Int))) = some (b, nD v, nE v p, 0) := by
  obtain ⟨d1, d2, d3⟩ := zeroB_okP v
  have d4 := zeroB_sizeP (k := 50000) hz (by decide)
  rw [digitsPP hz (by decide)]
  simp only [Option.bind_some]
  rw [normP ⟨d1, d2, by omega, h1, h2⟩, d3]; rfl
theorem add_one {q : Nat} (h : (digB q).size ≤ 1000000) : nat_Add.f (limbs q) ([1] : List Int) = some (limbs (q + 1)) := by
  have hl := limbs_len_digB q
  have h1 : ([1] : List Int).length ≤ 1000000000000 := by show 1 ≤ 1000000000000; omega
  have := addF_eq (limbs_good q) (b := [1]) (by decide) (by omega) h1
  rwa [limbs_val, show valL [1] = 1 from rfl] at this
theorem bind_of {α β : Type} {x : Option α} {f : α → Option β} {a : α} {r : Option β} (h : x = some a) (h2 : f a = r) : x.bind f = r := by subst h; exact h2
theorem placeRound_j0 {b : Bool} {s : ByteArray} {e p : Int} {q : Nat} {u : Bool} (hz : (digB q).size ≤ 40000) (h1 : -10000 ≤ p) (h2 : p ≤ 10000) : Ev (fun k => place_Round.j0 k p (limbs q) u b s e) (b, nD (q + if u = true then 1 else 0), nE (q + if u = true then 1 else 0) p, 0) := by
  cases u
  · refine evDone (r' := (b, nD q, nE q p, 0)) (fun k => ?_) (by simp)
    simp only [place_Round.j0, Bool.false_eq_true, if_false]
    exact Round_end (by omega) (by omega) (by omega)
  · have ha := add_one (q := q) (by omega)
    have hz2 := digB_add_le (m := q) (n := 1) (p := 40000) hz (by rw [digB_one_size]; omega)
    refine evDone (r' := (b, nD (q + 1), nE (q + 1) p, 0)) (fun k => ?_) (by simp)
    simp only [place_Round.j0, if_true]
    exact bind_of ha (Round_end (by omega) (by omega) (by omega))
theorem placeRound_ev {m : Int} {b : Bool} {s : ByteArray} {e p : Int} (hm : 0 ≤ m) (hm7 : m ≤ 7) (h : OkS s e) (h1 : -10000 ≤ p) (h2 : p ≤ 10000) : Ev (fun k => place_Round.f k m b s e p) (roundD m b (vB s) e 1 p) := by
  have hv := h.ok.val
  have hsz := h.sz
  have hlo := h.lo
  have hhi := h.hi
  unfold place_Round.f
  refine evE (modeP m) (evT (by simp; omega) (evE (fitsP h h1 h2) ?_))
  by_cases hf : atE (vB s) e (min e p) % atE 1 p (min e p) = 0
  · rw [roundD_fit hf]
    exact evT (decide_eq_true hf) (evE (normP h.ok) (Ev.now _))
  refine evF (by simpa using hf) ?_
  have hpe : e < p := by
    apply Classical.byContradiction; intro hn
    rw [show min e p = p by omega, atE_self, Nat.mod_one] at hf
    exact hf rfl
  by_cases h7 : m = 7
  · subst h7
    rw [roundD_exact hf]
    exact evT rfl (Ev.now _)
  refine evF h7 ?_
  have hme : min e p = e := by omega
  obtain ⟨B, hB⟩ : ∃ B, B = 10 ^ (p - e).toNat := ⟨_, rfl⟩
  have hB1 : atE 1 p e = B := by unfold atE; rw [Nat.one_mul, hB]
  rw [hme, atE_self, hB1] at hf
  have hB0 : 0 < B := by rw [hB]; exact pow10_pos _
  have hzB : (digB B).size ≤ 20001 := by rw [hB, digB_pow_size]; omega
  have zq := digB_mono (Nat.div_le_self (vB s) B) hv
  have zr := digB_mono (Nat.mod_le (vB s) B) hv
  have lq := limbs_len_digB (vB s / B)
  have lr := limbs_len_digB (vB s % B)
  have z2 := digB_add_le zr zr
  have l2 := limbs_len_digB (vB s % B + vB s % B)
  have lB := limbs_len_digB B
  have hcut := cutP (b := b) h h1 h2
  rw [← hB] at hcut
  refine evE hcut ?_
  have ha : nat_Add.f (limbs (vB s % B)) (limbs (vB s % B)) = some (limbs (vB s % B + vB s % B)) := by
    have := addF_eq (limbs_good (vB s % B)) (limbs_good (vB s % B)) (by omega) (by omega)
    rwa [limbs_val] at this
  have hs : ten_Shift.f ([1] : List Int) (wrap64 (p - e)) = some (limbs B) := by
    rw [w64 (x := p - e) (by omega) (by omega), shiftP (by decide) (by decide) (by omega), show valL [1] = 1 by decide, Nat.one_mul, hB]
  have hc : nat_Cmp.f (limbs (vB s % B + vB s % B)) (limbs B) = some (cmpN (vB s % B + vB s % B) B) := by
    have := cmpF_eq (limbs_good (vB s % B + vB s % B)) (limbs_good B) (by omega) (by omega)
    rwa [limbs_val, limbs_val] at this
  refine evE ha (evE hs (evE hc ?_))
  have hres : roundD m b (vB s) e 1 p = (b, nD (vB s / B + if upB m b (vB s / B % 2 == 1) (cmpN (vB s % B + vB s % B) B) = true then 1 else 0), nE (vB s / B + if upB m b (vB s / B % 2 == 1) (cmpN (vB s % B + vB s % B) B) = true then 1 else 0) p, 0) := by
    rw [roundD_at h7 b (vB s) e 1 p e (Int.le_refl e) (by omega)]
    unfold rv0
    rw [atE_self, hB1]
    have hq : rq m b (vB s) B = vB s / B + if upB m b (vB s / B % 2 == 1) (cmpN (vB s % B + vB s % B) B) = true then 1 else 0 := by
      unfold rq; simp only [ne_eq, hf, not_false_eq_true, true_and]
    rw [hq, hB, nD_pow, nE_pow, show e + ((p - e).toNat : Int) = p by omega]
  rw [hres]
  dsimp only
  by_cases hq0 : vB s / B = 0
  · refine evF (by rw [hq0, limbs_zero]; decide) (evE (away_up _ _ _ _) ?_)
    have : (vB s / B % 2 == 1) = false := by rw [hq0]; rfl
    rw [this]
    exact placeRound_j0 (by omega) h1 h2
  · obtain ⟨g1, g2⟩ := limbs_head hq0
    refine evT (by omega) (evT (by omega) ?_)
    have : (Int.tmod (rd (limbs (vB s / B)) 0) 2 == 1) = (vB s / B % 2 == 1) := by
      rw [g2, Int.tmod_eq_emod_of_nonneg (by omega), Bool.eq_iff_iff, beq_iff_eq, beq_iff_eq]; omega
    rw [this]
    refine evE (away_up _ _ _ _) ?_
    exact placeRound_j0 (by omega) h1 h2
end Go.Proofs.YtjpokifkbclkiaaDoor.Px
end
section
namespace Go.Proofs.YtjpokifkbclkiaaDoor.Px
open Fig Go.RowKit Go.Proofs.YtjpokifkbclkiaaDoorW.PrintWords Go.Proofs.YtjpokifkbclkiaaDoorW.PrintLast Go.Proofs.YtjpokifkbclkiaaDoorW.PrintMore
attribute [local go_sem] max2_int min2_int max_two min_two max_three min_three max_four min_four   -- for this text's walks alone
attribute [local go_sem] fieldA23_0 fieldA23_1 fieldA23_2
theorem nD_toList' (n : Nat) : (nD n).toList = ([48] : List UInt8) ↔ n = 0 := by
  rw [← nD_nought_iff]
  constructor
  · intro h; apply B_ext; rw [← ByteArray.toList_eq, h]; rfl
  · intro h; rw [h, ByteArray.toList_eq]; rfl
theorem w_top (e : Int) (p : Nat) (h1 : -1000000 ≤ e) (h2 : e ≤ 1000000) (hp : p ≤ 1000000) : wrap64 (wrap64 (e + (p : Int)) - 1) = e + (p : Int) - 1 := by
  rw [w64 (x := e + (p : Int)) (by omega) (by omega), w64 (by omega) (by omega)]
theorem topP {b : Bool} {s : ByteArray} {e : Int} (h : OkD s e) : dec_Top.f b s e = some (topD (vB s) e) := by
  have hz := h.val
  have h1 := h.sz
  have h2 := h.lo
  have h3 := h.hi
  unfold dec_Top.f
  rw [normP h]
  simp only [Option.bind_some]
  by_cases h0 : vB s = 0
  · rw [if_pos ((nD_toList' _).2 h0), h0]; rfl
  · rw [if_neg (fun hh => h0 ((nD_toList' _).1 hh))]
    have hl := digB_len_core h0
    have hnd : nD (vB s) = digB (core (vB s)) := by unfold nD; rw [if_neg h0]
    have hne : nE (vB s) e = e + (tz (vB s) : Int) := by unfold nE; rw [if_neg h0]
    rw [hnd, hne, w_top _ _ (by omega) (by omega) (by omega)]
    unfold topD; rw [if_neg h0]; congr 1; omega
end Go.Proofs.YtjpokifkbclkiaaDoor.Px
end
section
namespace Go.Proofs.YtjpokifkbclkiaaDoor.Px
open Fig Go.RowKit Go.Proofs.YtjpokifkbclkiaaDoorW.PrintWords Go.Proofs.YtjpokifkbclkiaaDoorW.PrintLast Go.Proofs.YtjpokifkbclkiaaDoorW.PrintMore
attribute [local go_sem] max2_int min2_int max_two min_two max_three min_three max_four min_four   -- for this text's walks alone
attribute [local go_sem] fieldA23_0 fieldA23_1 fieldA23_2
theorem topD_bd {s : ByteArray} {e : Int} (h : OkS s e) : -10000 ≤ topD (vB s) e ∧ topD (vB s) e ≤ 20000 := by
  have hv := h.ok.val
  have hsz := h.sz
  have hlo := h.lo
  have hhi := h.hi
  unfold topD
  split
  · omega
  · rename_i h0
    have : (digB (vB s)).size ≠ 0 := fun hh => h0 (digB_empty_iff.1 hh)
    omega
theorem sigPlaceP {b : Bool} {s : ByteArray} {e n : Int} (h : OkS s e) (h1 : n ≤ 100000) : sig_Place.f b s e n = some (topD (vB s) e - max n 1 + 1) := by
  have hb := topD_bd h
  have hm : mx n 1 = max n 1 := by unfold mx; omega
  unfold sig_Place.f
  rw [topP h.ok]
  simp only [Option.bind_some]
  rw [hm, w64 (x := topD (vB s) e - max n 1) (by omega) (by omega), w64 (by omega) (by omega)]
end Go.Proofs.YtjpokifkbclkiaaDoor.Px
end
section
namespace Go.Proofs.YtjpokifkbclkiaaDoor.Px
open Fig Go.RowKit Go.Proofs.YtjpokifkbclkiaaDoorW.PrintWords Go.Proofs.YtjpokifkbclkiaaDoorW.PrintLast Go.Proofs.YtjpokifkbclkiaaDoorW.PrintMore
attribute [local go_sem] max2_int min2_int max_two min_two max_three min_three max_four min_four   -- for this text's walks alone
attribute [local go_sem] fieldA23_0 fieldA23_1 fieldA23_2
theorem sigRound_ev {m : Int} {b : Bool} {s : ByteArray} {e : Int} {c : Nat} (hm : 0 ≤ m) (hm7 : m ≤ 7) (hc : 1 ≤ c) (hc2 : c ≤ 5000) (h : OkS s e) (ht : topD (vB s) e ≤ 10000) (ht2 : -5000 ≤ topD (vB s) e) : Ev (fun k => sig_Round.f k m b s e (c : Int)) (roundD m b (vB s) e 1 (topD (vB s) e - (c : Int) + 1)) := by
  unfold sig_Round.f
  refine evE (modeP m) (evT (by simp; omega) ?_)
  have : decide ((c : Int) < 1) = false := decide_eq_false (by omega)
  rw [this]
  refine Ev.step (fun k => by simp only [sig_Round.j0, Bool.false_eq_true, if_false]; rfl) ?_
  refine evE (sigPlaceP h (by omega)) ?_
  rw [show max (c : Int) 1 = (c : Int) by omega]
  exact Ev.bind (placeRound_ev hm hm7 h (by omega) (by omega)) (Ev.now _)
end Go.Proofs.YtjpokifkbclkiaaDoor.Px
end
section
namespace Go.Proofs.YtjpokifkbclkiaaDoor.Px
open Fig Go.RowKit Go.Proofs.YtjpokifkbclkiaaDoorW.PrintWords Go.Proofs.YtjpokifkbclkiaaDoorW.PrintLast Go.Proofs.YtjpokifkbclkiaaDoorW.PrintMore
attribute [local go_sem] max2_int min2_int max_two min_two max_three min_three max_four min_four   -- for this text's walks alone
attribute [local go_sem] fieldA23_0 fieldA23_1 fieldA23_2
theorem countP {b : Bool} {s : ByteArray} {e : Int} (h : OkD s e) : sig_Count.f b s e = some ((nD (vB s)).size : Int) := by
  unfold sig_Count.f; rw [normP h]; rfl
end Go.Proofs.YtjpokifkbclkiaaDoor.Px
end
section
namespace Go.Proofs.YtjpokifkbclkiaaDoor.Px
open Fig Go.RowKit Go.Proofs.YtjpokifkbclkiaaDoorW.PrintWords Go.Proofs.YtjpokifkbclkiaaDoorW.PrintLast Go.Proofs.YtjpokifkbclkiaaDoorW.PrintMore
attribute [local go_sem] max2_int min2_int max_two min_two max_three min_three max_four min_four   -- for this text's walks alone
attribute [local go_sem] fieldA23_0 fieldA23_1 fieldA23_2
theorem nD_lit9 {n m k : Nat} {s : ByteArray} (h : n = m * 10 ^ k) (hm : m % 10 ≠ 0) (hd : dB s = true) (hv : vB s = m) (hs : stripB s = s) : nD n = s := by
  rw [h, nD_pow, nD_of hm, ← hv, ← stripB_eq hd, hs]
theorem nE_lit9 {n m k : Nat} {e : Int} (h : n = m * 10 ^ k) (hm : m % 10 ≠ 0) : nE n e = e + (k : Int) := by rw [h, nE_pow, nE_of hm]
theorem answers09_ev : Ev (fun k => figureheadlaw09_answers.f k) true := by
  have ok1 : OkS (⟨#[49, 50, 51, 52, 53]⟩ : ByteArray) 0 := OkS.of_good (by decide)
  have ok2 : OkS (⟨#[49, 50, 51]⟩ : ByteArray) 2 := OkS.of_good (by decide)
  have v1 : vB (⟨#[49, 50, 51, 52, 53]⟩ : ByteArray) = 12345 := by decide
  have v2 : vB (⟨#[49, 50, 51]⟩ : ByteArray) = 123 := by decide
  have n123 : nD 123 = (⟨#[49, 50, 51]⟩ : ByteArray) := nD_lit9 (m := 123) (k := 0) (by decide) (by decide) (by decide) (by decide) (by decide)
  have n1 : nD 12300 = (⟨#[49, 50, 51]⟩ : ByteArray) := nD_lit9 (m := 123) (k := 2) (by decide) (by decide) (by decide) (by decide) (by decide)
  have e1 : nE 12300 0 = 2 := by rw [nE_lit9 (m := 123) (k := 2) (by decide) (by decide)]; decide
  have s1 : (digB 12345).size = 5 := by
    rw [show digB 12345 = (⟨#[49, 50, 51, 52, 53]⟩ : ByteArray) by rw [← v1, ← stripB_eq (by decide)]; decide]; rfl
  have s2 : (digB 123).size = 3 := by
    rw [show digB 123 = (⟨#[49, 50, 51]⟩ : ByteArray) by rw [← v2, ← stripB_eq (by decide)]; decide]; rfl
  have t1 : topD 12345 0 = 4 := by unfold topD; rw [if_neg (by decide), s1]; decide
  have t2 : topD 123 2 = 4 := by unfold topD; rw [if_neg (by decide), s2]; decide
  have r1 : roundD 5 false 12345 0 1 2 = (false, (⟨#[49, 50, 51]⟩ : ByteArray), 2, 0) := by
    rw [roundD_ok (by decide), show rv0 5 false 12345 0 1 2 (min 0 2) = 12300 by decide, n1, show min (0 : Int) 2 = 0 by decide, e1]
  have rr : roundD 5 false (vB (⟨#[49, 50, 51, 52, 53]⟩ : ByteArray)) 0 1 (topD (vB (⟨#[49, 50, 51, 52, 53]⟩ : ByteArray)) 0 - ((3 : Nat) : Int) + 1) = (false, (⟨#[49, 50, 51]⟩ : ByteArray), 2, 0) := by
    rw [v1, t1]; exact r1
  unfold figureheadlaw09_answers.f
  refine Ev.bind (evIs (sigRound_ev (c := 3) (by decide) (by decide) (by decide) (by decide) ok1 (by rw [v1, t1]; decide) (by rw [v1, t1]; decide)) rr) ?_
  refine evT rfl (evT (by simp [ByteArray.toList_eq]) (evE (sigPlaceP ok2 (by decide)) (evT (by rw [v2, t2]; decide) (evE (countP ok2.ok) ?_))))
  rw [v2, n123]
  exact evIs (Ev.now _) (by decide)
end Go.Proofs.YtjpokifkbclkiaaDoor.Px
end
section
namespace Go.Proofs.YtjpokifkbclkiaaDoor.Px
open Fig Go.RowKit Go.Proofs.YtjpokifkbclkiaaDoorW.PrintWords Go.Proofs.YtjpokifkbclkiaaDoorW.PrintLast Go.Proofs.YtjpokifkbclkiaaDoorW.PrintMore
attribute [local go_sem] max2_int min2_int max_two min_two max_three min_three max_four min_four   -- for this text's walks alone
attribute [local go_sem] fieldA23_0 fieldA23_1 fieldA23_2
theorem wf_u8o {x : Int} (h : (Lit.int .u8 x).wf = true) : 0 ≤ x ∧ x < 256 := by
  simp [Lit.wf, IntKind.min, IntKind.max, IntKind.signed, IntKind.bits] at h; omega
theorem SigOrders_true (a0 c : Int) (b : Bool) (s : ByteArray) (e : Int) (b2 : Bool) (t : ByteArray) (f : Int) : Ev (fun k => figureheadlaw09_SigOrders.j0 k a0 c true b s e b2 t f) true :=
  Ev.step (fun k => by simp only [figureheadlaw09_SigOrders.j0, if_true]) (Ev.bind answers09_ev (Ev.now true))
theorem sig_again {m : Int} {b : Bool} {R : Nat} {x : Int} {c : Nat} (h : (nD R).size ≤ c) : roundD m b (core R) (nE R x) 1 (topD (core R) (nE R x) - (c : Int) + 1) = (b, nD R, nE R x, 0) := by
  obtain ⟨p, hp⟩ : ∃ p, p = topD (core R) (nE R x) - (c : Int) + 1 := ⟨_, rfl⟩
  rw [← hp]
  have hf : atE (core R) (nE R x) (min (nE R x) p) % atE 1 p (min (nE R x) p) = 0 := by
    rw [fit_one (by omega) (by omega), nE_core]
    by_cases h0 : R = 0
    · left; rw [h0, core_zero]
    · right
      rw [hp, topD_norm]
      exact (count_fit h0).1 h
  rw [roundD_fit hf, nD_core, nE_core]
theorem SigOrders_pure (a0 : Int) (a1_0 : Bool) (a1_1 : ByteArray) (a1_2 : Int) (a2_0 : Bool) (a2_1 : ByteArray) (a2_2 a3 : Int) (w0 : (Lit.int .i64 a0).wf = true) (w1_1 : a1_1.size ≤ 140737488351232) (w1_2 : (Lit.int .i64 a1_2).wf = true) (w2_1 : a2_1.size ≤ 140737488351232) (w2_2 : (Lit.int .i64 a2_2).wf = true) (w3 : (Lit.int .u8 a3).wf = true) : ∃ k, figureheadlaw09_SigOrders.f k a0 a1_0 a1_1 a1_2 a2_0 a2_1 a2_2 a3 = some true := by
  obtain ⟨u1, u2⟩ := wf_u8o w3
  refine Ev.rounds (g := fun k => figureheadlaw09_SigOrders.f k a0 a1_0 a1_1 a1_2 a2_0 a2_1 a2_2 a3) ?_
  unfold figureheadlaw09_SigOrders.f
  obtain ⟨c, hc⟩ : ∃ c : Nat, c = (a3 % 40 + 1).toNat := ⟨_, rfl⟩
  have hc1 : 1 ≤ c := by omega
  have hw : wrap64 (wrap64 (Int.tmod a3 40) + 1) = (c : Int) := by
    rw [Int.tmod_eq_emod_of_nonneg u1, w64 (x := a3 % 40) (by omega) (by omega), w64 (by omega) (by omega)]; omega
  rw [hw]
  refine Ev.bind (good09_ev (by omega)) ?_
  cases hg : goodP9 a1_1 a1_2
  · exact evF (by decide) (SigOrders_true _ _ _ _ _ _ _ _)
  obtain ⟨ok, hz, he1, he2⟩ := goodP9_ok hg
  refine evT rfl (Ev.bind (good09_ev (by omega)) ?_)
  cases hg2 : goodP9 a2_1 a2_2
  · exact evF (by decide) (SigOrders_true _ _ _ _ _ _ _ _)
  obtain ⟨ok2, hz2, hf1, hf2⟩ := goodP9_ok hg2
  refine evT rfl ?_
  by_cases h0 : a0 < 0
  · exact evT h0 (SigOrders_true _ _ _ _ _ _ _ _)
  refine evF h0 ?_
  by_cases h6 : a0 > 6
  · exact evT h6 (SigOrders_true _ _ _ _ _ _ _ _)
  refine evF h6 (Ev.bind (Cmp05_ev ok.ok ok2.ok) ?_)
  by_cases hcm : cmpD a1_0 (vB a1_1) a1_2 a2_0 (vB a2_1) a2_2 > 0
  · rw [decide_eq_true hcm]; exact SigOrders_true _ _ _ _ _ _ _ _
  rw [decide_eq_false hcm]
  have hm : a0 ≠ 7 := by omega
  obtain ⟨ht1, ht2⟩ := top9 (n := vB a1_1) (e := a1_2) hz (by omega) (by omega)
  obtain ⟨ht3, ht4⟩ := top9 (n := vB a2_1) (e := a2_2) hz2 (by omega) (by omega)
  obtain ⟨p, hp⟩ : ∃ p, p = topD (vB a1_1) a1_2 - (c : Int) + 1 := ⟨_, rfl⟩
  obtain ⟨q, hq⟩ : ∃ q, q = topD (vB a2_1) a2_2 - (c : Int) + 1 := ⟨_, rfl⟩
  obtain ⟨x, hx⟩ : ∃ x, x = rv0 a0 a1_0 (vB a1_1) a1_2 1 p (min a1_2 p) := ⟨_, rfl⟩
  obtain ⟨y, hy⟩ : ∃ y, y = rv0 a0 a2_0 (vB a2_1) a2_2 1 q (min a2_2 q) := ⟨_, rfl⟩
  have okx := rv0_ok9 (m := a0) (neg := a1_0) (n := vB a1_1) (e := a1_2) (p := p) (k := min a1_2 p) hz (by omega) (by omega) (by omega) (by omega) (by omega) (by omega)
  have oky := rv0_ok9 (m := a0) (neg := a2_0) (n := vB a2_1) (e := a2_2) (p := q) (k := min a2_2 q) hz2 (by omega) (by omega) (by omega) (by omega) (by omega) (by omega)
  have e1 : roundD a0 a1_0 (vB a1_1) a1_2 1 p = (a1_0, nD x, nE x (min a1_2 p), 0) := by rw [roundD_ok hm, hx]
  have e2 : roundD a0 a2_0 (vB a2_1) a2_2 1 q = (a2_0, nD y, nE y (min a2_2 q), 0) := by rw [roundD_ok hm, hy]
  have cx := sig_count (m := a0) (neg := a1_0) (n := vB a1_1) (e := a1_2) (k := min a1_2 p) hc1 (by omega) (by omega)
  rw [← hp, ← hx] at cx
  rw [← hx] at okx
  rw [← hy] at oky
  have e3 : roundD a0 a1_0 (vB (nD x)) (nE x (min a1_2 p)) 1 (topD (vB (nD x)) (nE x (min a1_2 p)) - (c : Int) + 1) = (a1_0, nD x, nE x (min a1_2 p), 0) := by
    rw [vB_nD]; exact sig_again cx
  have tx : topD (vB (nD x)) (nE x (min a1_2 p)) ≤ 10000 ∧ -5000 ≤ topD (vB (nD x)) (nE x (min a1_2 p)) := by
    have h1 := okx.ok.val
    have h2 := nD_le (n := x) (k := 4200)
      (by rw [hx]; have := rv0_size9 (m := a0) (neg := a1_0) (x := 100) (n := vB a1_1) (e := a1_2) (p := p) (k := min a1_2 p) hz (by omega) (by omega); omega) (by omega)
    have h3 := nE_ge' x (min a1_2 p)
    have h4 : nE x (min a1_2 p) ≤ max (min a1_2 p + ((4200 : Nat) : Int)) 0 := nE_hi x _ (by rw [hx]; have := rv0_size9 (m := a0) (neg := a1_0) (x := 100) (n := vB a1_1) (e := a1_2) (p := p) (k := min a1_2 p) hz (by omega) (by omega); omega)
    unfold topD
    split
    · omega
    · rename_i h00
      have : (digB (vB (nD x))).size ≠ 0 := fun hh => h00 (digB_empty_iff.1 hh)
      omega
  refine Ev.step (fun k => by simp only [figureheadlaw09_SigOrders.j0, Bool.false_eq_true, if_false]; rfl) ?_
  have e1' : roundD a0 a1_0 (vB a1_1) a1_2 1 (topD (vB a1_1) a1_2 - (c : Int) + 1) = (a1_0, nD x, nE x (min a1_2 p), 0) := by rw [← hp]; exact e1
  have e2' : roundD a0 a2_0 (vB a2_1) a2_2 1 (topD (vB a2_1) a2_2 - (c : Int) + 1) = (a2_0, nD y, nE y (min a2_2 q), 0) := by rw [← hq]; exact e2
  refine Ev.bind (evIs (sigRound_ev (by omega) (by omega) hc1 (by omega) ok (by omega) (by omega)) e1') (Ev.bind (evIs (sigRound_ev (by omega) (by omega) hc1 (by omega) ok2 (by omega) (by omega)) e2') ?_)
  refine Ev.bind (evIs (sigRound_ev (by omega) (by omega) hc1 (by omega) okx tx.1 tx.2) e3) (Ev.bind answers09_ev (evT rfl (evT rfl (evT rfl (Ev.bind (Cmp05_ev okx.ok oky.ok) (evT ?_ (evT rfl ?_)))))))
  · obtain ⟨k, hk⟩ : ∃ k, k = min (min (min a1_2 p) (min a2_2 q)) 0 := ⟨_, rfl⟩
    rw [vB_nD, vB_nD, cmpD_at (k := k) (nE_ge _ (by omega) (by omega)) (nE_ge _ (by omega) (by omega)), cmpZ_le, hx, hy]
    rw [vZ_rv0 (by omega) (by omega) (by omega), vZ_rv0 (by omega) (by omega) (by omega)]
    have h1 : cmpD a1_0 (vB a1_1) a1_2 a2_0 (vB a2_1) a2_2 ≤ 0 := by omega
    rw [cmpD_at (k := k) (by omega) (by omega), cmpZ_le] at h1
    rw [hp, hq]
    refine sg_le_of h1 ?_ ?_ ?_ ?_
    · rintro ha hb h
      rw [ha, hb]; exact sig_mono hc1 (by omega) (by omega) (by omega) (by omega) h
    · rintro ha hb h
      rw [ha, hb]; exact sig_mono hc1 (by omega) (by omega) (by omega) (by omega) h
    · intro h; rw [atE_eq_zero.1 h, rv0_zero]
    · intro h; rw [atE_eq_zero.1 h, rv0_zero]
  · exact evIs (Ev.now _) (by simp)
end Go.Proofs.YtjpokifkbclkiaaDoor.Px
end
section
namespace Go.Proofs.YtjpokifkbclkiaaDoorW.PrintWords
open Go.ChangeShapes Go.WideShapes
end Go.Proofs.YtjpokifkbclkiaaDoorW.PrintWords
end
section
namespace Fig
open Go Go.ChangeShapes
theorem one_cell {α : Type} {l : List α} {i n : Nat} (hl : l.length = n) (hi : i < n) : ∃ v, (l.drop i).take 1 = [v] ∧ l[i]? = some v := by
  refine ⟨l[i], ?_, List.getElem?_eq_getElem (by omega)⟩
  rw [List.drop_eq_getElem_cons (by omega)]; rfl
theorem func_cell {P : Program} {W : World} {name : String} {d : DataW Unit} (h : funcsAt P W name d) {g : Nat} {t e : TypeId} {n : Nat} {fld : Field} {ps rs : Array TypeId} {va : Bool}
    (hg : P.globalNamed name = some g) (hty : (P.globals[g]?).map (·.type) = some t) (ht : P.underlying t = some (.array n e)) (he : P.underlying e = some (.struct #[fld])) (hft : P.underlying fld.type = some (.func ps rs va))
    (ce : P.cellsOf e = 1) (cf : P.cellsOf fld.type = 1) (ho : fld.offset = 0) (ct : P.cellsOf t = n) {ds : List (DataW (List UInt8))} (hd : d.funcsOut = .agg ds)
    {i : Nat} (hi : i < n) {b : UInt8} {r : List UInt8} (hdi : ds[i]? = some (.agg [.held (b :: r)])) {f0 : FuncId}
    (hone : ((List.range P.funcs.size).filter fun f => (P.funcs[f]?).any (·.name.toUTF8.data.toList == b :: r)) = [f0]) : W.cell? ⟨g, i, none⟩ = some (.func (.func f0) #[] #[]) := by
  obtain ⟨g', t', cs, fuel, p, hg', ht', hv, hr⟩ := h
  obtain rfl := Option.some.inj (hg.symm.trans hg')
  obtain rfl := Option.some.inj (hty.symm.trans ht')
  obtain ⟨xs, m, _, ex, hcl, hl, hel⟩ := DataW.trod_array ht hr
  rw [hd] at ex
  have e3 : xs.map (·.1) = ds := (DataW.agg.inj (Prod.mk.inj ex).1).symm
  obtain ⟨v, hv1, hv2⟩ := one_cell (l := cs.toList) (n := n) (hcl.trans ct) hi
  have hE := hel i hi
  rw [ce, Nat.mul_one, hv1] at hE
  rw [← e3, List.getElem?_map] at hdi
  cases hx : xs[i]? with
  | none => rw [hx] at hdi; cases hdi
  | some x =>
    rw [hx] at hE hdi
    simp only [Option.map_some, Option.some.injEq] at hdi
    obtain ⟨y0, k, rfl, _, hy⟩ := trod_struct1 he hE
    rw [cf, ho, List.drop_zero] at hy
    have hy0 : y0.1 = .held (b :: r) := by simpa using hdi
    obtain ⟨y1, y2⟩ := y0
    subst hy0
    obtain rfl := func_of_trod hft hone (show DataW.trod _ P W 0 _ true k fld.type [v] = _ from hy)
    rw [World.var?_cell hg hv i]
    simpa using hv2
theorem setCells_os (g : Nat) : ∀ (l : List Value) (i : Nat) (w : World), ((l.zipIdx i).foldl (fun w x => w.setCell ⟨g, x.2, none⟩ x.1) w).os = w.os
  | [], _, _ => rfl
  | _ :: l, i, w => by rw [List.zipIdx_cons, List.foldl_cons, setCells_os g l (i + 1)]; rfl
end Fig
end
section
namespace Fig
open Go Go.Proofs Go.Proofs.YtjpokifkbclkiaaDoor
set_option maxRecDepth 100000
def plainL : List (String × DataW Unit) := [("unicode/utf8.acceptRanges", Rows.laid_unicode_utf8_acceptRanges), ("figurehead/ten.powers", Rows.laid_figurehead_ten_powers), ("unicode/utf8.first", Rows.laid_unicode_utf8_first)]
def laidL : List (String × DataW Unit) := [("figurehead/mode.ways", Rows.laid_figurehead_mode_ways), ("unicode/utf8.acceptRanges", Rows.laid_unicode_utf8_acceptRanges), ("figurehead/ten.powers", Rows.laid_figurehead_ten_powers), ("unicode/utf8.first", Rows.laid_unicode_utf8_first)]
def wayCells : List Value := [.func (.func 112) #[] #[], .func (.func 113) #[] #[], .func (.func 114) #[] #[], .func (.func 115) #[] #[], .func (.func 116) #[] #[], .func (.func 117) #[] #[], .func (.func 118) #[] #[], .func (.func 119) #[] #[]]
noncomputable def startW (os : Os) : World := (wayCells.zipIdx 0).foldl (fun w x => w.setCell ⟨1, x.2, none⟩ x.1) (World.laidAll Tryd.prog os plainL)
theorem startW_os (os : Os) : (startW os).os = os := (setCells_os _ _ _ _).trans (World.laidAll_os _ _ _)
theorem met (os : Os) (args : Array Value) : laidMetH Tryd.prog laidL ((startW os).forCall (fun _ _ => 0) ⟨#[], args, []⟩).memory :=
  laidMetH_of_parts3 (fuel := 8) (laidMet_of_run' 8 (by kernel_rfl) (by kernel_rfl)) (by kernel_rfl) (by kernel_rfl)
theorem plainFilter : (laidL.filter fun x => x.2.handleName?.isNone) = plainL := by kernel_rfl
theorem plain_of {W : World} (h : laidMetH Tryd.prog laidL W) : laidMet Tryd.prog plainL W := plainFilter ▸ (laidMetH_iff.1 h).1
theorem ways_of {W : World} (h : laidMetH Tryd.prog laidL W) : ∀ i f, ([112, 113, 114, 115, 116, 117, 118, 119] : List Nat)[i]? = some f → W.cell? ⟨1, i, none⟩ = some (.func (.func f) #[] #[]) := by
  have hF := h.funcs (n := "figurehead/mode.ways") (List.mem_cons_self)
  have gN : Tryd.prog.globalNamed "figurehead/mode.ways" = some 1 := by kernel_rfl
  have gT : (Tryd.prog.globals[1]?).map (·.type) = some 73 := by kernel_rfl
  have c1 : Tryd.prog.cellsOf 72 = 1 := by kernel_rfl
  have c2 : Tryd.prog.cellsOf 70 = 1 := by kernel_rfl
  have c3 : Tryd.prog.cellsOf 73 = 8 := by kernel_rfl
  intro i f hf
  have key : ∀ {b : UInt8} {r : List UInt8} {j : Nat} {f0 : FuncId}, j < 8 → _ → _ → W.cell? ⟨1, j, none⟩ = some (.func (.func f0) #[] #[]) := fun {b} {r} {j} {f0} hj hdi hone => func_cell (b := b) (r := r) hF gN gT Tryd.underlying73 Tryd.underlying72 Tryd.underlying70 c1 c2 rfl c3 rfl hj hdi hone
  match i, hf with
  | 0, hf => obtain rfl := Option.some.inj hf; exact key (b := 102) (r := [105, 103, 117, 114, 101, 104, 101, 97, 100, 47, 109, 111, 100, 101, 46, 119, 97, 121, 115, 36, 49]) (by decide) rfl (by kernel_rfl)
  | 1, hf => obtain rfl := Option.some.inj hf; exact key (b := 102) (r := [105, 103, 117, 114, 101, 104, 101, 97, 100, 47, 109, 111, 100, 101, 46, 119, 97, 121, 115, 36, 50]) (by decide) rfl (by kernel_rfl)
  | 2, hf => obtain rfl := Option.some.inj hf; exact key (b := 102) (r := [105, 103, 117, 114, 101, 104, 101, 97, 100, 47, 109, 111, 100, 101, 46, 119, 97, 121, 115, 36, 51]) (by decide) rfl (by kernel_rfl)
  | 3, hf => obtain rfl := Option.some.inj hf; exact key (b := 102) (r := [105, 103, 117, 114, 101, 104, 101, 97, 100, 47, 109, 111, 100, 101, 46, 119, 97, 121, 115, 36, 52]) (by decide) rfl (by kernel_rfl)
  | 4, hf => obtain rfl := Option.some.inj hf; exact key (b := 102) (r := [105, 103, 117, 114, 101, 104, 101, 97, 100, 47, 109, 111, 100, 101, 46, 119, 97, 121, 115, 36, 53]) (by decide) rfl (by kernel_rfl)
  | 5, hf => obtain rfl := Option.some.inj hf; exact key (b := 102) (r := [105, 103, 117, 114, 101, 104, 101, 97, 100, 47, 109, 111, 100, 101, 46, 119, 97, 121, 115, 36, 54]) (by decide) rfl (by kernel_rfl)
  | 6, hf => obtain rfl := Option.some.inj hf; exact key (b := 102) (r := [105, 103, 117, 114, 101, 104, 101, 97, 100, 47, 109, 111, 100, 101, 46, 119, 97, 121, 115, 36, 55]) (by decide) rfl (by kernel_rfl)
  | 7, hf => obtain rfl := Option.some.inj hf; exact key (b := 102) (r := [105, 103, 117, 114, 101, 104, 101, 97, 100, 47, 109, 111, 100, 101, 46, 119, 97, 121, 115, 36, 56]) (by decide) rfl (by kernel_rfl)
  | k + 8, hf => simp at hf
theorem pows_of {W : World} (h : laidMetH Tryd.prog laidL W) : ∀ i, i < 9 → W.cell? ⟨0, i, none⟩ = some (.int .u32 (([1, 10, 100, 1000, 10000, 100000, 1000000, 10000000, 100000000] : List Int).getD i 0)) := by
  have gN : Tryd.prog.globalNamed "figurehead/ten.powers" = some 0 := by kernel_rfl
  have gT : (Tryd.prog.globals[0]?).map (·.type) = some 69 := by kernel_rfl
  have hT := Lib.tabIs_of_head (k := .u32) (zs := [1, 10, 100, 1000, 10000, 100000, 1000000, 10000000, 100000000]) gN gT Tryd.underlying69 Tryd.underlying50 (by kernel_rfl) (by kernel_rfl) (laidMet.tail (plain_of h))
  exact fun i hi => hT.cell gN i hi
theorem of_laid {W : World} (h : laidMetH Tryd.prog laidL W) : Glob W := ⟨ways_of h, pows_of h⟩
end Fig
end
section
namespace Fig
open Go Go.ChangeShapes Go.WideShapes Go.RowKit Go.Deep Go.WideElems Go.Joins
theorem open_dec {H : Type} {enc : TypeId × Value → H} {P : Program} {w : World} {base : Nat} {spare : Nat → Bool} {held : Bool} {r : Reach} {b0 : Nat} {t : TypeId} {f0 f1 f2 : Field} {v : Value} {d : DataW H} {p : List MemPlace} {k : IntKind} (hs : P.underlying t = some (.struct #[f0, f1, f2])) (hone : oneCellFields P #[f0, f1, f2] = true) (hC : P.cellsOf t = 3)
    (u0 : P.underlying f0.type = some .bool) (u1 : P.underlying f1.type = some .string) (u2 : P.underlying f2.type = some (.int k)) (hv : Value.okWide P w r b0 t v) (h : DataW.Trod enc P w base spare held t v d p) :
    ∃ (x : Bool) (s : ByteArray) (n : Int), v = .agg #[.bool x, .string s, .int k n] ∧ d = .agg [.lit (.bool x), .lit (.string s.data.toList), .lit (.int k n)] ∧ p = [] ∧ s.size ≤ maxLen ∧ (Lit.int k n).wf = true := by
  obtain ⟨v0, v1, v2, y0, y1, y2, n, rfl, rfl, rfl, h0, h1, h2⟩ := open_agg3 hs hone hC hv h
  obtain ⟨x, e0, rfl⟩ := DataW.trod_bool u0 h0
  obtain ⟨s, e1, rfl, hl⟩ := DataW.trod_string u1 h1
  obtain ⟨m, e2, rfl, hw⟩ := DataW.trod_int u2 h2
  simp only [List.cons.injEq, and_true] at e0 e1 e2
  subst e0 e1 e2
  exact ⟨x, s, m, rfl, rfl, rfl, hl, hw⟩
theorem shut_dec {H : Type} {enc : TypeId × Value → H} {P : Program} {w : World} {base : Nat} {spare : Nat → Bool} {held : Bool} {t : TypeId} {f0 f1 f2 : Field} {k : IntKind} {x : Bool} {s : ByteArray} {n : Int} (hs : P.underlying t = some (.struct #[f0, f1, f2])) (hone : oneCellFields P #[f0, f1, f2] = true) (hC : P.cellsOf t = 3)
    (u0 : P.underlying f0.type = some .bool) (u1 : P.underlying f1.type = some .string) (u2 : P.underlying f2.type = some (.int k)) (hl : s.size ≤ maxLen) (hw : (Lit.int k n).wf = true) :
    DataW.Trod enc P w base spare held t (.agg #[.bool x, .string s, .int k n]) (.agg [.lit (.bool x), .lit (.string s.data.toList), .lit (.int k n)]) [] :=
  shut_agg3 (y0 := (.lit (.bool x), [])) (y1 := (.lit (.string s.data.toList), [])) (y2 := (.lit (.int k n), [])) hs hone hC ⟨1, by simp [DataW.trod, u0]⟩ ⟨1, by simp [DataW.trod, u1, hl]⟩ ⟨1, by simp [DataW.trod, u2, hw]⟩
theorem sized_dec {H : Type} {P : Program} {ts : List TypeId} {ds : List (DataW H)} (h : (DataW.weightsEach P ts ds).all (· ≤ reachBytes) = true) {j : Nat} {t : TypeId} {f0 f1 f2 : Field} {x y : DataW H} {bytes : List UInt8} (ht : ts[j]? = some t) (hd : ds[j]? = some (.agg [x, .lit (.string bytes), y])) (hs : P.underlying t = some (.struct #[f0, f1, f2])) : bytes.length ≤ reachBytes := by
  have := List.all_eq_true.1 h _ (DataW.weights_mem_each ht hd bytes.length (by simp [DataW.weights, DataW.weightsEach, hs]))
  simpa using this
end Fig
end
