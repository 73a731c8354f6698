/- The functions that the law SigRounds reaches, told as plain functions, with what is proved of them, and the words they need (part 4). -/
import Derived.Test.YtjpokifkbclkiaaDoorCSigRounds0
import Derived.Test.YtjpokifkbclkiaaDoorCSigRounds1
import Derived.Test.YtjpokifkbclkiaaDoorCSigRounds3
import Derived.Test.YtjpokifkbclkiaaDoorCSigRounds2
import Derived.SizedLaws
import Derived.ChangeSlices
import Derived.LaidMore
import Derived.LaidHandle
import Derived.LaidSub
import Derived.OpenShut
import Derived.ChangeSame
import Derived.Lay
import Derived.Lib.LaidTab
import Derived.Test.YtjpokifkbclkiaaDoorRows
import Derived.Stop.LaidErr
import Derived.Lib.SmallJoins
import Derived.ChangeMaps5
set_option linter.unusedVariables false
set_option linter.unusedSimpArgs false
section
namespace Go.Proofs.YtjpokifkbclkiaaDoor.Px
open Fig Go.RowKit Go.Proofs.YtjpokifkbclkiaaDoorW.PrintWords Go.Proofs.YtjpokifkbclkiaaDoorW.PrintLast Go.Proofs.YtjpokifkbclkiaaDoorW.PrintMore
attribute [local go_sem] max2_int min2_int max_two min_two max_three min_three max_four min_four   -- for this text's walks alone
attribute [local go_sem high] eqA23
attribute [local go_sem] fieldA23_0 fieldA23_1 fieldA23_2
mutual
def figureheadlaw09_SigRounds.j0 : Nat → Int → Int → Bool → Bool → ByteArray → Int → Option (Bool)
  | 0, _, _, _, _, _, _ => none
  | k + 1, x0, x2, x17, x467000, x467001, x467002 => if x17 = true then ((figureheadlaw09_answers.f k).bind fun t468 => (some t468)) else ((sig_Round.f k x0 x467000 x467001 x467002 x2).bind fun bt469 => (if x0 < 0 then (figureheadlaw09_SigRounds.j1 k x0 x2 bt469.2.2.2 true x467000 x467001 x467002 bt469.1 bt469.2.1 bt469.2.2.1) else (if x0 > 7 then (figureheadlaw09_SigRounds.j1 k x0 x2 bt469.2.2.2 true x467000 x467001 x467002 bt469.1 bt469.2.1 bt469.2.2.1) else (figureheadlaw09_SigRounds.j1 k x0 x2 bt469.2.2.2 (decide (x2 < 1)) x467000 x467001 x467002 bt469.1 bt469.2.1 bt469.2.2.1))))
def figureheadlaw09_SigRounds.j1 : Nat → Int → Int → Int → Bool → Bool → ByteArray → Int → Bool → ByteArray → Int → Option (Bool)
  | 0, _, _, _, _, _, _, _, _, _, _ => none
  | k + 1, x0, x2, x8, x35, x467000, x467001, x467002, x474000, x474001, x474002 => if x35 = true then ((figureheadlaw09_answers.f k).bind fun t474 => (if t474 = true then (if x8 = 1 then (some (!x474000 && (x474001.toList == ([] : List UInt8) && (x474002 == 0)))) else (some false)) else (some false))) else ((figureheadref05_Top.f k x467000 x467001 x467002).bind fun t475 => ((figureheadref05_Round.f k x0 x467000 x467001 x467002 (⟨#[49]⟩ : ByteArray) (wrap64 ((wrap64 (t475 - x2)) + 1))).bind fun bt476 => ((figureheadlaw09_answers.f k).bind fun t481 => (if t481 = true then (if x8 = bt476.2.2.2 then (if (x474000 == bt476.1 && (x474001.toList == bt476.2.1.toList && (x474002 == bt476.2.2.1))) = true then (if x8 = 0 then ((sig_Count.f x474000 x474001 x474002).bind fun t482 => (some (decide (t482 ≤ x2)))) else (some true)) else (some false)) else (some false)) else (some false)))))
end
def figureheadlaw09_SigRounds.f (k : Nat) (a0 : Int) (a1_0 : Bool) (a1_1 : ByteArray) (a1_2 : Int) (a2 : Int) : Option (Bool) := (figureheadlaw09_good.f k a1_0 a1_1 a1_2).bind fun t467 => (if t467 = true then (figureheadlaw09_SigRounds.j0 k a0 a2 (decide (a2 > 300)) a1_0 a1_1 a1_2) else (figureheadlaw09_SigRounds.j0 k a0 a2 true a1_0 a1_1 a1_2))
theorem figureheadlaw09_SigRounds.mono_l : ∀ k, (∀ y0 y1 y2 y3 y4 y5, LeO (figureheadlaw09_SigRounds.j0 k y0 y1 y2 y3 y4 y5) (figureheadlaw09_SigRounds.j0 (k + 1) y0 y1 y2 y3 y4 y5)) ∧ (∀ y0 y1 y2 y3 y4 y5 y6 y7 y8 y9, LeO (figureheadlaw09_SigRounds.j1 k y0 y1 y2 y3 y4 y5 y6 y7 y8 y9) (figureheadlaw09_SigRounds.j1 (k + 1) y0 y1 y2 y3 y4 y5 y6 y7 y8 y9))
  | 0 => ⟨fun _ _ _ _ _ _ r h => by simp [figureheadlaw09_SigRounds.j0] at h, fun _ _ _ _ _ _ _ _ _ _ r h => by simp [figureheadlaw09_SigRounds.j1] at h⟩
  | k + 1 => by
    obtain ⟨ih0, ih1⟩ := figureheadlaw09_SigRounds.mono_l k
    refine ⟨?_, ?_⟩
    · intro y0 y1 y2 y3 y4 y5
      unfold figureheadlaw09_SigRounds.j0
      repeat' first
      | (with_reducible exact ih0 _ _ _ _ _ _)
      | (with_reducible exact ih1 _ _ _ _ _ _ _ _ _ _)
      | (with_reducible exact figureheadlaw09_answers.mono _)
      | (with_reducible exact figureheadlaw09_good.mono _ _ _ _)
      | (with_reducible exact figureheadref05_Round.mono _ _ _ _ _ _ _)
      | (with_reducible exact figureheadref05_Top.mono _ _ _ _)
      | (with_reducible exact sig_Round.mono _ _ _ _ _ _)
      | (with_reducible exact LeO.refl _)
      | (with_reducible exact LeO.none _)
      | (with_reducible refine LeO.ite ?_ ?_)
      | (with_reducible refine LeO.bind ?_ (fun _ => ?_))
      | exact ih0 _ _ _ _ _ _
      | exact ih1 _ _ _ _ _ _ _ _ _ _
      | exact figureheadlaw09_answers.mono _
      | exact figureheadlaw09_good.mono _ _ _ _
      | exact figureheadref05_Round.mono _ _ _ _ _ _ _
      | exact figureheadref05_Top.mono _ _ _ _
      | exact sig_Round.mono _ _ _ _ _ _
      | exact LeO.none _
      | refine LeO.ite ?_ ?_
      | refine LeO.bind ?_ (fun _ => ?_)
    · intro y0 y1 y2 y3 y4 y5 y6 y7 y8 y9
      unfold figureheadlaw09_SigRounds.j1
      repeat' first
      | (with_reducible exact ih0 _ _ _ _ _ _)
      | (with_reducible exact ih1 _ _ _ _ _ _ _ _ _ _)
      | (with_reducible exact figureheadlaw09_answers.mono _)
      | (with_reducible exact figureheadlaw09_good.mono _ _ _ _)
      | (with_reducible exact figureheadref05_Round.mono _ _ _ _ _ _ _)
      | (with_reducible exact figureheadref05_Top.mono _ _ _ _)
      | (with_reducible exact sig_Round.mono _ _ _ _ _ _)
      | (with_reducible exact LeO.refl _)
      | (with_reducible exact LeO.none _)
      | (with_reducible refine LeO.ite ?_ ?_)
      | (with_reducible refine LeO.bind ?_ (fun _ => ?_))
      | exact ih0 _ _ _ _ _ _
      | exact ih1 _ _ _ _ _ _ _ _ _ _
      | exact figureheadlaw09_answers.mono _
      | exact figureheadlaw09_good.mono _ _ _ _
      | exact figureheadref05_Round.mono _ _ _ _ _ _ _
      | exact figureheadref05_Top.mono _ _ _ _
      | exact sig_Round.mono _ _ _ _ _ _
      | exact LeO.none _
      | refine LeO.ite ?_ ?_
      | refine LeO.bind ?_ (fun _ => ?_)
theorem figureheadlaw09_SigRounds.mono : ∀ a0 a1 a2 a3 a4 k, LeO (figureheadlaw09_SigRounds.f k a0 a1 a2 a3 a4) (figureheadlaw09_SigRounds.f (k + 1) a0 a1 a2 a3 a4) := by
  intro a0 a1 a2 a3 a4 k
  obtain ⟨ih0, ih1⟩ := figureheadlaw09_SigRounds.mono_l k
  unfold figureheadlaw09_SigRounds.f
  repeat' first
      | (with_reducible exact ih0 _ _ _ _ _ _)
      | (with_reducible exact ih1 _ _ _ _ _ _ _ _ _ _)
      | (with_reducible exact figureheadlaw09_answers.mono _)
      | (with_reducible exact figureheadlaw09_good.mono _ _ _ _)
      | (with_reducible exact figureheadref05_Round.mono _ _ _ _ _ _ _)
      | (with_reducible exact figureheadref05_Top.mono _ _ _ _)
      | (with_reducible exact sig_Round.mono _ _ _ _ _ _)
      | (with_reducible exact LeO.refl _)
      | (with_reducible exact LeO.none _)
      | (with_reducible refine LeO.ite ?_ ?_)
      | (with_reducible refine LeO.bind ?_ (fun _ => ?_))
      | exact ih0 _ _ _ _ _ _
      | exact ih1 _ _ _ _ _ _ _ _ _ _
      | exact figureheadlaw09_answers.mono _
      | exact figureheadlaw09_good.mono _ _ _ _
      | exact figureheadref05_Round.mono _ _ _ _ _ _ _
      | exact figureheadref05_Top.mono _ _ _ _
      | exact sig_Round.mono _ _ _ _ _ _
      | exact LeO.none _
      | refine LeO.ite ?_ ?_
      | refine LeO.bind ?_ (fun _ => ?_)
def figureheadlaw09_SigRounds.T6 : Bool × List (List Nat × List Nat) := (true, [([], []), ([], []), ([], []), ([2], [2]), ([], []), ([3, 4], [3, 4]), ([5], [5]), ([0, 1, 6, 3], [0, 1, 6]), ([7], [7]), ([8], [8]), ([8], [8]), ([], []), ([11, 9, 7, 0, 1, 2, 3, 4, 5, 6, 7, 8, 9, 11], [9, 11]), ([10, 12, 0, 1, 2, 3, 4, 5, 6, 7, 8, 9, 10, 11, 12], [10])])
def figureheadlaw09_SigRounds.B6 : List Nat := [0, 0, 0, 4, 0, 28, 60, 127, 255, 511, 511, 0, 3071, 8191]
theorem figureheadlaw09_SigRounds.tab6 : rtab .any (opsOf Tryd.f9 6) = figureheadlaw09_SigRounds.T6 := by kernel_rfl
theorem figureheadlaw09_SigRounds.bits6 : waitsOk figureheadlaw09_SigRounds.T6.2 figureheadlaw09_SigRounds.B6 = true := by kernel_rfl
set_option maxHeartbeats 8000000 in
set_option maxRecDepth 100000 in
theorem figureheadlaw09_SigRounds.calls (k : Nat) (a0 : Int) (a1_0 : Bool) (a1_1 : ByteArray) (a1_2 : Int) (a2 : Int) (r : Bool) (w : World) (hG : Fig.Glob w) (HT : Aside0 (r = true)) (h : figureheadlaw09_SigRounds.f k a0 a1_0 a1_1 a1_2 a2 = some r) :
    Calls Tryd.prog 9 #[.int .i64 a0, .agg #[.bool a1_0, .string a1_1, .int .i64 a1_2], .int .i64 a2] w fun e w' => e = .returned (.bool r) ∧ Below w.heap.size w w' := by
  have hu23 := Tryd.underlying23
  have HG := Aside0.mk hG
  clear hG
  have HB := Aside0.mk (Below.refl w.heap.size w)
  have H : ((figureheadlaw09_good.f k a1_0 a1_1 a1_2).bind fun t467 => (if t467 = true then (figureheadlaw09_SigRounds.j0 k a0 a2 (decide (a2 > 300)) a1_0 a1_1 a1_2) else (figureheadlaw09_SigRounds.j0 k a0 a2 true a1_0 a1_1 a1_2))) = some r := h
  clear h
  have HC4 := Aside0.mk H
  clear H
  go_enter Tryd.func9, Tryd.ntmps9
  go_upto_region 1 with (first | ((with_reducible refine gate_dst (N := 4) rfl ?_); refine box_event ?hg (N := 4) ?hd (cs := #[.bool a1_0, .string a1_1, .int .i64 a1_2]) (t := 23) ?hr ?_; (case hd => rfl); (case hg => rfl); (case hr => first | (go_simp; done) | (go_simp; rfl)); intro gb466 hg w5 hbox hb; have n0_ := Aside0.mk (below_step (by repeat (first | (with_reducible first | exact HB.out | apply below_alloc | apply pw_below_drewN | apply below_drew1) | exact HB.out)) hb); have n1_ := Aside0.mk (hbox); have n2_ := Aside0.mk ((by rw [hg]; exact (below_size (by repeat (first | (with_reducible first | exact HB.out | apply below_alloc | apply pw_below_drewN | apply below_drew1) | exact HB.out))) : w.heap.size ≤ gb466)); have n3_ := Aside0.mk ((by rw [hg]; exact (below_size (by repeat (first | (with_reducible first | exact HB.out | apply below_alloc | apply pw_below_drewN | apply below_drew1) | exact HB.out))) : w.heap.size ≤ gb466)); clear HB; have HB := n0_; have BK466 := n1_; have GW466 := n2_; have GE466 := n3_; clear n0_ n1_ n2_ n3_; clear hb hbox hg))
  (try simp only [Act.put, List.setIfInBounds_toArray, List.set_cons_zero, List.set_cons_succ])
  go_cut [17] (fun v17 wc => ∃ (kq : Nat) (x17_3 : Bool), v17 = .bool x17_3 ∧ Aside0 (figureheadlaw09_SigRounds.j0 kq a0 a2 x17_3 a1_0 a1_1 a1_2 = some r) ∧ Aside0 (kq ≤ k) ∧ Aside0 (wc.heap[gb466]? = some (.cells #[.bool a1_0, .string a1_1, .int .i64 a1_2] 23 (0, 0))) ∧ Aside0 (Below w.heap.size w wc))
  case first =>
    have H := HC4.out
    clear HC4
    replace H := Option.bind_eq_some_iff.mp H
    obtain ⟨t467, A60, H⟩ := H
    replace H : (if t467 = true then (figureheadlaw09_SigRounds.j0 k a0 a2 (decide (a2 > 300)) a1_0 a1_1 a1_2) else (figureheadlaw09_SigRounds.j0 k a0 a2 true a1_0 a1_1 a1_2)) = some r := H
    have A6 := Aside0.mk A60
    clear A60
    by_cases c7 : t467 = true
    · subst c7
      have H1 : (figureheadlaw09_SigRounds.j0 k a0 a2 (decide (a2 > 300)) a1_0 a1_1 a1_2) = some r := by rw [if_pos rfl] at H; exact H
      clear H
      have H := H1
      clear H1
      have H' := Aside0.mk H
      clear H
      have hcz8_0 : w5.cell? ⟨gb466, 0, none⟩ = some (.bool a1_0) := (blk_cell BK466.out 0).trans rfl
      have hcz8_1 : w5.cell? ⟨gb466, 1, none⟩ = some (.string a1_1) := (blk_cell BK466.out 1).trans rfl
      have hcz8_2 : w5.cell? ⟨gb466, 2, none⟩ = some (.int .i64 a1_2) := (blk_cell BK466.out 2).trans rfl
      have hfz8_0 := blk_frozen BK466.out 0
      have hfz8_1 := blk_frozen BK466.out 1
      have hfz8_2 := blk_frozen BK466.out 2
      go_wp2_with (first | ((with_reducible refine gate_callee (f := 23) rfl ?_); refine goesL_ (some 12) rfl rfl Tryd.func23 (by kernel_rfl) rfl #[.agg #[.bool a1_0, .string a1_1, .int .i64 a1_2]] rfl (by (try simp only [List.map_toArray]); (try simp only [List.map_cons]); (try simp only [List.map_nil]); first | done | rfl | (simp only [List.length_drop, List.length_take]; rfl)) ?_; (with_reducible refine (figureheadlaw09_good.calls k a1_0 a1_1 a1_2 true _ A6.out).mono ?_); rintro e w9 ⟨rfl, hb⟩; refine ⟨_, rfl, ?_⟩; have n0_ := Aside0.mk (blk_below (g := gb466) (o := .cells #[.bool a1_0, .string a1_1, .int .i64 a1_2] 23 (0, 0)) (by (with_reducible repeat (first | refine blk_drewN ?_ _ | refine blk_drew ?_ | refine blk_alloc ?_ _)); exact BK466.out) hb); have n1_ := Aside0.mk (below_step (by repeat (first | (with_reducible first | exact HB.out | apply below_alloc | apply pw_below_drewN | apply below_drew1 | refine below_set ?_ GE466.out) | exact HB.out)) hb); clear BK466; clear HB; have BK466 := n0_; have HB := n1_; clear n0_ n1_; (try clear hb); (try clear hb2); (try clear hk); (try clear hi)))
      go_meet
      case rel => exact ⟨_, (decide (a2 > 300)), (by first | rfl | (simp; done) | (simp [*]; done) | (simp [*, Fig.bne_nil]; done)), H', ⟨by first | omega | exact Nat.le_refl _⟩, ⟨by (with_reducible repeat (first | refine blk_drewN ?_ _ | refine blk_drew ?_ | refine blk_alloc ?_ _)); exact BK466.out⟩, ⟨by repeat (first | (with_reducible first | exact HB.out | apply below_alloc | apply pw_below_drewN | apply below_drew1 | refine below_set ?_ GE466.out) | exact HB.out)⟩⟩
    · replace c7 := Bool.eq_false_iff.mpr c7
      subst c7
      have H1 : (figureheadlaw09_SigRounds.j0 k a0 a2 true a1_0 a1_1 a1_2) = some r := by rw [if_neg (show ¬ (false = true) by decide)] at H; exact H
      clear H
      have H := H1
      clear H1
      have H' := Aside0.mk H
      clear H
      have hcz10_0 : w5.cell? ⟨gb466, 0, none⟩ = some (.bool a1_0) := (blk_cell BK466.out 0).trans rfl
      have hcz10_1 : w5.cell? ⟨gb466, 1, none⟩ = some (.string a1_1) := (blk_cell BK466.out 1).trans rfl
      have hcz10_2 : w5.cell? ⟨gb466, 2, none⟩ = some (.int .i64 a1_2) := (blk_cell BK466.out 2).trans rfl
      have hfz10_0 := blk_frozen BK466.out 0
      have hfz10_1 := blk_frozen BK466.out 1
      have hfz10_2 := blk_frozen BK466.out 2
      go_wp2_with (first | ((with_reducible refine gate_callee (f := 23) rfl ?_); refine goesL_ (some 12) rfl rfl Tryd.func23 (by kernel_rfl) rfl #[.agg #[.bool a1_0, .string a1_1, .int .i64 a1_2]] rfl (by (try simp only [List.map_toArray]); (try simp only [List.map_cons]); (try simp only [List.map_nil]); first | done | rfl | (simp only [List.length_drop, List.length_take]; rfl)) ?_; (with_reducible refine (figureheadlaw09_good.calls k a1_0 a1_1 a1_2 false _ A6.out).mono ?_); rintro e w11 ⟨rfl, hb⟩; refine ⟨_, rfl, ?_⟩; have n0_ := Aside0.mk (blk_below (g := gb466) (o := .cells #[.bool a1_0, .string a1_1, .int .i64 a1_2] 23 (0, 0)) (by (with_reducible repeat (first | refine blk_drewN ?_ _ | refine blk_drew ?_ | refine blk_alloc ?_ _)); exact BK466.out) hb); have n1_ := Aside0.mk (below_step (by repeat (first | (with_reducible first | exact HB.out | apply below_alloc | apply pw_below_drewN | apply below_drew1 | refine below_set ?_ GE466.out) | exact HB.out)) hb); clear BK466; clear HB; have BK466 := n0_; have HB := n1_; clear n0_ n1_; (try clear hb); (try clear hb2); (try clear hk); (try clear hi)))
      go_meet
      case rel => exact ⟨_, (true), (by first | rfl | (simp; done) | (simp [*]; done) | (simp [*, Fig.bne_nil]; done)), H', ⟨by first | omega | exact Nat.le_refl _⟩, ⟨by (with_reducible repeat (first | refine blk_drewN ?_ _ | refine blk_drew ?_ | refine blk_alloc ?_ _)); exact BK466.out⟩, ⟨by repeat (first | (with_reducible first | exact HB.out | apply below_alloc | apply pw_below_drewN | apply below_drew1 | refine below_set ?_ GE466.out) | exact HB.out)⟩⟩
  case rest =>
    clear HC4
    try clear c2
    try clear p2
    try clear c7
    try clear c9
    try clear hcz10_0
    try clear hcz10_1
    try clear hcz10_2
    try clear hcz8_0
    try clear hcz8_1
    try clear hcz8_2
    try clear hfz10_0
    try clear hfz10_1
    try clear hfz10_2
    try clear hfz8_0
    try clear hfz8_1
    try clear hfz8_2
    obtain ⟨kq, x17_3, rfl, HA, HJ3, BK466, HB⟩ := hcut
    cases kq with
    | zero => exact absurd HA.out (by simp [figureheadlaw09_SigRounds.j0])
    | succ kj3 =>
      have H := HA.out
      clear HA
      simp only [figureheadlaw09_SigRounds.j0] at H
      by_cases c12 : x17_3 = true
      · subst c12
        have H1 : ((figureheadlaw09_answers.f kj3).bind fun t468 => (some t468)) = some r := by rw [if_pos rfl] at H; exact H
        clear H
        have H := H1
        clear H1
        replace H := Option.bind_eq_some_iff.mp H
        obtain ⟨t468, A130, H⟩ := H
        replace H : (some t468) = some r := H
        have A13 := Aside0.mk A130
        clear A130
        obtain rfl := Option.some.inj H
        go_wp2_with (first | ((with_reducible refine gate_callee (f := 24) rfl ?_); refine goesL_ (some 18) rfl rfl Tryd.func24 (by kernel_rfl) rfl #[] rfl (by (try simp only [List.map_toArray]); (try simp only [List.map_cons]); (try simp only [List.map_nil]); first | done | rfl | (simp only [List.length_drop, List.length_take]; rfl)) ?_; (with_reducible refine (figureheadlaw09_answers.calls kj3  t468 _ ?side1 ?side2 A13.out).mono ?_); (case side1 => exact Fig.Glob.below HG.out (by repeat (first | (with_reducible first | exact HB.out | apply below_alloc | apply pw_below_drewN | apply below_drew1 | refine below_set ?_ GE466.out) | exact HB.out))); (case side2 => exact ⟨by first | rfl | exact HT.out⟩); rintro e w14 ⟨rfl, hb⟩; refine ⟨_, rfl, ?_⟩; have n0_ := Aside0.mk (blk_below (g := gb466) (o := .cells #[.bool a1_0, .string a1_1, .int .i64 a1_2] 23 (0, 0)) (by (with_reducible repeat (first | refine blk_drewN ?_ _ | refine blk_drew ?_ | refine blk_alloc ?_ _)); exact BK466.out) hb); have n1_ := Aside0.mk (below_step (by repeat (first | (with_reducible first | exact HB.out | apply below_alloc | apply pw_below_drewN | apply below_drew1 | refine below_set ?_ GE466.out) | exact HB.out)) hb); clear BK466; clear HB; have BK466 := n0_; have HB := n1_; clear n0_ n1_; (try clear hb); (try clear hb2); (try clear hk); (try clear hi)))
        go_ret
        exact ⟨by first | rfl | (simp [errW_none, errW_some] <;> rfl) | (simp [*, errW_none, errW_some] <;> rfl), by repeat (first | (with_reducible first | exact HB.out | apply below_alloc | apply pw_below_drewN | apply below_drew1 | refine below_set ?_ GE466.out) | exact HB.out)⟩
      · replace c12 := Bool.eq_false_iff.mpr c12
        subst c12
        have H1 : ((sig_Round.f kj3 a0 a1_0 a1_1 a1_2 a2).bind fun bt469 => (if a0 < 0 then (figureheadlaw09_SigRounds.j1 kj3 a0 a2 bt469.2.2.2 true a1_0 a1_1 a1_2 bt469.1 bt469.2.1 bt469.2.2.1) else (if a0 > 7 then (figureheadlaw09_SigRounds.j1 kj3 a0 a2 bt469.2.2.2 true a1_0 a1_1 a1_2 bt469.1 bt469.2.1 bt469.2.2.1) else (figureheadlaw09_SigRounds.j1 kj3 a0 a2 bt469.2.2.2 (decide (a2 < 1)) a1_0 a1_1 a1_2 bt469.1 bt469.2.1 bt469.2.2.1)))) = some r := by rw [if_neg (show ¬ (false = true) by decide)] at H; exact H
        clear H
        have H := H1
        clear H1
        replace H := Option.bind_eq_some_iff.mp H
        obtain ⟨⟨t469, t470, t471, t472⟩, A150, H⟩ := H
        replace H : (if a0 < 0 then (figureheadlaw09_SigRounds.j1 kj3 a0 a2 t472 true a1_0 a1_1 a1_2 t469 t470 t471) else (if a0 > 7 then (figureheadlaw09_SigRounds.j1 kj3 a0 a2 t472 true a1_0 a1_1 a1_2 t469 t470 t471) else (figureheadlaw09_SigRounds.j1 kj3 a0 a2 t472 (decide (a2 < 1)) a1_0 a1_1 a1_2 t469 t470 t471))) = some r := H
        have A15 := Aside0.mk A150
        clear A150
        have HC16 := Aside0.mk H
        clear H
        have hcz17_0 : wc.cell? ⟨gb466, 0, none⟩ = some (.bool a1_0) := (blk_cell BK466.out 0).trans rfl
        have hcz17_1 : wc.cell? ⟨gb466, 1, none⟩ = some (.string a1_1) := (blk_cell BK466.out 1).trans rfl
        have hcz17_2 : wc.cell? ⟨gb466, 2, none⟩ = some (.int .i64 a1_2) := (blk_cell BK466.out 2).trans rfl
        have hfz17_0 := blk_frozen BK466.out 0
        have hfz17_1 := blk_frozen BK466.out 1
        have hfz17_2 := blk_frozen BK466.out 2
        go_upto_region 4 with (first | ((with_reducible refine gate_callee (f := 25) rfl ?_); refine goesL_ (some 23) rfl rfl Tryd.func25 (by kernel_rfl) rfl #[.int .i64 a0, .agg #[.bool a1_0, .string a1_1, .int .i64 a1_2], .int .i64 a2] rfl (by (try simp only [List.map_toArray]); (try simp only [List.map_cons]); (try simp only [List.map_nil]); first | done | rfl | (simp only [List.length_drop, List.length_take]; rfl)) ?_; (with_reducible refine (sig_Round.calls kj3 a0 a1_0 a1_1 a1_2 a2 t469 t470 t471 t472 _ ?side1 A15.out).mono ?_); (case side1 => exact Fig.Glob.below HG.out (by repeat (first | (with_reducible first | exact HB.out | apply below_alloc | apply pw_below_drewN | apply below_drew1 | refine below_set ?_ GE466.out) | exact HB.out))); rintro e w18 ⟨rfl, hb⟩; refine ⟨_, rfl, ?_⟩; have n0_ := Aside0.mk (blk_below (g := gb466) (o := .cells #[.bool a1_0, .string a1_1, .int .i64 a1_2] 23 (0, 0)) (by (with_reducible repeat (first | refine blk_drewN ?_ _ | refine blk_drew ?_ | refine blk_alloc ?_ _)); exact BK466.out) hb); have n1_ := Aside0.mk (below_step (by repeat (first | (with_reducible first | exact HB.out | apply below_alloc | apply pw_below_drewN | apply below_drew1 | refine below_set ?_ GE466.out) | exact HB.out)) hb); clear BK466; clear HB; have BK466 := n0_; have HB := n1_; clear n0_ n1_; (try clear hb); (try clear hb2); (try clear hk); (try clear hi)) | ((with_reducible refine gate_dst (N := 7) rfl ?_); refine box_event ?hg (N := 7) ?hd (cs := #[.bool false, .string (⟨#[]⟩ : ByteArray), .int .i64 0]) (t := 23) ?hr ?_; (case hd => rfl); (case hg => rfl); (case hr => first | (go_simp; done) | (go_simp; rfl)); intro gb473 hg w19 hbox hb; have n0_ := Aside0.mk (blk_below (g := gb466) (o := .cells #[.bool a1_0, .string a1_1, .int .i64 a1_2] 23 (0, 0)) (by (with_reducible repeat (first | refine blk_drewN ?_ _ | refine blk_drew ?_ | refine blk_alloc ?_ _)); exact BK466.out) hb); have n1_ := Aside0.mk (below_step (by repeat (first | (with_reducible first | exact HB.out | apply below_alloc | apply pw_below_drewN | apply below_drew1 | refine below_set ?_ GE466.out) | exact HB.out)) hb); have n2_ := Aside0.mk (hbox); have n3_ := Aside0.mk ((by rw [hg]; exact (below_size (by repeat (first | (with_reducible first | exact HB.out | apply below_alloc | apply pw_below_drewN | apply below_drew1 | refine below_set ?_ GE466.out) | exact HB.out))) : w.heap.size ≤ gb473)); have n4_ := Aside0.mk ((by rw [hg]; exact (below_size (by repeat (first | (with_reducible first | exact HB.out | apply below_alloc | apply pw_below_drewN | apply below_drew1 | refine below_set ?_ GE466.out) | exact HB.out))) : w.heap.size ≤ gb473)); have n5_ := Aside0.mk ((by rw [hg]; exact Nat.ne_of_lt (blk_lt (g := gb466) (o := .cells #[.bool a1_0, .string a1_1, .int .i64 a1_2] 23 (0, 0)) (by (with_reducible repeat (first | refine blk_drewN ?_ _ | refine blk_drew ?_ | refine blk_alloc ?_ _)); exact BK466.out)) : gb466 ≠ gb473)); have n6_ := Aside0.mk ((by rw [hg]; exact Nat.ne_of_gt (blk_lt (g := gb466) (o := .cells #[.bool a1_0, .string a1_1, .int .i64 a1_2] 23 (0, 0)) (by (with_reducible repeat (first | refine blk_drewN ?_ _ | refine blk_drew ?_ | refine blk_alloc ?_ _)); exact BK466.out)) : gb473 ≠ gb466)); clear BK466; clear HB; have BK466 := n0_; have HB := n1_; have BK473 := n2_; have GW473 := n3_; have GE473 := n4_; have NB466_473 := n5_; have NB473_466 := n6_; clear n0_ n1_ n2_ n3_ n4_ n5_ n6_; clear hb hbox hg; have hnb20 := NB473_466.out; have hnc20 := NB466_473.out; have hcz21_0 : w19.cell? ⟨gb473, 0, none⟩ = some (.bool false) := (blk_cell BK473.out 0).trans rfl; have hcz21_1 : w19.cell? ⟨gb473, 1, none⟩ = some (.string (⟨#[]⟩ : ByteArray)) := (blk_cell BK473.out 1).trans rfl; have hcz21_2 : w19.cell? ⟨gb473, 2, none⟩ = some (.int .i64 0) := (blk_cell BK473.out 2).trans rfl; have hfz21_0 := blk_frozen BK473.out 0; have hfz21_1 := blk_frozen BK473.out 1; have hfz21_2 := blk_frozen BK473.out 2))
        (try simp only [Act.put, List.setIfInBounds_toArray, List.set_cons_zero, List.set_cons_succ])
        go_cut [35] (fun v35 wc => ∃ (kq : Nat) (x35_15 : Bool), v35 = .bool x35_15 ∧ Aside0 (figureheadlaw09_SigRounds.j1 kq a0 a2 t472 x35_15 a1_0 a1_1 a1_2 t469 t470 t471 = some r) ∧ Aside0 (kq ≤ kj3) ∧ Aside0 (wc.heap[gb466]? = some (.cells #[.bool a1_0, .string a1_1, .int .i64 a1_2] 23 (0, 0))) ∧ Aside0 (wc.heap[gb473]? = some (.cells #[.bool t469, .string t470, .int .i64 t471] 23 (0, 0))) ∧ Aside0 (Below w.heap.size w wc))
        case first =>
          have H := HC16.out
          clear HC16
          by_cases c22 : a0 < 0
          · rw [if_pos c22] at H
            have c22b0 : decide (a0 < 0) = true := decide_eq_true c22
            clear c22
            (first | rw [c22b0] | (simp only [i64_w, i32_w]; rw [c22b0]) | skip)
            have H' := Aside0.mk H
            clear H
            go_wp2
            go_meet
            case rel => exact ⟨_, (true), (by first | rfl | (simp; done) | (simp [*]; done) | (simp [*, Fig.bne_nil]; done)), H', ⟨by have := HJ3.out; first | omega | exact Nat.le_refl _⟩, ⟨by (with_reducible repeat (first | refine blk_drewN ?_ _ | refine blk_drew ?_ | refine blk_alloc ?_ _)); refine blk_far ?_ NB466_473.out _; (with_reducible repeat (first | refine blk_drewN ?_ _ | refine blk_drew ?_ | refine blk_alloc ?_ _)); refine blk_far ?_ NB466_473.out _; (with_reducible repeat (first | refine blk_drewN ?_ _ | refine blk_drew ?_ | refine blk_alloc ?_ _)); refine blk_far ?_ NB466_473.out _; (with_reducible repeat (first | refine blk_drewN ?_ _ | refine blk_drew ?_ | refine blk_alloc ?_ _)); exact BK466.out⟩, ⟨by (with_reducible repeat (first | refine blk_drewN ?_ _ | refine blk_drew ?_ | refine blk_alloc ?_ _)); refine blk_put (cs := #[.bool t469, .string t470, .int .i64 0]) ?_ 2 _ rfl; (with_reducible repeat (first | refine blk_drewN ?_ _ | refine blk_drew ?_ | refine blk_alloc ?_ _)); refine blk_put (cs := #[.bool t469, .string (⟨#[]⟩ : ByteArray), .int .i64 0]) ?_ 1 _ rfl; (with_reducible repeat (first | refine blk_drewN ?_ _ | refine blk_drew ?_ | refine blk_alloc ?_ _)); refine blk_put (cs := #[.bool false, .string (⟨#[]⟩ : ByteArray), .int .i64 0]) ?_ 0 _ rfl; (with_reducible repeat (first | refine blk_drewN ?_ _ | refine blk_drew ?_ | refine blk_alloc ?_ _)); exact BK473.out⟩, ⟨by repeat (first | (with_reducible first | exact HB.out | apply below_alloc | apply pw_below_drewN | apply below_drew1 | refine below_set ?_ GE466.out | refine below_set ?_ GE473.out) | exact HB.out)⟩⟩
          · rw [if_neg c22] at H
            have c22b0 : decide (a0 < 0) = false := decide_eq_false c22
            clear c22
            (first | rw [c22b0] | (simp only [i64_w, i32_w]; rw [c22b0]) | skip)
            by_cases c23 : a0 > 7
            · rw [if_pos c23] at H
              have c23b0 : decide (7 < a0) = true := decide_eq_true c23
              clear c23
              have H' := Aside0.mk H
              clear H
              go_wp2
              go_meet
              case rel => exact ⟨_, (true), (by first | rfl | (simp; done) | (simp [*]; done) | (simp [*, Fig.bne_nil]; done)), H', ⟨by have := HJ3.out; first | omega | exact Nat.le_refl _⟩, ⟨by (with_reducible repeat (first | refine blk_drewN ?_ _ | refine blk_drew ?_ | refine blk_alloc ?_ _)); refine blk_far ?_ NB466_473.out _; (with_reducible repeat (first | refine blk_drewN ?_ _ | refine blk_drew ?_ | refine blk_alloc ?_ _)); refine blk_far ?_ NB466_473.out _; (with_reducible repeat (first | refine blk_drewN ?_ _ | refine blk_drew ?_ | refine blk_alloc ?_ _)); refine blk_far ?_ NB466_473.out _; (with_reducible repeat (first | refine blk_drewN ?_ _ | refine blk_drew ?_ | refine blk_alloc ?_ _)); exact BK466.out⟩, ⟨by (with_reducible repeat (first | refine blk_drewN ?_ _ | refine blk_drew ?_ | refine blk_alloc ?_ _)); refine blk_put (cs := #[.bool t469, .string t470, .int .i64 0]) ?_ 2 _ rfl; (with_reducible repeat (first | refine blk_drewN ?_ _ | refine blk_drew ?_ | refine blk_alloc ?_ _)); refine blk_put (cs := #[.bool t469, .string (⟨#[]⟩ : ByteArray), .int .i64 0]) ?_ 1 _ rfl; (with_reducible repeat (first | refine blk_drewN ?_ _ | refine blk_drew ?_ | refine blk_alloc ?_ _)); refine blk_put (cs := #[.bool false, .string (⟨#[]⟩ : ByteArray), .int .i64 0]) ?_ 0 _ rfl; (with_reducible repeat (first | refine blk_drewN ?_ _ | refine blk_drew ?_ | refine blk_alloc ?_ _)); exact BK473.out⟩, ⟨by repeat (first | (with_reducible first | exact HB.out | apply below_alloc | apply pw_below_drewN | apply below_drew1 | refine below_set ?_ GE466.out | refine below_set ?_ GE473.out) | exact HB.out)⟩⟩
            · rw [if_neg c23] at H
              have c23b0 : decide (7 < a0) = false := decide_eq_false c23
              clear c23
              have H' := Aside0.mk H
              clear H
              go_wp2
              go_meet
              case rel => exact ⟨_, (decide (a2 < 1)), (by first | rfl | (simp; done) | (simp [*]; done) | (simp [*, Fig.bne_nil]; done)), H', ⟨by have := HJ3.out; first | omega | exact Nat.le_refl _⟩, ⟨by (with_reducible repeat (first | refine blk_drewN ?_ _ | refine blk_drew ?_ | refine blk_alloc ?_ _)); refine blk_far ?_ NB466_473.out _; (with_reducible repeat (first | refine blk_drewN ?_ _ | refine blk_drew ?_ | refine blk_alloc ?_ _)); refine blk_far ?_ NB466_473.out _; (with_reducible repeat (first | refine blk_drewN ?_ _ | refine blk_drew ?_ | refine blk_alloc ?_ _)); refine blk_far ?_ NB466_473.out _; (with_reducible repeat (first | refine blk_drewN ?_ _ | refine blk_drew ?_ | refine blk_alloc ?_ _)); exact BK466.out⟩, ⟨by (with_reducible repeat (first | refine blk_drewN ?_ _ | refine blk_drew ?_ | refine blk_alloc ?_ _)); refine blk_put (cs := #[.bool t469, .string t470, .int .i64 0]) ?_ 2 _ rfl; (with_reducible repeat (first | refine blk_drewN ?_ _ | refine blk_drew ?_ | refine blk_alloc ?_ _)); refine blk_put (cs := #[.bool t469, .string (⟨#[]⟩ : ByteArray), .int .i64 0]) ?_ 1 _ rfl; (with_reducible repeat (first | refine blk_drewN ?_ _ | refine blk_drew ?_ | refine blk_alloc ?_ _)); refine blk_put (cs := #[.bool false, .string (⟨#[]⟩ : ByteArray), .int .i64 0]) ?_ 0 _ rfl; (with_reducible repeat (first | refine blk_drewN ?_ _ | refine blk_drew ?_ | refine blk_alloc ?_ _)); exact BK473.out⟩, ⟨by repeat (first | (with_reducible first | exact HB.out | apply below_alloc | apply pw_below_drewN | apply below_drew1 | refine below_set ?_ GE466.out | refine below_set ?_ GE473.out) | exact HB.out)⟩⟩
        case rest =>
          clear HC16
          try clear c1
          try clear c2
          try clear p2
          try clear c7
          try clear c9
          try clear c12
          try clear c20
          try clear c22
          try clear c22b0
          try clear c23
          try clear c23b0
          try clear hcz10_0
          try clear hcz10_1
          try clear hcz10_2
          try clear hcz17_0
          try clear hcz17_1
          try clear hcz17_2
          try clear hcz21_0
          try clear hcz21_1
          try clear hcz21_2
          try clear hcz8_0
          try clear hcz8_1
          try clear hcz8_2
          try clear hfz10_0
          try clear hfz10_1
          try clear hfz10_2
          try clear hfz17_0
          try clear hfz17_1
          try clear hfz17_2
          try clear hfz21_0
          try clear hfz21_1
          try clear hfz21_2
          try clear hfz8_0
          try clear hfz8_1
          try clear hfz8_2
          try clear p2
          obtain ⟨kq, x35_15, rfl, HA, HJ15, BK466, BK473, HB⟩ := hcut
          cases kq with
          | zero => exact absurd HA.out (by simp [figureheadlaw09_SigRounds.j1])
          | succ kj15 =>
            have H := HA.out
            clear HA
            simp only [figureheadlaw09_SigRounds.j1] at H
            by_cases c24 : x35_15 = true
            · subst c24
              have H1 : ((figureheadlaw09_answers.f kj15).bind fun t474 => (if t474 = true then (if t472 = 1 then (some (!t469 && (t470.toList == ([] : List UInt8) && (t471 == 0)))) else (some false)) else (some false))) = some r := by rw [if_pos rfl] at H; exact H
              clear H
              have H := H1
              clear H1
              replace H := Option.bind_eq_some_iff.mp H
              obtain ⟨t474, A250, H⟩ := H
              replace H : (if t474 = true then (if t472 = 1 then (some (!t469 && (t470.toList == ([] : List UInt8) && (t471 == 0)))) else (some false)) else (some false)) = some r := H
              have A25 := Aside0.mk A250
              clear A250
              by_cases c26 : t474 = true
              · subst c26
                have H1 : (if t472 = 1 then (some (!t469 && (t470.toList == ([] : List UInt8) && (t471 == 0)))) else (some false)) = some r := by rw [if_pos rfl] at H; exact H
                clear H
                have H := H1
                clear H1
                by_cases c27 : t472 = 1
                · rw [if_pos c27] at H
                  have c27b0 : (t472 == 1) = true := beq_iff_eq.mpr c27
                  have c27b1 : (t472 != 1) = false := bne_eq_false_iff_eq.mpr c27
                  clear c27
                  obtain rfl := Option.some.inj H
                  go_wp2_with (first | ((with_reducible refine gate_callee (f := 24) rfl ?_); refine goesL_ (some 36) rfl rfl Tryd.func24 (by kernel_rfl) rfl #[] rfl (by (try simp only [List.map_toArray]); (try simp only [List.map_cons]); (try simp only [List.map_nil]); first | done | rfl | (simp only [List.length_drop, List.length_take]; rfl)) ?_; (with_reducible refine (figureheadlaw09_answers.calls kj15  true _ ?side1 ?side2 A25.out).mono ?_); (case side1 => exact Fig.Glob.below HG.out (by repeat (first | (with_reducible first | exact HB.out | apply below_alloc | apply pw_below_drewN | apply below_drew1 | refine below_set ?_ GE466.out | refine below_set ?_ GE473.out) | exact HB.out))); (case side2 => exact ⟨by first | rfl | exact HT.out⟩); rintro e w28 ⟨rfl, hb⟩; refine ⟨_, rfl, ?_⟩; have n0_ := Aside0.mk (blk_below (g := gb466) (o := .cells #[.bool a1_0, .string a1_1, .int .i64 a1_2] 23 (0, 0)) (by (with_reducible repeat (first | refine blk_drewN ?_ _ | refine blk_drew ?_ | refine blk_alloc ?_ _)); exact BK466.out) hb); have n1_ := Aside0.mk (blk_below (g := gb473) (o := .cells #[.bool t469, .string t470, .int .i64 t471] 23 (0, 0)) (by (with_reducible repeat (first | refine blk_drewN ?_ _ | refine blk_drew ?_ | refine blk_alloc ?_ _)); exact BK473.out) hb); have n2_ := Aside0.mk (below_step (by repeat (first | (with_reducible first | exact HB.out | apply below_alloc | apply pw_below_drewN | apply below_drew1 | refine below_set ?_ GE466.out | refine below_set ?_ GE473.out) | exact HB.out)) hb); clear BK466; clear BK473; clear HB; have BK466 := n0_; have BK473 := n1_; have HB := n2_; clear n0_ n1_ n2_; (try clear hb); (try clear hb2); (try clear hk); (try clear hi); have hnb29 := NB473_466.out; have hnc29 := NB466_473.out; have hcz30_0 : w28.cell? ⟨gb473, 0, none⟩ = some (.bool t469) := (blk_cell BK473.out 0).trans rfl; have hcz30_1 : w28.cell? ⟨gb473, 1, none⟩ = some (.string t470) := (blk_cell BK473.out 1).trans rfl; have hcz30_2 : w28.cell? ⟨gb473, 2, none⟩ = some (.int .i64 t471) := (blk_cell BK473.out 2).trans rfl; have hfz30_0 := blk_frozen BK473.out 0; have hfz30_1 := blk_frozen BK473.out 1; have hfz30_2 := blk_frozen BK473.out 2))
                  go_ret
                  exact ⟨by first | rfl | (simp [errW_none, errW_some] <;> rfl) | (simp [*, errW_none, errW_some] <;> rfl), by repeat (first | (with_reducible first | exact HB.out | apply below_alloc | apply pw_below_drewN | apply below_drew1 | refine below_set ?_ GE466.out | refine below_set ?_ GE473.out) | exact HB.out)⟩
                · rw [if_neg c27] at H
                  have c27b0 : (t472 == 1) = false := beq_eq_false_iff_ne.mpr c27
                  have c27b1 : (t472 != 1) = true := bne_iff_ne.mpr c27
                  exact absurd ((Option.some.inj H).trans HT.out) (by decide)
              · replace c26 := Bool.eq_false_iff.mpr c26
                subst c26
                have H1 : (some false) = some r := by rw [if_neg (show ¬ (false = true) by decide)] at H; exact H
                clear H
                have H := H1
                clear H1
                exact absurd ((Option.some.inj H).trans HT.out) (by decide)
            · replace c24 := Bool.eq_false_iff.mpr c24
              subst c24
              have H1 : ((figureheadref05_Top.f kj15 a1_0 a1_1 a1_2).bind fun t475 => ((figureheadref05_Round.f kj15 a0 a1_0 a1_1 a1_2 (⟨#[49]⟩ : ByteArray) (wrap64 ((wrap64 (t475 - a2)) + 1))).bind fun bt476 => ((figureheadlaw09_answers.f kj15).bind fun t481 => (if t481 = true then (if t472 = bt476.2.2.2 then (if (t469 == bt476.1 && (t470.toList == bt476.2.1.toList && (t471 == bt476.2.2.1))) = true then (if t472 = 0 then ((sig_Count.f t469 t470 t471).bind fun t482 => (some (decide (t482 ≤ a2)))) else (some true)) else (some false)) else (some false)) else (some false))))) = some r := by rw [if_neg (show ¬ (false = true) by decide)] at H; exact H
              clear H
              have H := H1
              clear H1
              replace H := Option.bind_eq_some_iff.mp H
              obtain ⟨t475, A310, H⟩ := H
              replace H : ((figureheadref05_Round.f kj15 a0 a1_0 a1_1 a1_2 (⟨#[49]⟩ : ByteArray) (wrap64 ((wrap64 (t475 - a2)) + 1))).bind fun bt476 => ((figureheadlaw09_answers.f kj15).bind fun t481 => (if t481 = true then (if t472 = bt476.2.2.2 then (if (t469 == bt476.1 && (t470.toList == bt476.2.1.toList && (t471 == bt476.2.2.1))) = true then (if t472 = 0 then ((sig_Count.f t469 t470 t471).bind fun t482 => (some (decide (t482 ≤ a2)))) else (some true)) else (some false)) else (some false)) else (some false)))) = some r := H
              have A31 := Aside0.mk A310
              clear A310
              replace H := Option.bind_eq_some_iff.mp H
              obtain ⟨⟨t476, t477, t478, t479⟩, A320, H⟩ := H
              replace H : ((figureheadlaw09_answers.f kj15).bind fun t481 => (if t481 = true then (if t472 = t479 then (if (t469 == t476 && (t470.toList == t477.toList && (t471 == t478))) = true then (if t472 = 0 then ((sig_Count.f t469 t470 t471).bind fun t482 => (some (decide (t482 ≤ a2)))) else (some true)) else (some false)) else (some false)) else (some false))) = some r := H
              have A32 := Aside0.mk A320
              clear A320
              replace H := Option.bind_eq_some_iff.mp H
              obtain ⟨t481, A330, H⟩ := H
              replace H : (if t481 = true then (if t472 = t479 then (if (t469 == t476 && (t470.toList == t477.toList && (t471 == t478))) = true then (if t472 = 0 then ((sig_Count.f t469 t470 t471).bind fun t482 => (some (decide (t482 ≤ a2)))) else (some true)) else (some false)) else (some false)) else (some false)) = some r := H
              have A33 := Aside0.mk A330
              clear A330
              by_cases c34 : t481 = true
              · subst c34
                have H1 : (if t472 = t479 then (if (t469 == t476 && (t470.toList == t477.toList && (t471 == t478))) = true then (if t472 = 0 then ((sig_Count.f t469 t470 t471).bind fun t482 => (some (decide (t482 ≤ a2)))) else (some true)) else (some false)) else (some false)) = some r := by rw [if_pos rfl] at H; exact H
                clear H
                have H := H1
                clear H1
                by_cases c35 : t472 = t479
                · rw [if_pos c35] at H
                  have c35b0 : (t472 == t479) = true := beq_iff_eq.mpr c35
                  have c35b1 : (t472 != t479) = false := bne_eq_false_iff_eq.mpr c35
                  clear c35
                  by_cases c36 : (t469 == t476 && (t470.toList == t477.toList && (t471 == t478))) = true
                  · rw [if_pos c36] at H
                    have c36b0 : (t469 == t476 && (t470.toList == t477.toList && (t471 == t478))) = true := c36
                    (try (have c36b1 : decide (t469 = t476 && (t470.toList == t477.toList && (t471 == t478))) = true := by simpa using c36))
                    (try (have c36b2 : (t469 == t476 && (t470.toList == t477.toList && (t471 == t478))) = true := by simpa using c36))
                    clear c36
                    by_cases c37 : t472 = 0
                    · rw [if_pos c37] at H
                      have c37b0 : (t472 == 0) = true := beq_iff_eq.mpr c37
                      have c37b1 : (t472 != 0) = false := bne_eq_false_iff_eq.mpr c37
                      clear c37
                      replace H := Option.bind_eq_some_iff.mp H
                      obtain ⟨t482, A380, H⟩ := H
                      replace H : (some (decide (t482 ≤ a2))) = some r := H
                      have A38 := Aside0.mk A380
                      clear A380
                      obtain rfl := Option.some.inj H
                      try go_wp2
                      (try (rw [drewN_self wc]; generalize hq_ : World.drewN wc _ = wc; have n0_ : Aside0 (wc.heap[gb466]? = some (.cells #[.bool a1_0, .string a1_1, .int .i64 a1_2] 23 (0, 0))) := ⟨by rw [← hq_]; exact (by (with_reducible repeat (first | refine blk_drewN ?_ _ | refine blk_drew ?_ | refine blk_alloc ?_ _)); exact BK466.out)⟩; have n1_ : Aside0 (wc.heap[gb473]? = some (.cells #[.bool t469, .string t470, .int .i64 t471] 23 (0, 0))) := ⟨by rw [← hq_]; exact (by (with_reducible repeat (first | refine blk_drewN ?_ _ | refine blk_drew ?_ | refine blk_alloc ?_ _)); exact BK473.out)⟩; have n2_ : Aside0 (Below w.heap.size w wc) := ⟨by rw [← hq_]; exact (by repeat (first | (with_reducible first | exact HB.out | apply below_alloc | apply pw_below_drewN | apply below_drew1 | refine below_set ?_ GE466.out | refine below_set ?_ GE473.out) | exact HB.out))⟩; clear BK466 BK473 HB hq_; have BK466 := n0_; have BK473 := n1_; have HB := n2_; clear n0_ n1_ n2_))
                      have n0_ := Aside0.mk (blk_drew BK466.out)
                      have n1_ := Aside0.mk (blk_drew BK473.out)
                      have n2_ := Aside0.mk (below_drew1 HB.out)
                      clear BK466
                      clear BK473
                      clear HB
                      have BK466 := n0_
                      have BK473 := n1_
                      have HB := n2_
                      clear n0_ n1_ n2_
                      refine start_ (n := 14) (S := fun w' => w'.cell? ⟨gb466, 0, none⟩ = some (.bool a1_0) ∧ w'.cell? ⟨gb466, 1, none⟩ = some (.string a1_1) ∧ w'.cell? ⟨gb466, 2, none⟩ = some (.int .i64 a1_2)) (ds := []) #[false, false, false, false, false, false, false, false, false, false, false, false, false, false] (by kernel_rfl) rfl rfl ⟨(blk_cell BK466.out 0).trans rfl, (blk_cell BK466.out 1).trans rfl, (blk_cell BK466.out 2).trans rfl⟩ (fun hHeld => ?_); refine with_tabW figureheadlaw09_SigRounds.tab6 figureheadlaw09_SigRounds.bits6 (fun HT_ HW_ => ?_)
                      generalize wc.drew = w39 at BK466 BK473 HB hHeld ⊢
                      refine pure_ (i := 0) (N := some 47) (v := ?_) (a' := ?_) #[true, false, false, false, false, false, false, false, false, false, false, false, false, false] rfl rfl (any_of HT_.out (by kernel_rfl)) (fun _ _ _ h => h) (Or.inl ⟨by rfl, ?_⟩) ?_ ?_
                      rotate_left
                      · intro w'
                        go_simp
                        with_reducible rfl
                      rotate_left
                      · simp only [Act.put, List.setIfInBounds_toArray, List.set_cons_zero, List.set_cons_succ]; (try simp only [i64_w]); (try simp only [i32_w])
                        rfl
                      refine pure_ (i := 4) (N := some 51) (v := ?_) (a' := ?_) #[true, false, false, false, true, false, false, false, false, false, false, false, false, false] rfl rfl (any_of HT_.out (by kernel_rfl)) (fun _ _ _ h => h) (Or.inl ⟨by rfl, ?_⟩) ?_ ?_
                      rotate_left
                      · intro w'
                        go_simp
                        with_reducible rfl
                      rotate_left
                      · simp only [Act.put, List.setIfInBounds_toArray, List.set_cons_zero, List.set_cons_succ]; (try simp only [i64_w]); (try simp only [i32_w])
                        rfl
                      refine take_ (i := 1) (N := some 48) (v := ?_) (a' := ?_) #[true, true, false, false, true, false, false, false, false, false, false, false, false, false] rfl rfl (take_ofW HT_.out HW_.out (by kernel_rfl)) (fun _ _ _ h => h) (Or.inl ⟨by rfl, ?_⟩) hHeld ?_ ?_
                      rotate_left
                      · rintro w' ⟨s0, s1, s2⟩
                        go_simp
                        with_reducible rfl
                      rotate_left
                      · simp only [Act.put, List.setIfInBounds_toArray, List.set_cons_zero, List.set_cons_succ]; (try simp only [i64_w]); (try simp only [i32_w])
                        rfl
                      refine take_ (i := 2) (N := some 49) (v := ?_) (a' := ?_) #[true, true, true, false, true, false, false, false, false, false, false, false, false, false] rfl rfl (take_ofW HT_.out HW_.out (by kernel_rfl)) (fun _ _ _ h => h) (Or.inl ⟨by rfl, ?_⟩) hHeld ?_ ?_
                      rotate_left
                      · rintro w' ⟨s0, s1, s2⟩
                        go_simp
                        with_reducible rfl
                      rotate_left
                      · simp only [Act.put, List.setIfInBounds_toArray, List.set_cons_zero, List.set_cons_succ]; (try simp only [i64_w]); (try simp only [i32_w])
                        rfl
                      refine join_ (σ := Nat) 2 #[true, true, true, true, true, true, true, true, true, true, true, true, false, false] (fun s_ => [(50, .int .i64 t475), (54, .tuple #[.agg #[.bool t476, .string t477, .int .i64 t478], .int .i64 t479]), (9, .pointer (some ⟨s_, 0, none⟩)), (52, .int .i64 (wrap64 (t475 - a2))), (53, .int .i64 (wrap64 ((wrap64 (t475 - a2)) + 1))), (46, .tuple #[.agg #[.bool t476, .string t477, .int .i64 t478], .int .i64 t479]), (55, .agg #[.bool t476, .string t477, .int .i64 t478]), (56, .int .i64 t479)]) (fun s_ w' => (w'.cell? ⟨gb466, 0, none⟩ = some (.bool a1_0) ∧ w'.cell? ⟨gb466, 1, none⟩ = some (.string a1_1) ∧ w'.cell? ⟨gb466, 2, none⟩ = some (.int .i64 a1_2)) ∧ (w'.heap[gb466]? = some (.cells #[.bool a1_0, .string a1_1, .int .i64 a1_2] 23 (0, 0))) ∧ (w'.heap[gb473]? = some (.cells #[.bool t469, .string t470, .int .i64 t471] 23 (0, 0))) ∧ (w'.heap[s_]? = some (.cells #[.bool false, .string (⟨#[]⟩ : ByteArray), .int .i64 0] 23 (0, 0))) ∧ (w.heap.size ≤ s_) ∧ (w.heap.size ≤ s_) ∧ (gb466 ≠ s_) ∧ (s_ ≠ gb466) ∧ (gb473 ≠ s_) ∧ (s_ ≠ gb473) ∧ (Below w.heap.size w w')) ?_ ?_
                      rotate_left
                      · intro hCont
                        refine two_ (i := 3) (j := 11) (Ni := some 50) (Nj := some 9) #[true, true, true, true, true, false, false, false, false, false, false, false, false, false] #[true, true, true, false, true, false, false, false, false, false, false, true, false, false] rfl rfl rfl rfl (two_of HT_.out (by kernel_rfl)) (by decide) (by decide) (fun K hK => ?_) (fun K hK => ?_)
                        · skip
                          refine goes_ Tryd.func26 (by kernel_rfl) rfl #[.agg #[.bool a1_0, .string a1_1, .int .i64 a1_2]] (by rfl) rfl rfl (by (try simp only [List.map_toArray]); (try simp only [List.map_cons]); (try simp only [List.map_nil]); first | done | rfl | (simp only [List.length_drop, List.length_take]; rfl)) ?_
                          with_reducible refine (figureheadref05_Top.calls kj15 a1_0 a1_1 a1_2 t475 _ A31.out).mono ?_
                          rintro e w40 ⟨rfl, hb⟩
                          refine ⟨_, rfl, ?_⟩
                          have n0_ := Aside0.mk (blk_below (g := gb466) (o := .cells #[.bool a1_0, .string a1_1, .int .i64 a1_2] 23 (0, 0)) (by (with_reducible repeat (first | refine blk_drewN ?_ _ | refine blk_drew ?_ | refine blk_alloc ?_ _)); exact BK466.out) hb)
                          have n1_ := Aside0.mk (blk_below (g := gb473) (o := .cells #[.bool t469, .string t470, .int .i64 t471] 23 (0, 0)) (by (with_reducible repeat (first | refine blk_drewN ?_ _ | refine blk_drew ?_ | refine blk_alloc ?_ _)); exact BK473.out) hb)
                          have n2_ := Aside0.mk (below_step (by repeat (first | (with_reducible first | exact HB.out | apply below_alloc | apply pw_below_drewN | apply below_drew1 | refine below_set ?_ GE466.out | refine below_set ?_ GE473.out) | exact HB.out)) hb)
                          clear BK466
                          clear BK473
                          clear HB
                          have BK466 := n0_
                          have BK473 := n1_
                          have HB := n2_
                          clear n0_ n1_ n2_
                          (try clear hb)
                          (try clear hb2)
                          (try clear hk)
                          (try clear hi)
                          refine hK.out _ _ ⟨(blk_cell BK466.out 0).trans rfl, (blk_cell BK466.out 1).trans rfl, (blk_cell BK466.out 2).trans rfl⟩ (fun hHeld => ?_)
                          clear hK K
                          refine norm_ (a' := ?_) ?_ ?_
                          rotate_left
                          · show Act.put _ (some 50) _ = _
                            simp only [Act.put, List.setIfInBounds_toArray, List.set_cons_zero, List.set_cons_succ]; (try simp only [i64_w]); (try simp only [i32_w])
                            rfl
                          refine pure_ (i := 5) (N := some 52) (v := ?_) (a' := ?_) #[true, true, true, true, true, true, false, false, false, false, false, false, false, false] rfl rfl (any_of HT_.out (by kernel_rfl)) (fun _ _ _ h => h) (Or.inl ⟨by rfl, ?_⟩) ?_ ?_
                          rotate_left
                          · intro w'
                            go_simp
                            with_reducible rfl
                          rotate_left
                          · simp only [Act.put, List.setIfInBounds_toArray, List.set_cons_zero, List.set_cons_succ]; (try simp only [i64_w]); (try simp only [i32_w])
                            rfl
                          refine pure_ (i := 6) (N := some 53) (v := ?_) (a' := ?_) #[true, true, true, true, true, true, true, false, false, false, false, false, false, false] rfl rfl (any_of HT_.out (by kernel_rfl)) (fun _ _ _ h => h) (Or.inl ⟨by rfl, ?_⟩) ?_ ?_
                          rotate_left
                          · intro w'
                            go_simp
                            with_reducible rfl
                          rotate_left
                          · simp only [Act.put, List.setIfInBounds_toArray, List.set_cons_zero, List.set_cons_succ]; (try simp only [i64_w]); (try simp only [i32_w])
                            rfl
                          refine two_ (i := 7) (j := 11) (Ni := some 54) (Nj := some 9) #[true, true, true, true, true, true, true, true, false, false, false, false, false, false] #[true, true, true, true, true, true, true, false, false, false, false, true, false, false] rfl rfl rfl rfl (two_of HT_.out (by kernel_rfl)) (by decide) (by decide) (fun K hK => ?_) (fun K hK => ?_)
                          · skip
                            refine goes_ Tryd.func17 (by kernel_rfl) rfl #[.int .i64 a0, .agg #[.bool a1_0, .string a1_1, .int .i64 a1_2], .string (⟨#[49]⟩ : ByteArray), .int .i64 (wrap64 ((wrap64 (t475 - a2)) + 1))] (by rfl) rfl rfl (by (try simp only [List.map_toArray]); (try simp only [List.map_cons]); (try simp only [List.map_nil]); first | done | rfl | (simp only [List.length_drop, List.length_take]; rfl)) ?_
                            with_reducible refine (figureheadref05_Round.calls kj15 a0 a1_0 a1_1 a1_2 (⟨#[49]⟩ : ByteArray) (wrap64 ((wrap64 (t475 - a2)) + 1)) t476 t477 t478 t479 _ A32.out).mono ?_
                            rintro e w41 ⟨rfl, hb⟩
                            refine ⟨_, rfl, ?_⟩
                            have n0_ := Aside0.mk (blk_below (g := gb466) (o := .cells #[.bool a1_0, .string a1_1, .int .i64 a1_2] 23 (0, 0)) (by (with_reducible repeat (first | refine blk_drewN ?_ _ | refine blk_drew ?_ | refine blk_alloc ?_ _)); exact BK466.out) hb)
                            have n1_ := Aside0.mk (blk_below (g := gb473) (o := .cells #[.bool t469, .string t470, .int .i64 t471] 23 (0, 0)) (by (with_reducible repeat (first | refine blk_drewN ?_ _ | refine blk_drew ?_ | refine blk_alloc ?_ _)); exact BK473.out) hb)
                            have n2_ := Aside0.mk (below_step (by repeat (first | (with_reducible first | exact HB.out | apply below_alloc | apply pw_below_drewN | apply below_drew1 | refine below_set ?_ GE466.out | refine below_set ?_ GE473.out) | exact HB.out)) hb)
                            clear BK466
                            clear BK473
                            clear HB
                            have BK466 := n0_
                            have BK473 := n1_
                            have HB := n2_
                            clear n0_ n1_ n2_
                            (try clear hb)
                            (try clear hb2)
                            (try clear hk)
                            (try clear hi)
                            refine hK.out _ _ ⟨(blk_cell BK466.out 0).trans rfl, (blk_cell BK466.out 1).trans rfl, (blk_cell BK466.out 2).trans rfl⟩ (fun hHeld => ?_)
                            clear hK K
                            refine norm_ (a' := ?_) ?_ ?_
                            rotate_left
                            · show Act.put _ (some 54) _ = _
                              simp only [Act.put, List.setIfInBounds_toArray, List.set_cons_zero, List.set_cons_succ]; (try simp only [i64_w]); (try simp only [i32_w])
                              rfl
                            refine pure_ (i := 8) (N := some 46) (v := ?_) (a' := ?_) #[true, true, true, true, true, true, true, true, true, false, false, false, false, false] rfl rfl (any_of HT_.out (by kernel_rfl)) (fun _ _ _ h => h) (Or.inl ⟨by rfl, ?_⟩) ?_ ?_
                            rotate_left
                            · intro w'
                              go_simp
                              with_reducible rfl
                            rotate_left
                            · simp only [Act.put, List.setIfInBounds_toArray, List.set_cons_zero, List.set_cons_succ]; (try simp only [i64_w]); (try simp only [i32_w])
                              rfl
                            refine pure_ (i := 9) (N := some 55) (v := ?_) (a' := ?_) #[true, true, true, true, true, true, true, true, true, true, false, false, false, false] rfl rfl (any_of HT_.out (by kernel_rfl)) (fun _ _ _ h => h) (Or.inl ⟨by rfl, ?_⟩) ?_ ?_
                            rotate_left
                            · intro w'
                              go_simp
                              with_reducible rfl
                            rotate_left
                            · simp only [Act.put, List.setIfInBounds_toArray, List.set_cons_zero, List.set_cons_succ]; (try simp only [i64_w]); (try simp only [i32_w])
                              rfl
                            refine pure_ (i := 10) (N := some 56) (v := ?_) (a' := ?_) #[true, true, true, true, true, true, true, true, true, true, true, false, false, false] rfl rfl (any_of HT_.out (by kernel_rfl)) (fun _ _ _ h => h) (Or.inl ⟨by rfl, ?_⟩) ?_ ?_
                            rotate_left
                            · intro w'
                              go_simp
                              with_reducible rfl
                            rotate_left
                            · simp only [Act.put, List.setIfInBounds_toArray, List.set_cons_zero, List.set_cons_succ]; (try simp only [i64_w]); (try simp only [i32_w])
                              rfl
                            refine one_ (i := 11) (N := some 9) #[true, true, true, true, true, true, true, true, true, true, true, true, false, false] rfl rfl (one_of HT_.out (by kernel_rfl)) (by decide) (fun K hK => ?_)
                            refine box_step ?hg (N := 9) ?hd (cs := #[.bool false, .string (⟨#[]⟩ : ByteArray), .int .i64 0]) (t := 23) ?hr ?_; (case hd => rfl); (case hg => rfl); (case hr => first | (go_simp; done) | (go_simp; rfl))
                            intro gb480 hg w42 hbox hb
                            have n0_ := Aside0.mk (blk_below (g := gb466) (o := .cells #[.bool a1_0, .string a1_1, .int .i64 a1_2] 23 (0, 0)) (by (with_reducible repeat (first | refine blk_drewN ?_ _ | refine blk_drew ?_ | refine blk_alloc ?_ _)); exact BK466.out) hb)
                            have n1_ := Aside0.mk (blk_below (g := gb473) (o := .cells #[.bool t469, .string t470, .int .i64 t471] 23 (0, 0)) (by (with_reducible repeat (first | refine blk_drewN ?_ _ | refine blk_drew ?_ | refine blk_alloc ?_ _)); exact BK473.out) hb)
                            have n2_ := Aside0.mk (below_step (by repeat (first | (with_reducible first | exact HB.out | apply below_alloc | apply pw_below_drewN | apply below_drew1 | refine below_set ?_ GE466.out | refine below_set ?_ GE473.out) | exact HB.out)) hb)
                            have n3_ := Aside0.mk (hbox)
                            have n4_ := Aside0.mk ((by rw [hg]; exact (below_size (by repeat (first | (with_reducible first | exact HB.out | apply below_alloc | apply pw_below_drewN | apply below_drew1 | refine below_set ?_ GE466.out | refine below_set ?_ GE473.out) | exact HB.out))) : w.heap.size ≤ gb480))
                            have n5_ := Aside0.mk ((by rw [hg]; exact (below_size (by repeat (first | (with_reducible first | exact HB.out | apply below_alloc | apply pw_below_drewN | apply below_drew1 | refine below_set ?_ GE466.out | refine below_set ?_ GE473.out) | exact HB.out))) : w.heap.size ≤ gb480))
                            have n6_ := Aside0.mk ((by rw [hg]; exact Nat.ne_of_lt (blk_lt (g := gb466) (o := .cells #[.bool a1_0, .string a1_1, .int .i64 a1_2] 23 (0, 0)) (by (with_reducible repeat (first | refine blk_drewN ?_ _ | refine blk_drew ?_ | refine blk_alloc ?_ _)); exact BK466.out)) : gb466 ≠ gb480))
                            have n7_ := Aside0.mk ((by rw [hg]; exact Nat.ne_of_gt (blk_lt (g := gb466) (o := .cells #[.bool a1_0, .string a1_1, .int .i64 a1_2] 23 (0, 0)) (by (with_reducible repeat (first | refine blk_drewN ?_ _ | refine blk_drew ?_ | refine blk_alloc ?_ _)); exact BK466.out)) : gb480 ≠ gb466))
                            have n8_ := Aside0.mk ((by rw [hg]; exact Nat.ne_of_lt (blk_lt (g := gb473) (o := .cells #[.bool t469, .string t470, .int .i64 t471] 23 (0, 0)) (by (with_reducible repeat (first | refine blk_drewN ?_ _ | refine blk_drew ?_ | refine blk_alloc ?_ _)); exact BK473.out)) : gb473 ≠ gb480))
                            have n9_ := Aside0.mk ((by rw [hg]; exact Nat.ne_of_gt (blk_lt (g := gb473) (o := .cells #[.bool t469, .string t470, .int .i64 t471] 23 (0, 0)) (by (with_reducible repeat (first | refine blk_drewN ?_ _ | refine blk_drew ?_ | refine blk_alloc ?_ _)); exact BK473.out)) : gb480 ≠ gb473))
                            clear BK466
                            clear BK473
                            clear HB
                            have BK466 := n0_
                            have BK473 := n1_
                            have HB := n2_
                            have BK480 := n3_
                            have GW480 := n4_
                            have GE480 := n5_
                            have NB466_480 := n6_
                            have NB480_466 := n7_
                            have NB473_480 := n8_
                            have NB480_473 := n9_
                            clear n0_ n1_ n2_ n3_ n4_ n5_ n6_ n7_ n8_ n9_
                            clear hb hbox hg
                            refine hK.out _ _ ⟨(blk_cell BK466.out 0).trans rfl, (blk_cell BK466.out 1).trans rfl, (blk_cell BK466.out 2).trans rfl⟩ (fun hHeld => ?_)
                            clear hK K
                            refine norm_ (a' := ?_) ?_ ?_
                            rotate_left
                            · show Act.put _ (some 9) _ = _
                              simp only [Act.put, List.setIfInBounds_toArray, List.set_cons_zero, List.set_cons_succ]; (try simp only [i64_w]); (try simp only [i32_w])
                              rfl
                            exact norm_ (by simp only [putAll, Act.put, List.setIfInBounds_toArray, List.set_cons_zero, List.set_cons_succ]) (hCont (gb480) _ ⟨hHeld, (by (with_reducible repeat (first | refine blk_drewN ?_ _ | refine blk_drew ?_ | refine blk_alloc ?_ _)); exact BK466.out), (by (with_reducible repeat (first | refine blk_drewN ?_ _ | refine blk_drew ?_ | refine blk_alloc ?_ _)); exact BK473.out), (by (with_reducible repeat (first | refine blk_drewN ?_ _ | refine blk_drew ?_ | refine blk_alloc ?_ _)); exact BK480.out), GW480.out, GE480.out, NB466_480.out, NB480_466.out, NB473_480.out, NB480_473.out, (by repeat (first | (with_reducible first | exact HB.out | apply below_alloc | apply pw_below_drewN | apply below_drew1 | refine below_set ?_ GE466.out | refine below_set ?_ GE473.out | refine below_set ?_ GE480.out) | exact HB.out))⟩)
                          · skip
                            refine box_step ?hg (N := 9) ?hd (cs := #[.bool false, .string (⟨#[]⟩ : ByteArray), .int .i64 0]) (t := 23) ?hr ?_; (case hd => rfl); (case hg => rfl); (case hr => first | (go_simp; done) | (go_simp; rfl))
                            intro gb480 hg w41 hbox hb
                            have n0_ := Aside0.mk (blk_below (g := gb466) (o := .cells #[.bool a1_0, .string a1_1, .int .i64 a1_2] 23 (0, 0)) (by (with_reducible repeat (first | refine blk_drewN ?_ _ | refine blk_drew ?_ | refine blk_alloc ?_ _)); exact BK466.out) hb)
                            have n1_ := Aside0.mk (blk_below (g := gb473) (o := .cells #[.bool t469, .string t470, .int .i64 t471] 23 (0, 0)) (by (with_reducible repeat (first | refine blk_drewN ?_ _ | refine blk_drew ?_ | refine blk_alloc ?_ _)); exact BK473.out) hb)
                            have n2_ := Aside0.mk (below_step (by repeat (first | (with_reducible first | exact HB.out | apply below_alloc | apply pw_below_drewN | apply below_drew1 | refine below_set ?_ GE466.out | refine below_set ?_ GE473.out) | exact HB.out)) hb)
                            have n3_ := Aside0.mk (hbox)
                            have n4_ := Aside0.mk ((by rw [hg]; exact (below_size (by repeat (first | (with_reducible first | exact HB.out | apply below_alloc | apply pw_below_drewN | apply below_drew1 | refine below_set ?_ GE466.out | refine below_set ?_ GE473.out) | exact HB.out))) : w.heap.size ≤ gb480))
                            have n5_ := Aside0.mk ((by rw [hg]; exact (below_size (by repeat (first | (with_reducible first | exact HB.out | apply below_alloc | apply pw_below_drewN | apply below_drew1 | refine below_set ?_ GE466.out | refine below_set ?_ GE473.out) | exact HB.out))) : w.heap.size ≤ gb480))
                            have n6_ := Aside0.mk ((by rw [hg]; exact Nat.ne_of_lt (blk_lt (g := gb466) (o := .cells #[.bool a1_0, .string a1_1, .int .i64 a1_2] 23 (0, 0)) (by (with_reducible repeat (first | refine blk_drewN ?_ _ | refine blk_drew ?_ | refine blk_alloc ?_ _)); exact BK466.out)) : gb466 ≠ gb480))
                            have n7_ := Aside0.mk ((by rw [hg]; exact Nat.ne_of_gt (blk_lt (g := gb466) (o := .cells #[.bool a1_0, .string a1_1, .int .i64 a1_2] 23 (0, 0)) (by (with_reducible repeat (first | refine blk_drewN ?_ _ | refine blk_drew ?_ | refine blk_alloc ?_ _)); exact BK466.out)) : gb480 ≠ gb466))
                            have n8_ := Aside0.mk ((by rw [hg]; exact Nat.ne_of_lt (blk_lt (g := gb473) (o := .cells #[.bool t469, .string t470, .int .i64 t471] 23 (0, 0)) (by (with_reducible repeat (first | refine blk_drewN ?_ _ | refine blk_drew ?_ | refine blk_alloc ?_ _)); exact BK473.out)) : gb473 ≠ gb480))
                            have n9_ := Aside0.mk ((by rw [hg]; exact Nat.ne_of_gt (blk_lt (g := gb473) (o := .cells #[.bool t469, .string t470, .int .i64 t471] 23 (0, 0)) (by (with_reducible repeat (first | refine blk_drewN ?_ _ | refine blk_drew ?_ | refine blk_alloc ?_ _)); exact BK473.out)) : gb480 ≠ gb473))
                            clear BK466
                            clear BK473
                            clear HB
                            have BK466 := n0_
                            have BK473 := n1_
                            have HB := n2_
                            have BK480 := n3_
                            have GW480 := n4_
                            have GE480 := n5_
                            have NB466_480 := n6_
                            have NB480_466 := n7_
                            have NB473_480 := n8_
                            have NB480_473 := n9_
                            clear n0_ n1_ n2_ n3_ n4_ n5_ n6_ n7_ n8_ n9_
                            clear hb hbox hg
                            refine hK.out _ _ ⟨(blk_cell BK466.out 0).trans rfl, (blk_cell BK466.out 1).trans rfl, (blk_cell BK466.out 2).trans rfl⟩ (fun hHeld => ?_)
                            clear hK K
                            refine norm_ (a' := ?_) ?_ ?_
                            rotate_left
                            · show Act.put _ (some 9) _ = _
                              simp only [Act.put, List.setIfInBounds_toArray, List.set_cons_zero, List.set_cons_succ]; (try simp only [i64_w]); (try simp only [i32_w])
                              rfl
                            refine one_ (i := 7) (N := some 54) #[true, true, true, true, true, true, true, true, false, false, false, true, false, false] rfl rfl (one_of HT_.out (by kernel_rfl)) (by decide) (fun K hK => ?_)
                            refine goes_ Tryd.func17 (by kernel_rfl) rfl #[.int .i64 a0, .agg #[.bool a1_0, .string a1_1, .int .i64 a1_2], .string (⟨#[49]⟩ : ByteArray), .int .i64 (wrap64 ((wrap64 (t475 - a2)) + 1))] (by rfl) rfl rfl (by (try simp only [List.map_toArray]); (try simp only [List.map_cons]); (try simp only [List.map_nil]); first | done | rfl | (simp only [List.length_drop, List.length_take]; rfl)) ?_
                            with_reducible refine (figureheadref05_Round.calls kj15 a0 a1_0 a1_1 a1_2 (⟨#[49]⟩ : ByteArray) (wrap64 ((wrap64 (t475 - a2)) + 1)) t476 t477 t478 t479 _ A32.out).mono ?_
                            rintro e w42 ⟨rfl, hb⟩
                            refine ⟨_, rfl, ?_⟩
                            have n0_ := Aside0.mk (blk_below (g := gb466) (o := .cells #[.bool a1_0, .string a1_1, .int .i64 a1_2] 23 (0, 0)) (by (with_reducible repeat (first | refine blk_drewN ?_ _ | refine blk_drew ?_ | refine blk_alloc ?_ _)); exact BK466.out) hb)
                            have n1_ := Aside0.mk (blk_below (g := gb473) (o := .cells #[.bool t469, .string t470, .int .i64 t471] 23 (0, 0)) (by (with_reducible repeat (first | refine blk_drewN ?_ _ | refine blk_drew ?_ | refine blk_alloc ?_ _)); exact BK473.out) hb)
                            have n2_ := Aside0.mk (blk_below (g := gb480) (o := .cells #[.bool false, .string (⟨#[]⟩ : ByteArray), .int .i64 0] 23 (0, 0)) (by (with_reducible repeat (first | refine blk_drewN ?_ _ | refine blk_drew ?_ | refine blk_alloc ?_ _)); exact BK480.out) hb)
                            have n3_ := Aside0.mk (below_step (by repeat (first | (with_reducible first | exact HB.out | apply below_alloc | apply pw_below_drewN | apply below_drew1 | refine below_set ?_ GE466.out | refine below_set ?_ GE473.out | refine below_set ?_ GE480.out) | exact HB.out)) hb)
                            clear BK466
                            clear BK473
                            clear BK480
                            clear HB
                            have BK466 := n0_
                            have BK473 := n1_
                            have BK480 := n2_
                            have HB := n3_
                            clear n0_ n1_ n2_ n3_
                            (try clear hb)
                            (try clear hb2)
                            (try clear hk)
                            (try clear hi)
                            refine hK.out _ _ ⟨(blk_cell BK466.out 0).trans rfl, (blk_cell BK466.out 1).trans rfl, (blk_cell BK466.out 2).trans rfl⟩ (fun hHeld => ?_)
                            clear hK K
                            refine norm_ (a' := ?_) ?_ ?_
                            rotate_left
                            · show Act.put _ (some 54) _ = _
                              simp only [Act.put, List.setIfInBounds_toArray, List.set_cons_zero, List.set_cons_succ]; (try simp only [i64_w]); (try simp only [i32_w])
                              rfl
                            refine pure_ (i := 8) (N := some 46) (v := ?_) (a' := ?_) #[true, true, true, true, true, true, true, true, true, false, false, true, false, false] rfl rfl (any_of HT_.out (by kernel_rfl)) (fun _ _ _ h => h) (Or.inl ⟨by rfl, ?_⟩) ?_ ?_
                            rotate_left
                            · intro w'
                              go_simp
                              with_reducible rfl
                            rotate_left
                            · simp only [Act.put, List.setIfInBounds_toArray, List.set_cons_zero, List.set_cons_succ]; (try simp only [i64_w]); (try simp only [i32_w])
                              rfl
                            refine pure_ (i := 9) (N := some 55) (v := ?_) (a' := ?_) #[true, true, true, true, true, true, true, true, true, true, false, true, false, false] rfl rfl (any_of HT_.out (by kernel_rfl)) (fun _ _ _ h => h) (Or.inl ⟨by rfl, ?_⟩) ?_ ?_
                            rotate_left
                            · intro w'
                              go_simp
                              with_reducible rfl
                            rotate_left
                            · simp only [Act.put, List.setIfInBounds_toArray, List.set_cons_zero, List.set_cons_succ]; (try simp only [i64_w]); (try simp only [i32_w])
                              rfl
                            refine pure_ (i := 10) (N := some 56) (v := ?_) (a' := ?_) #[true, true, true, true, true, true, true, true, true, true, true, true, false, false] rfl rfl (any_of HT_.out (by kernel_rfl)) (fun _ _ _ h => h) (Or.inl ⟨by rfl, ?_⟩) ?_ ?_
                            rotate_left
                            · intro w'
                              go_simp
                              with_reducible rfl
                            rotate_left
                            · simp only [Act.put, List.setIfInBounds_toArray, List.set_cons_zero, List.set_cons_succ]; (try simp only [i64_w]); (try simp only [i32_w])
                              rfl
                            exact norm_ (by simp only [putAll, Act.put, List.setIfInBounds_toArray, List.set_cons_zero, List.set_cons_succ]) (hCont (gb480) _ ⟨hHeld, (by (with_reducible repeat (first | refine blk_drewN ?_ _ | refine blk_drew ?_ | refine blk_alloc ?_ _)); exact BK466.out), (by (with_reducible repeat (first | refine blk_drewN ?_ _ | refine blk_drew ?_ | refine blk_alloc ?_ _)); exact BK473.out), (by (with_reducible repeat (first | refine blk_drewN ?_ _ | refine blk_drew ?_ | refine blk_alloc ?_ _)); exact BK480.out), GW480.out, GE480.out, NB466_480.out, NB480_466.out, NB473_480.out, NB480_473.out, (by repeat (first | (with_reducible first | exact HB.out | apply below_alloc | apply pw_below_drewN | apply below_drew1 | refine below_set ?_ GE466.out | refine below_set ?_ GE473.out | refine below_set ?_ GE480.out) | exact HB.out))⟩)
                        · skip
                          refine box_step ?hg (N := 9) ?hd (cs := #[.bool false, .string (⟨#[]⟩ : ByteArray), .int .i64 0]) (t := 23) ?hr ?_; (case hd => rfl); (case hg => rfl); (case hr => first | (go_simp; done) | (go_simp; rfl))
                          intro gb480 hg w40 hbox hb
                          have n0_ := Aside0.mk (blk_below (g := gb466) (o := .cells #[.bool a1_0, .string a1_1, .int .i64 a1_2] 23 (0, 0)) (by (with_reducible repeat (first | refine blk_drewN ?_ _ | refine blk_drew ?_ | refine blk_alloc ?_ _)); exact BK466.out) hb)
                          have n1_ := Aside0.mk (blk_below (g := gb473) (o := .cells #[.bool t469, .string t470, .int .i64 t471] 23 (0, 0)) (by (with_reducible repeat (first | refine blk_drewN ?_ _ | refine blk_drew ?_ | refine blk_alloc ?_ _)); exact BK473.out) hb)
                          have n2_ := Aside0.mk (below_step (by repeat (first | (with_reducible first | exact HB.out | apply below_alloc | apply pw_below_drewN | apply below_drew1 | refine below_set ?_ GE466.out | refine below_set ?_ GE473.out) | exact HB.out)) hb)
                          have n3_ := Aside0.mk (hbox)
                          have n4_ := Aside0.mk ((by rw [hg]; exact (below_size (by repeat (first | (with_reducible first | exact HB.out | apply below_alloc | apply pw_below_drewN | apply below_drew1 | refine below_set ?_ GE466.out | refine below_set ?_ GE473.out) | exact HB.out))) : w.heap.size ≤ gb480))
                          have n5_ := Aside0.mk ((by rw [hg]; exact (below_size (by repeat (first | (with_reducible first | exact HB.out | apply below_alloc | apply pw_below_drewN | apply below_drew1 | refine below_set ?_ GE466.out | refine below_set ?_ GE473.out) | exact HB.out))) : w.heap.size ≤ gb480))
                          have n6_ := Aside0.mk ((by rw [hg]; exact Nat.ne_of_lt (blk_lt (g := gb466) (o := .cells #[.bool a1_0, .string a1_1, .int .i64 a1_2] 23 (0, 0)) (by (with_reducible repeat (first | refine blk_drewN ?_ _ | refine blk_drew ?_ | refine blk_alloc ?_ _)); exact BK466.out)) : gb466 ≠ gb480))
                          have n7_ := Aside0.mk ((by rw [hg]; exact Nat.ne_of_gt (blk_lt (g := gb466) (o := .cells #[.bool a1_0, .string a1_1, .int .i64 a1_2] 23 (0, 0)) (by (with_reducible repeat (first | refine blk_drewN ?_ _ | refine blk_drew ?_ | refine blk_alloc ?_ _)); exact BK466.out)) : gb480 ≠ gb466))
                          have n8_ := Aside0.mk ((by rw [hg]; exact Nat.ne_of_lt (blk_lt (g := gb473) (o := .cells #[.bool t469, .string t470, .int .i64 t471] 23 (0, 0)) (by (with_reducible repeat (first | refine blk_drewN ?_ _ | refine blk_drew ?_ | refine blk_alloc ?_ _)); exact BK473.out)) : gb473 ≠ gb480))
                          have n9_ := Aside0.mk ((by rw [hg]; exact Nat.ne_of_gt (blk_lt (g := gb473) (o := .cells #[.bool t469, .string t470, .int .i64 t471] 23 (0, 0)) (by (with_reducible repeat (first | refine blk_drewN ?_ _ | refine blk_drew ?_ | refine blk_alloc ?_ _)); exact BK473.out)) : gb480 ≠ gb473))
                          clear BK466
                          clear BK473
                          clear HB
                          have BK466 := n0_
                          have BK473 := n1_
                          have HB := n2_
                          have BK480 := n3_
                          have GW480 := n4_
                          have GE480 := n5_
                          have NB466_480 := n6_
                          have NB480_466 := n7_
                          have NB473_480 := n8_
                          have NB480_473 := n9_
                          clear n0_ n1_ n2_ n3_ n4_ n5_ n6_ n7_ n8_ n9_
                          clear hb hbox hg
                          refine hK.out _ _ ⟨(blk_cell BK466.out 0).trans rfl, (blk_cell BK466.out 1).trans rfl, (blk_cell BK466.out 2).trans rfl⟩ (fun hHeld => ?_)
                          clear hK K
                          refine norm_ (a' := ?_) ?_ ?_
                          rotate_left
                          · show Act.put _ (some 9) _ = _
                            simp only [Act.put, List.setIfInBounds_toArray, List.set_cons_zero, List.set_cons_succ]; (try simp only [i64_w]); (try simp only [i32_w])
                            rfl
                          refine one_ (i := 3) (N := some 50) #[true, true, true, true, true, false, false, false, false, false, false, true, false, false] rfl rfl (one_of HT_.out (by kernel_rfl)) (by decide) (fun K hK => ?_)
                          refine goes_ Tryd.func26 (by kernel_rfl) rfl #[.agg #[.bool a1_0, .string a1_1, .int .i64 a1_2]] (by rfl) rfl rfl (by (try simp only [List.map_toArray]); (try simp only [List.map_cons]); (try simp only [List.map_nil]); first | done | rfl | (simp only [List.length_drop, List.length_take]; rfl)) ?_
                          with_reducible refine (figureheadref05_Top.calls kj15 a1_0 a1_1 a1_2 t475 _ A31.out).mono ?_
                          rintro e w41 ⟨rfl, hb⟩
                          refine ⟨_, rfl, ?_⟩
                          have n0_ := Aside0.mk (blk_below (g := gb466) (o := .cells #[.bool a1_0, .string a1_1, .int .i64 a1_2] 23 (0, 0)) (by (with_reducible repeat (first | refine blk_drewN ?_ _ | refine blk_drew ?_ | refine blk_alloc ?_ _)); exact BK466.out) hb)
                          have n1_ := Aside0.mk (blk_below (g := gb473) (o := .cells #[.bool t469, .string t470, .int .i64 t471] 23 (0, 0)) (by (with_reducible repeat (first | refine blk_drewN ?_ _ | refine blk_drew ?_ | refine blk_alloc ?_ _)); exact BK473.out) hb)
                          have n2_ := Aside0.mk (blk_below (g := gb480) (o := .cells #[.bool false, .string (⟨#[]⟩ : ByteArray), .int .i64 0] 23 (0, 0)) (by (with_reducible repeat (first | refine blk_drewN ?_ _ | refine blk_drew ?_ | refine blk_alloc ?_ _)); exact BK480.out) hb)
                          have n3_ := Aside0.mk (below_step (by repeat (first | (with_reducible first | exact HB.out | apply below_alloc | apply pw_below_drewN | apply below_drew1 | refine below_set ?_ GE466.out | refine below_set ?_ GE473.out | refine below_set ?_ GE480.out) | exact HB.out)) hb)
                          clear BK466
                          clear BK473
                          clear BK480
                          clear HB
                          have BK466 := n0_
                          have BK473 := n1_
                          have BK480 := n2_
                          have HB := n3_
                          clear n0_ n1_ n2_ n3_
                          (try clear hb)
                          (try clear hb2)
                          (try clear hk)
                          (try clear hi)
                          refine hK.out _ _ ⟨(blk_cell BK466.out 0).trans rfl, (blk_cell BK466.out 1).trans rfl, (blk_cell BK466.out 2).trans rfl⟩ (fun hHeld => ?_)
                          clear hK K
                          refine norm_ (a' := ?_) ?_ ?_
                          rotate_left
                          · show Act.put _ (some 50) _ = _
                            simp only [Act.put, List.setIfInBounds_toArray, List.set_cons_zero, List.set_cons_succ]; (try simp only [i64_w]); (try simp only [i32_w])
                            rfl
                          refine pure_ (i := 5) (N := some 52) (v := ?_) (a' := ?_) #[true, true, true, true, true, true, false, false, false, false, false, true, false, false] rfl rfl (any_of HT_.out (by kernel_rfl)) (fun _ _ _ h => h) (Or.inl ⟨by rfl, ?_⟩) ?_ ?_
                          rotate_left
                          · intro w'
                            go_simp
                            with_reducible rfl
                          rotate_left
                          · simp only [Act.put, List.setIfInBounds_toArray, List.set_cons_zero, List.set_cons_succ]; (try simp only [i64_w]); (try simp only [i32_w])
                            rfl
                          refine pure_ (i := 6) (N := some 53) (v := ?_) (a' := ?_) #[true, true, true, true, true, true, true, false, false, false, false, true, false, false] rfl rfl (any_of HT_.out (by kernel_rfl)) (fun _ _ _ h => h) (Or.inl ⟨by rfl, ?_⟩) ?_ ?_
                          rotate_left
                          · intro w'
                            go_simp
                            with_reducible rfl
                          rotate_left
                          · simp only [Act.put, List.setIfInBounds_toArray, List.set_cons_zero, List.set_cons_succ]; (try simp only [i64_w]); (try simp only [i32_w])
                            rfl
                          refine one_ (i := 7) (N := some 54) #[true, true, true, true, true, true, true, true, false, false, false, true, false, false] rfl rfl (one_of HT_.out (by kernel_rfl)) (by decide) (fun K hK => ?_)
                          refine goes_ Tryd.func17 (by kernel_rfl) rfl #[.int .i64 a0, .agg #[.bool a1_0, .string a1_1, .int .i64 a1_2], .string (⟨#[49]⟩ : ByteArray), .int .i64 (wrap64 ((wrap64 (t475 - a2)) + 1))] (by rfl) rfl rfl (by (try simp only [List.map_toArray]); (try simp only [List.map_cons]); (try simp only [List.map_nil]); first | done | rfl | (simp only [List.length_drop, List.length_take]; rfl)) ?_
                          with_reducible refine (figureheadref05_Round.calls kj15 a0 a1_0 a1_1 a1_2 (⟨#[49]⟩ : ByteArray) (wrap64 ((wrap64 (t475 - a2)) + 1)) t476 t477 t478 t479 _ A32.out).mono ?_
                          rintro e w42 ⟨rfl, hb⟩
                          refine ⟨_, rfl, ?_⟩
                          have n0_ := Aside0.mk (blk_below (g := gb466) (o := .cells #[.bool a1_0, .string a1_1, .int .i64 a1_2] 23 (0, 0)) (by (with_reducible repeat (first | refine blk_drewN ?_ _ | refine blk_drew ?_ | refine blk_alloc ?_ _)); exact BK466.out) hb)
                          have n1_ := Aside0.mk (blk_below (g := gb473) (o := .cells #[.bool t469, .string t470, .int .i64 t471] 23 (0, 0)) (by (with_reducible repeat (first | refine blk_drewN ?_ _ | refine blk_drew ?_ | refine blk_alloc ?_ _)); exact BK473.out) hb)
                          have n2_ := Aside0.mk (blk_below (g := gb480) (o := .cells #[.bool false, .string (⟨#[]⟩ : ByteArray), .int .i64 0] 23 (0, 0)) (by (with_reducible repeat (first | refine blk_drewN ?_ _ | refine blk_drew ?_ | refine blk_alloc ?_ _)); exact BK480.out) hb)
                          have n3_ := Aside0.mk (below_step (by repeat (first | (with_reducible first | exact HB.out | apply below_alloc | apply pw_below_drewN | apply below_drew1 | refine below_set ?_ GE466.out | refine below_set ?_ GE473.out | refine below_set ?_ GE480.out) | exact HB.out)) hb)
                          clear BK466
                          clear BK473
                          clear BK480
                          clear HB
                          have BK466 := n0_
                          have BK473 := n1_
                          have BK480 := n2_
                          have HB := n3_
                          clear n0_ n1_ n2_ n3_
                          (try clear hb)
                          (try clear hb2)
                          (try clear hk)
                          (try clear hi)
                          refine hK.out _ _ ⟨(blk_cell BK466.out 0).trans rfl, (blk_cell BK466.out 1).trans rfl, (blk_cell BK466.out 2).trans rfl⟩ (fun hHeld => ?_)
                          clear hK K
                          refine norm_ (a' := ?_) ?_ ?_
                          rotate_left
                          · show Act.put _ (some 54) _ = _
                            simp only [Act.put, List.setIfInBounds_toArray, List.set_cons_zero, List.set_cons_succ]; (try simp only [i64_w]); (try simp only [i32_w])
                            rfl
                          refine pure_ (i := 8) (N := some 46) (v := ?_) (a' := ?_) #[true, true, true, true, true, true, true, true, true, false, false, true, false, false] rfl rfl (any_of HT_.out (by kernel_rfl)) (fun _ _ _ h => h) (Or.inl ⟨by rfl, ?_⟩) ?_ ?_
                          rotate_left
                          · intro w'
                            go_simp
                            with_reducible rfl
                          rotate_left
                          · simp only [Act.put, List.setIfInBounds_toArray, List.set_cons_zero, List.set_cons_succ]; (try simp only [i64_w]); (try simp only [i32_w])
                            rfl
                          refine pure_ (i := 9) (N := some 55) (v := ?_) (a' := ?_) #[true, true, true, true, true, true, true, true, true, true, false, true, false, false] rfl rfl (any_of HT_.out (by kernel_rfl)) (fun _ _ _ h => h) (Or.inl ⟨by rfl, ?_⟩) ?_ ?_
                          rotate_left
                          · intro w'
                            go_simp
                            with_reducible rfl
                          rotate_left
                          · simp only [Act.put, List.setIfInBounds_toArray, List.set_cons_zero, List.set_cons_succ]; (try simp only [i64_w]); (try simp only [i32_w])
                            rfl
                          refine pure_ (i := 10) (N := some 56) (v := ?_) (a' := ?_) #[true, true, true, true, true, true, true, true, true, true, true, true, false, false] rfl rfl (any_of HT_.out (by kernel_rfl)) (fun _ _ _ h => h) (Or.inl ⟨by rfl, ?_⟩) ?_ ?_
                          rotate_left
                          · intro w'
                            go_simp
                            with_reducible rfl
                          rotate_left
                          · simp only [Act.put, List.setIfInBounds_toArray, List.set_cons_zero, List.set_cons_succ]; (try simp only [i64_w]); (try simp only [i32_w])
                            rfl
                          exact norm_ (by simp only [putAll, Act.put, List.setIfInBounds_toArray, List.set_cons_zero, List.set_cons_succ]) (hCont (gb480) _ ⟨hHeld, (by (with_reducible repeat (first | refine blk_drewN ?_ _ | refine blk_drew ?_ | refine blk_alloc ?_ _)); exact BK466.out), (by (with_reducible repeat (first | refine blk_drewN ?_ _ | refine blk_drew ?_ | refine blk_alloc ?_ _)); exact BK473.out), (by (with_reducible repeat (first | refine blk_drewN ?_ _ | refine blk_drew ?_ | refine blk_alloc ?_ _)); exact BK480.out), GW480.out, GE480.out, NB466_480.out, NB480_466.out, NB473_480.out, NB480_473.out, (by repeat (first | (with_reducible first | exact HB.out | apply below_alloc | apply pw_below_drewN | apply below_drew1 | refine below_set ?_ GE466.out | refine below_set ?_ GE473.out | refine below_set ?_ GE480.out) | exact HB.out))⟩)
                      rintro gb480 w43 ⟨hS_, h0_, h1_, h2_, h3_, h4_, h5_, h6_, h7_, h8_, h9_⟩
                      have n0_ : Aside0 (w43.heap[gb466]? = some (.cells #[.bool a1_0, .string a1_1, .int .i64 a1_2] 23 (0, 0))) := ⟨h0_⟩
                      have n1_ : Aside0 (w43.heap[gb473]? = some (.cells #[.bool t469, .string t470, .int .i64 t471] 23 (0, 0))) := ⟨h1_⟩
                      have n2_ : Aside0 (w43.heap[gb480]? = some (.cells #[.bool false, .string (⟨#[]⟩ : ByteArray), .int .i64 0] 23 (0, 0))) := ⟨h2_⟩
                      have n3_ : Aside0 (w.heap.size ≤ gb480) := ⟨h3_⟩
                      have n4_ : Aside0 (w.heap.size ≤ gb480) := ⟨h4_⟩
                      have n5_ : Aside0 (gb466 ≠ gb480) := ⟨h5_⟩
                      have n6_ : Aside0 (gb480 ≠ gb466) := ⟨h6_⟩
                      have n7_ : Aside0 (gb473 ≠ gb480) := ⟨h7_⟩
                      have n8_ : Aside0 (gb480 ≠ gb473) := ⟨h8_⟩
                      have n9_ : Aside0 (Below w.heap.size w w43) := ⟨h9_⟩
                      clear BK466
                      clear BK473
                      clear HB
                      clear h0_ h1_ h2_ h3_ h4_ h5_ h6_ h7_ h8_ h9_
                      have BK466 := n0_
                      have BK473 := n1_
                      have BK480 := n2_
                      have GW480 := n3_
                      have GE480 := n4_
                      have NB466_480 := n5_
                      have NB480_466 := n6_
                      have NB473_480 := n7_
                      have NB480_473 := n8_
                      have HB := n9_
                      clear n0_ n1_ n2_ n3_ n4_ n5_ n6_ n7_ n8_ n9_
                      have hHeld : w43.cell? ⟨gb466, 0, none⟩ = some (.bool a1_0) ∧ w43.cell? ⟨gb466, 1, none⟩ = some (.string a1_1) ∧ w43.cell? ⟨gb466, 2, none⟩ = some (.int .i64 a1_2) := hS_
                      refine norm_ (a' := ?_) ?_ ?_
                      rotate_left
                      · simp only [putAll, Act.put, List.setIfInBounds_toArray, List.set_cons_zero, List.set_cons_succ]
                        rfl
                      refine one_ (i := 12) (N := none) #[true, true, true, true, true, true, true, true, true, true, true, true, true, false] rfl rfl (one_of HT_.out (by kernel_rfl)) (by decide) (fun K hK => ?_)
                      have hs44 : w43.cell? ⟨gb480, 0, none⟩ = some (.bool false) := (blk_cell BK480.out 0).trans rfl
                      have hfs44 := blk_frozen BK480.out 0
                      have hns44_0 := NB466_480.out
                      have hns44_1 := NB473_480.out
                      have hms44_0 := NB480_466.out
                      have hms44_1 := NB480_473.out
                      have hs45 : w43.cell? ⟨gb480, 1, none⟩ = some (.string (⟨#[]⟩ : ByteArray)) := (blk_cell BK480.out 1).trans rfl
                      have hfs45 := blk_frozen BK480.out 1
                      have hns45_0 := NB466_480.out
                      have hns45_1 := NB473_480.out
                      have hms45_0 := NB480_466.out
                      have hms45_1 := NB480_473.out
                      have hs46 : w43.cell? ⟨gb480, 2, none⟩ = some (.int .i64 0) := (blk_cell BK480.out 2).trans rfl
                      have hfs46 := blk_frozen BK480.out 2
                      have hns46_0 := NB466_480.out
                      have hns46_1 := NB473_480.out
                      have hms46_0 := NB480_466.out
                      have hms46_1 := NB480_473.out
                      refine skip_ (w1 := ?_) (by rfl) rfl ?_ ?_
                      rotate_left
                      · go_simp
                        rfl
                      refine hK.out _ _ ⟨((cell_far (p := ⟨gb480, _, none⟩) NB466_480.out _).trans (((cell_far (p := ⟨gb480, _, none⟩) NB466_480.out _).trans (((cell_far (p := ⟨gb480, _, none⟩) NB466_480.out _).trans (hHeld.1)))))), ((cell_far (p := ⟨gb480, _, none⟩) NB466_480.out _).trans (((cell_far (p := ⟨gb480, _, none⟩) NB466_480.out _).trans (((cell_far (p := ⟨gb480, _, none⟩) NB466_480.out _).trans (hHeld.2.1)))))), ((cell_far (p := ⟨gb480, _, none⟩) NB466_480.out _).trans (((cell_far (p := ⟨gb480, _, none⟩) NB466_480.out _).trans (((cell_far (p := ⟨gb480, _, none⟩) NB466_480.out _).trans (hHeld.2.2))))))⟩ (fun hHeld => ?_)
                      clear hK K
                      refine pure_ (i := 13) (N := some 10) (v := ?_) (a' := ?_) #[true, true, true, true, true, true, true, true, true, true, true, true, true, true] rfl rfl (any_of HT_.out (by kernel_rfl)) (fun _ _ _ h => h) (Or.inl ⟨by rfl, ?_⟩) ?_ ?_
                      rotate_left
                      · intro w'
                        go_simp
                        with_reducible rfl
                      rotate_left
                      · simp only [Act.put, List.setIfInBounds_toArray, List.set_cons_zero, List.set_cons_succ]; (try simp only [i64_w]); (try simp only [i32_w])
                        rfl
                      refine done_ (done_of HT_.out (by kernel_rfl)) ?_
                      try go_wp2_with (first | ((with_reducible refine gate_callee (f := 24) rfl ?_); refine goesL_ (some 57) rfl rfl Tryd.func24 (by kernel_rfl) rfl #[] rfl (by (try simp only [List.map_toArray]); (try simp only [List.map_cons]); (try simp only [List.map_nil]); first | done | rfl | (simp only [List.length_drop, List.length_take]; rfl)) ?_; (with_reducible refine (figureheadlaw09_answers.calls kj15  true _ ?side1 ?side2 A33.out).mono ?_); (case side1 => exact Fig.Glob.below HG.out (by repeat (first | (with_reducible first | exact HB.out | apply below_alloc | apply pw_below_drewN | apply below_drew1 | refine below_set ?_ GE466.out | refine below_set ?_ GE473.out | refine below_set ?_ GE480.out) | exact HB.out))); (case side2 => exact ⟨by first | rfl | exact HT.out⟩); rintro e w47 ⟨rfl, hb⟩; refine ⟨_, rfl, ?_⟩; have n0_ := Aside0.mk (blk_below (g := gb466) (o := .cells #[.bool a1_0, .string a1_1, .int .i64 a1_2] 23 (0, 0)) (by (with_reducible repeat (first | refine blk_drewN ?_ _ | refine blk_drew ?_ | refine blk_alloc ?_ _)); refine blk_far ?_ NB466_480.out _; (with_reducible repeat (first | refine blk_drewN ?_ _ | refine blk_drew ?_ | refine blk_alloc ?_ _)); refine blk_far ?_ NB466_480.out _; (with_reducible repeat (first | refine blk_drewN ?_ _ | refine blk_drew ?_ | refine blk_alloc ?_ _)); refine blk_far ?_ NB466_480.out _; (with_reducible repeat (first | refine blk_drewN ?_ _ | refine blk_drew ?_ | refine blk_alloc ?_ _)); exact BK466.out) hb); have n1_ := Aside0.mk (blk_below (g := gb473) (o := .cells #[.bool t469, .string t470, .int .i64 t471] 23 (0, 0)) (by (with_reducible repeat (first | refine blk_drewN ?_ _ | refine blk_drew ?_ | refine blk_alloc ?_ _)); refine blk_far ?_ NB473_480.out _; (with_reducible repeat (first | refine blk_drewN ?_ _ | refine blk_drew ?_ | refine blk_alloc ?_ _)); refine blk_far ?_ NB473_480.out _; (with_reducible repeat (first | refine blk_drewN ?_ _ | refine blk_drew ?_ | refine blk_alloc ?_ _)); refine blk_far ?_ NB473_480.out _; (with_reducible repeat (first | refine blk_drewN ?_ _ | refine blk_drew ?_ | refine blk_alloc ?_ _)); exact BK473.out) hb); have n2_ := Aside0.mk (blk_below (g := gb480) (o := .cells #[.bool t476, .string t477, .int .i64 t478] 23 (0, 0)) (by (with_reducible repeat (first | refine blk_drewN ?_ _ | refine blk_drew ?_ | refine blk_alloc ?_ _)); refine blk_put (cs := #[.bool t476, .string t477, .int .i64 0]) ?_ 2 _ rfl; (with_reducible repeat (first | refine blk_drewN ?_ _ | refine blk_drew ?_ | refine blk_alloc ?_ _)); refine blk_put (cs := #[.bool t476, .string (⟨#[]⟩ : ByteArray), .int .i64 0]) ?_ 1 _ rfl; (with_reducible repeat (first | refine blk_drewN ?_ _ | refine blk_drew ?_ | refine blk_alloc ?_ _)); refine blk_put (cs := #[.bool false, .string (⟨#[]⟩ : ByteArray), .int .i64 0]) ?_ 0 _ rfl; (with_reducible repeat (first | refine blk_drewN ?_ _ | refine blk_drew ?_ | refine blk_alloc ?_ _)); exact BK480.out) hb); have n3_ := Aside0.mk (below_step (by repeat (first | (with_reducible first | exact HB.out | apply below_alloc | apply pw_below_drewN | apply below_drew1 | refine below_set ?_ GE466.out | refine below_set ?_ GE473.out | refine below_set ?_ GE480.out) | exact HB.out)) hb); clear BK466; clear BK473; clear BK480; clear HB; have BK466 := n0_; have BK473 := n1_; have BK480 := n2_; have HB := n3_; clear n0_ n1_ n2_ n3_; (try clear hb); (try clear hb2); (try clear hk); (try clear hi); have hnb48 := NB473_466.out; have hnc48 := NB466_473.out; have hnb49 := NB473_480.out; have hnc49 := NB480_473.out; have hcz50_0 : w47.cell? ⟨gb473, 0, none⟩ = some (.bool t469) := (blk_cell BK473.out 0).trans rfl; have hcz50_1 : w47.cell? ⟨gb473, 1, none⟩ = some (.string t470) := (blk_cell BK473.out 1).trans rfl; have hcz50_2 : w47.cell? ⟨gb473, 2, none⟩ = some (.int .i64 t471) := (blk_cell BK473.out 2).trans rfl; have hfz50_0 := blk_frozen BK473.out 0; have hfz50_1 := blk_frozen BK473.out 1; have hfz50_2 := blk_frozen BK473.out 2; have hnb51 := NB480_466.out; have hnc51 := NB466_480.out; have hcz52_0 : w47.cell? ⟨gb480, 0, none⟩ = some (.bool t476) := (blk_cell BK480.out 0).trans rfl; have hcz52_1 : w47.cell? ⟨gb480, 1, none⟩ = some (.string t477) := (blk_cell BK480.out 1).trans rfl; have hcz52_2 : w47.cell? ⟨gb480, 2, none⟩ = some (.int .i64 t478) := (blk_cell BK480.out 2).trans rfl; have hfz52_0 := blk_frozen BK480.out 0; have hfz52_1 := blk_frozen BK480.out 1; have hfz52_2 := blk_frozen BK480.out 2) | ((with_reducible refine gate_dst (N := 73) rfl ?_); (refine gate_guard (by rfl) ?_; dsimp only); (with_reducible refine gate_callee (f := 27) rfl ?_); refine goesL_ (some 73) rfl rfl Tryd.func27 (by kernel_rfl) rfl #[.agg #[.bool t469, .string t470, .int .i64 t471]] rfl (by (try simp only [List.map_toArray]); (try simp only [List.map_cons]); (try simp only [List.map_nil]); first | done | rfl | (simp only [List.length_drop, List.length_take]; rfl)) ?_; (with_reducible refine (sig_Count.calls t469 t470 t471 t482 _ A38.out).mono ?_); rintro e w53 ⟨rfl, hb⟩; refine ⟨_, rfl, ?_⟩; have n0_ := Aside0.mk (blk_below (g := gb466) (o := .cells #[.bool a1_0, .string a1_1, .int .i64 a1_2] 23 (0, 0)) (by (with_reducible repeat (first | refine blk_drewN ?_ _ | refine blk_drew ?_ | refine blk_alloc ?_ _)); exact BK466.out) hb); have n1_ := Aside0.mk (blk_below (g := gb473) (o := .cells #[.bool t469, .string t470, .int .i64 t471] 23 (0, 0)) (by (with_reducible repeat (first | refine blk_drewN ?_ _ | refine blk_drew ?_ | refine blk_alloc ?_ _)); exact BK473.out) hb); have n2_ := Aside0.mk (blk_below (g := gb480) (o := .cells #[.bool t476, .string t477, .int .i64 t478] 23 (0, 0)) (by (with_reducible repeat (first | refine blk_drewN ?_ _ | refine blk_drew ?_ | refine blk_alloc ?_ _)); exact BK480.out) hb); have n3_ := Aside0.mk (below_step (by repeat (first | (with_reducible first | exact HB.out | apply below_alloc | apply pw_below_drewN | apply below_drew1 | refine below_set ?_ GE466.out | refine below_set ?_ GE473.out | refine below_set ?_ GE480.out) | exact HB.out)) hb); clear BK466; clear BK473; clear BK480; clear HB; have BK466 := n0_; have BK473 := n1_; have BK480 := n2_; have HB := n3_; clear n0_ n1_ n2_ n3_; (try clear hb); (try clear hb2); (try clear hk); (try clear hi)))
                      go_ret
                      exact ⟨by first | rfl | (simp [errW_none, errW_some] <;> rfl) | (simp [*, errW_none, errW_some] <;> rfl), by repeat (first | (with_reducible first | exact HB.out | apply below_alloc | apply pw_below_drewN | apply below_drew1 | refine below_set ?_ GE466.out | refine below_set ?_ GE473.out | refine below_set ?_ GE480.out) | exact HB.out)⟩
                    · rw [if_neg c37] at H
                      have c37b0 : (t472 == 0) = false := beq_eq_false_iff_ne.mpr c37
                      have c37b1 : (t472 != 0) = true := bne_iff_ne.mpr c37
                      obtain rfl := Option.some.inj H
                      try go_wp2
                      (try (rw [drewN_self wc]; generalize hq_ : World.drewN wc _ = wc; have n0_ : Aside0 (wc.heap[gb466]? = some (.cells #[.bool a1_0, .string a1_1, .int .i64 a1_2] 23 (0, 0))) := ⟨by rw [← hq_]; exact (by (with_reducible repeat (first | refine blk_drewN ?_ _ | refine blk_drew ?_ | refine blk_alloc ?_ _)); exact BK466.out)⟩; have n1_ : Aside0 (wc.heap[gb473]? = some (.cells #[.bool t469, .string t470, .int .i64 t471] 23 (0, 0))) := ⟨by rw [← hq_]; exact (by (with_reducible repeat (first | refine blk_drewN ?_ _ | refine blk_drew ?_ | refine blk_alloc ?_ _)); exact BK473.out)⟩; have n2_ : Aside0 (Below w.heap.size w wc) := ⟨by rw [← hq_]; exact (by repeat (first | (with_reducible first | exact HB.out | apply below_alloc | apply pw_below_drewN | apply below_drew1 | refine below_set ?_ GE466.out | refine below_set ?_ GE473.out) | exact HB.out))⟩; clear BK466 BK473 HB hq_; have BK466 := n0_; have BK473 := n1_; have HB := n2_; clear n0_ n1_ n2_))
                      have n0_ := Aside0.mk (blk_drew BK466.out)
                      have n1_ := Aside0.mk (blk_drew BK473.out)
                      have n2_ := Aside0.mk (below_drew1 HB.out)
                      clear BK466
                      clear BK473
                      clear HB
                      have BK466 := n0_
                      have BK473 := n1_
                      have HB := n2_
                      clear n0_ n1_ n2_
                      refine start_ (n := 14) (S := fun w' => w'.cell? ⟨gb466, 0, none⟩ = some (.bool a1_0) ∧ w'.cell? ⟨gb466, 1, none⟩ = some (.string a1_1) ∧ w'.cell? ⟨gb466, 2, none⟩ = some (.int .i64 a1_2)) (ds := []) #[false, false, false, false, false, false, false, false, false, false, false, false, false, false] (by kernel_rfl) rfl rfl ⟨(blk_cell BK466.out 0).trans rfl, (blk_cell BK466.out 1).trans rfl, (blk_cell BK466.out 2).trans rfl⟩ (fun hHeld => ?_); refine with_tabW figureheadlaw09_SigRounds.tab6 figureheadlaw09_SigRounds.bits6 (fun HT_ HW_ => ?_)
                      generalize wc.drew = w54 at BK466 BK473 HB hHeld ⊢
                      refine pure_ (i := 0) (N := some 47) (v := ?_) (a' := ?_) #[true, false, false, false, false, false, false, false, false, false, false, false, false, false] rfl rfl (any_of HT_.out (by kernel_rfl)) (fun _ _ _ h => h) (Or.inl ⟨by rfl, ?_⟩) ?_ ?_
                      rotate_left
                      · intro w'
                        go_simp
                        with_reducible rfl
                      rotate_left
                      · simp only [Act.put, List.setIfInBounds_toArray, List.set_cons_zero, List.set_cons_succ]; (try simp only [i64_w]); (try simp only [i32_w])
                        rfl
                      refine pure_ (i := 4) (N := some 51) (v := ?_) (a' := ?_) #[true, false, false, false, true, false, false, false, false, false, false, false, false, false] rfl rfl (any_of HT_.out (by kernel_rfl)) (fun _ _ _ h => h) (Or.inl ⟨by rfl, ?_⟩) ?_ ?_
                      rotate_left
                      · intro w'
                        go_simp
                        with_reducible rfl
                      rotate_left
                      · simp only [Act.put, List.setIfInBounds_toArray, List.set_cons_zero, List.set_cons_succ]; (try simp only [i64_w]); (try simp only [i32_w])
                        rfl
                      refine take_ (i := 1) (N := some 48) (v := ?_) (a' := ?_) #[true, true, false, false, true, false, false, false, false, false, false, false, false, false] rfl rfl (take_ofW HT_.out HW_.out (by kernel_rfl)) (fun _ _ _ h => h) (Or.inl ⟨by rfl, ?_⟩) hHeld ?_ ?_
                      rotate_left
                      · rintro w' ⟨s0, s1, s2⟩
                        go_simp
                        with_reducible rfl
                      rotate_left
                      · simp only [Act.put, List.setIfInBounds_toArray, List.set_cons_zero, List.set_cons_succ]; (try simp only [i64_w]); (try simp only [i32_w])
                        rfl
                      refine take_ (i := 2) (N := some 49) (v := ?_) (a' := ?_) #[true, true, true, false, true, false, false, false, false, false, false, false, false, false] rfl rfl (take_ofW HT_.out HW_.out (by kernel_rfl)) (fun _ _ _ h => h) (Or.inl ⟨by rfl, ?_⟩) hHeld ?_ ?_
                      rotate_left
                      · rintro w' ⟨s0, s1, s2⟩
                        go_simp
                        with_reducible rfl
                      rotate_left
                      · simp only [Act.put, List.setIfInBounds_toArray, List.set_cons_zero, List.set_cons_succ]; (try simp only [i64_w]); (try simp only [i32_w])
                        rfl
                      refine join_ (σ := Nat) 2 #[true, true, true, true, true, true, true, true, true, true, true, true, false, false] (fun s_ => [(50, .int .i64 t475), (54, .tuple #[.agg #[.bool t476, .string t477, .int .i64 t478], .int .i64 t479]), (9, .pointer (some ⟨s_, 0, none⟩)), (52, .int .i64 (wrap64 (t475 - a2))), (53, .int .i64 (wrap64 ((wrap64 (t475 - a2)) + 1))), (46, .tuple #[.agg #[.bool t476, .string t477, .int .i64 t478], .int .i64 t479]), (55, .agg #[.bool t476, .string t477, .int .i64 t478]), (56, .int .i64 t479)]) (fun s_ w' => (w'.cell? ⟨gb466, 0, none⟩ = some (.bool a1_0) ∧ w'.cell? ⟨gb466, 1, none⟩ = some (.string a1_1) ∧ w'.cell? ⟨gb466, 2, none⟩ = some (.int .i64 a1_2)) ∧ (w'.heap[gb466]? = some (.cells #[.bool a1_0, .string a1_1, .int .i64 a1_2] 23 (0, 0))) ∧ (w'.heap[gb473]? = some (.cells #[.bool t469, .string t470, .int .i64 t471] 23 (0, 0))) ∧ (w'.heap[s_]? = some (.cells #[.bool false, .string (⟨#[]⟩ : ByteArray), .int .i64 0] 23 (0, 0))) ∧ (w.heap.size ≤ s_) ∧ (w.heap.size ≤ s_) ∧ (gb466 ≠ s_) ∧ (s_ ≠ gb466) ∧ (gb473 ≠ s_) ∧ (s_ ≠ gb473) ∧ (Below w.heap.size w w')) ?_ ?_
                      rotate_left
                      · intro hCont
                        refine two_ (i := 3) (j := 11) (Ni := some 50) (Nj := some 9) #[true, true, true, true, true, false, false, false, false, false, false, false, false, false] #[true, true, true, false, true, false, false, false, false, false, false, true, false, false] rfl rfl rfl rfl (two_of HT_.out (by kernel_rfl)) (by decide) (by decide) (fun K hK => ?_) (fun K hK => ?_)
                        · skip
                          refine goes_ Tryd.func26 (by kernel_rfl) rfl #[.agg #[.bool a1_0, .string a1_1, .int .i64 a1_2]] (by rfl) rfl rfl (by (try simp only [List.map_toArray]); (try simp only [List.map_cons]); (try simp only [List.map_nil]); first | done | rfl | (simp only [List.length_drop, List.length_take]; rfl)) ?_
                          with_reducible refine (figureheadref05_Top.calls kj15 a1_0 a1_1 a1_2 t475 _ A31.out).mono ?_
                          rintro e w55 ⟨rfl, hb⟩
                          refine ⟨_, rfl, ?_⟩
                          have n0_ := Aside0.mk (blk_below (g := gb466) (o := .cells #[.bool a1_0, .string a1_1, .int .i64 a1_2] 23 (0, 0)) (by (with_reducible repeat (first | refine blk_drewN ?_ _ | refine blk_drew ?_ | refine blk_alloc ?_ _)); exact BK466.out) hb)
                          have n1_ := Aside0.mk (blk_below (g := gb473) (o := .cells #[.bool t469, .string t470, .int .i64 t471] 23 (0, 0)) (by (with_reducible repeat (first | refine blk_drewN ?_ _ | refine blk_drew ?_ | refine blk_alloc ?_ _)); exact BK473.out) hb)
                          have n2_ := Aside0.mk (below_step (by repeat (first | (with_reducible first | exact HB.out | apply below_alloc | apply pw_below_drewN | apply below_drew1 | refine below_set ?_ GE466.out | refine below_set ?_ GE473.out) | exact HB.out)) hb)
                          clear BK466
                          clear BK473
                          clear HB
                          have BK466 := n0_
                          have BK473 := n1_
                          have HB := n2_
                          clear n0_ n1_ n2_
                          (try clear hb)
                          (try clear hb2)
                          (try clear hk)
                          (try clear hi)
                          refine hK.out _ _ ⟨(blk_cell BK466.out 0).trans rfl, (blk_cell BK466.out 1).trans rfl, (blk_cell BK466.out 2).trans rfl⟩ (fun hHeld => ?_)
                          clear hK K
                          refine norm_ (a' := ?_) ?_ ?_
                          rotate_left
                          · show Act.put _ (some 50) _ = _
                            simp only [Act.put, List.setIfInBounds_toArray, List.set_cons_zero, List.set_cons_succ]; (try simp only [i64_w]); (try simp only [i32_w])
                            rfl
                          refine pure_ (i := 5) (N := some 52) (v := ?_) (a' := ?_) #[true, true, true, true, true, true, false, false, false, false, false, false, false, false] rfl rfl (any_of HT_.out (by kernel_rfl)) (fun _ _ _ h => h) (Or.inl ⟨by rfl, ?_⟩) ?_ ?_
                          rotate_left
                          · intro w'
                            go_simp
                            with_reducible rfl
                          rotate_left
                          · simp only [Act.put, List.setIfInBounds_toArray, List.set_cons_zero, List.set_cons_succ]; (try simp only [i64_w]); (try simp only [i32_w])
                            rfl
                          refine pure_ (i := 6) (N := some 53) (v := ?_) (a' := ?_) #[true, true, true, true, true, true, true, false, false, false, false, false, false, false] rfl rfl (any_of HT_.out (by kernel_rfl)) (fun _ _ _ h => h) (Or.inl ⟨by rfl, ?_⟩) ?_ ?_
                          rotate_left
                          · intro w'
                            go_simp
                            with_reducible rfl
                          rotate_left
                          · simp only [Act.put, List.setIfInBounds_toArray, List.set_cons_zero, List.set_cons_succ]; (try simp only [i64_w]); (try simp only [i32_w])
                            rfl
                          refine two_ (i := 7) (j := 11) (Ni := some 54) (Nj := some 9) #[true, true, true, true, true, true, true, true, false, false, false, false, false, false] #[true, true, true, true, true, true, true, false, false, false, false, true, false, false] rfl rfl rfl rfl (two_of HT_.out (by kernel_rfl)) (by decide) (by decide) (fun K hK => ?_) (fun K hK => ?_)
                          · skip
                            refine goes_ Tryd.func17 (by kernel_rfl) rfl #[.int .i64 a0, .agg #[.bool a1_0, .string a1_1, .int .i64 a1_2], .string (⟨#[49]⟩ : ByteArray), .int .i64 (wrap64 ((wrap64 (t475 - a2)) + 1))] (by rfl) rfl rfl (by (try simp only [List.map_toArray]); (try simp only [List.map_cons]); (try simp only [List.map_nil]); first | done | rfl | (simp only [List.length_drop, List.length_take]; rfl)) ?_
                            with_reducible refine (figureheadref05_Round.calls kj15 a0 a1_0 a1_1 a1_2 (⟨#[49]⟩ : ByteArray) (wrap64 ((wrap64 (t475 - a2)) + 1)) t476 t477 t478 t479 _ A32.out).mono ?_
                            rintro e w56 ⟨rfl, hb⟩
                            refine ⟨_, rfl, ?_⟩
                            have n0_ := Aside0.mk (blk_below (g := gb466) (o := .cells #[.bool a1_0, .string a1_1, .int .i64 a1_2] 23 (0, 0)) (by (with_reducible repeat (first | refine blk_drewN ?_ _ | refine blk_drew ?_ | refine blk_alloc ?_ _)); exact BK466.out) hb)
                            have n1_ := Aside0.mk (blk_below (g := gb473) (o := .cells #[.bool t469, .string t470, .int .i64 t471] 23 (0, 0)) (by (with_reducible repeat (first | refine blk_drewN ?_ _ | refine blk_drew ?_ | refine blk_alloc ?_ _)); exact BK473.out) hb)
                            have n2_ := Aside0.mk (below_step (by repeat (first | (with_reducible first | exact HB.out | apply below_alloc | apply pw_below_drewN | apply below_drew1 | refine below_set ?_ GE466.out | refine below_set ?_ GE473.out) | exact HB.out)) hb)
                            clear BK466
                            clear BK473
                            clear HB
                            have BK466 := n0_
                            have BK473 := n1_
                            have HB := n2_
                            clear n0_ n1_ n2_
                            (try clear hb)
                            (try clear hb2)
                            (try clear hk)
                            (try clear hi)
                            refine hK.out _ _ ⟨(blk_cell BK466.out 0).trans rfl, (blk_cell BK466.out 1).trans rfl, (blk_cell BK466.out 2).trans rfl⟩ (fun hHeld => ?_)
                            clear hK K
                            refine norm_ (a' := ?_) ?_ ?_
                            rotate_left
                            · show Act.put _ (some 54) _ = _
                              simp only [Act.put, List.setIfInBounds_toArray, List.set_cons_zero, List.set_cons_succ]; (try simp only [i64_w]); (try simp only [i32_w])
                              rfl
                            refine pure_ (i := 8) (N := some 46) (v := ?_) (a' := ?_) #[true, true, true, true, true, true, true, true, true, false, false, false, false, false] rfl rfl (any_of HT_.out (by kernel_rfl)) (fun _ _ _ h => h) (Or.inl ⟨by rfl, ?_⟩) ?_ ?_
                            rotate_left
                            · intro w'
                              go_simp
                              with_reducible rfl
                            rotate_left
                            · simp only [Act.put, List.setIfInBounds_toArray, List.set_cons_zero, List.set_cons_succ]; (try simp only [i64_w]); (try simp only [i32_w])
                              rfl
                            refine pure_ (i := 9) (N := some 55) (v := ?_) (a' := ?_) #[true, true, true, true, true, true, true, true, true, true, false, false, false, false] rfl rfl (any_of HT_.out (by kernel_rfl)) (fun _ _ _ h => h) (Or.inl ⟨by rfl, ?_⟩) ?_ ?_
                            rotate_left
                            · intro w'
                              go_simp
                              with_reducible rfl
                            rotate_left
                            · simp only [Act.put, List.setIfInBounds_toArray, List.set_cons_zero, List.set_cons_succ]; (try simp only [i64_w]); (try simp only [i32_w])
                              rfl
                            refine pure_ (i := 10) (N := some 56) (v := ?_) (a' := ?_) #[true, true, true, true, true, true, true, true, true, true, true, false, false, false] rfl rfl (any_of HT_.out (by kernel_rfl)) (fun _ _ _ h => h) (Or.inl ⟨by rfl, ?_⟩) ?_ ?_
                            rotate_left
                            · intro w'
                              go_simp
                              with_reducible rfl
                            rotate_left
                            · simp only [Act.put, List.setIfInBounds_toArray, List.set_cons_zero, List.set_cons_succ]; (try simp only [i64_w]); (try simp only [i32_w])
                              rfl
                            refine one_ (i := 11) (N := some 9) #[true, true, true, true, true, true, true, true, true, true, true, true, false, false] rfl rfl (one_of HT_.out (by kernel_rfl)) (by decide) (fun K hK => ?_)
                            refine box_step ?hg (N := 9) ?hd (cs := #[.bool false, .string (⟨#[]⟩ : ByteArray), .int .i64 0]) (t := 23) ?hr ?_; (case hd => rfl); (case hg => rfl); (case hr => first | (go_simp; done) | (go_simp; rfl))
                            intro gb480 hg w57 hbox hb
                            have n0_ := Aside0.mk (blk_below (g := gb466) (o := .cells #[.bool a1_0, .string a1_1, .int .i64 a1_2] 23 (0, 0)) (by (with_reducible repeat (first | refine blk_drewN ?_ _ | refine blk_drew ?_ | refine blk_alloc ?_ _)); exact BK466.out) hb)
                            have n1_ := Aside0.mk (blk_below (g := gb473) (o := .cells #[.bool t469, .string t470, .int .i64 t471] 23 (0, 0)) (by (with_reducible repeat (first | refine blk_drewN ?_ _ | refine blk_drew ?_ | refine blk_alloc ?_ _)); exact BK473.out) hb)
                            have n2_ := Aside0.mk (below_step (by repeat (first | (with_reducible first | exact HB.out | apply below_alloc | apply pw_below_drewN | apply below_drew1 | refine below_set ?_ GE466.out | refine below_set ?_ GE473.out) | exact HB.out)) hb)
                            have n3_ := Aside0.mk (hbox)
                            have n4_ := Aside0.mk ((by rw [hg]; exact (below_size (by repeat (first | (with_reducible first | exact HB.out | apply below_alloc | apply pw_below_drewN | apply below_drew1 | refine below_set ?_ GE466.out | refine below_set ?_ GE473.out) | exact HB.out))) : w.heap.size ≤ gb480))
                            have n5_ := Aside0.mk ((by rw [hg]; exact (below_size (by repeat (first | (with_reducible first | exact HB.out | apply below_alloc | apply pw_below_drewN | apply below_drew1 | refine below_set ?_ GE466.out | refine below_set ?_ GE473.out) | exact HB.out))) : w.heap.size ≤ gb480))
                            have n6_ := Aside0.mk ((by rw [hg]; exact Nat.ne_of_lt (blk_lt (g := gb466) (o := .cells #[.bool a1_0, .string a1_1, .int .i64 a1_2] 23 (0, 0)) (by (with_reducible repeat (first | refine blk_drewN ?_ _ | refine blk_drew ?_ | refine blk_alloc ?_ _)); exact BK466.out)) : gb466 ≠ gb480))
                            have n7_ := Aside0.mk ((by rw [hg]; exact Nat.ne_of_gt (blk_lt (g := gb466) (o := .cells #[.bool a1_0, .string a1_1, .int .i64 a1_2] 23 (0, 0)) (by (with_reducible repeat (first | refine blk_drewN ?_ _ | refine blk_drew ?_ | refine blk_alloc ?_ _)); exact BK466.out)) : gb480 ≠ gb466))
                            have n8_ := Aside0.mk ((by rw [hg]; exact Nat.ne_of_lt (blk_lt (g := gb473) (o := .cells #[.bool t469, .string t470, .int .i64 t471] 23 (0, 0)) (by (with_reducible repeat (first | refine blk_drewN ?_ _ | refine blk_drew ?_ | refine blk_alloc ?_ _)); exact BK473.out)) : gb473 ≠ gb480))
                            have n9_ := Aside0.mk ((by rw [hg]; exact Nat.ne_of_gt (blk_lt (g := gb473) (o := .cells #[.bool t469, .string t470, .int .i64 t471] 23 (0, 0)) (by (with_reducible repeat (first | refine blk_drewN ?_ _ | refine blk_drew ?_ | refine blk_alloc ?_ _)); exact BK473.out)) : gb480 ≠ gb473))
                            clear BK466
                            clear BK473
                            clear HB
                            have BK466 := n0_
                            have BK473 := n1_
                            have HB := n2_
                            have BK480 := n3_
                            have GW480 := n4_
                            have GE480 := n5_
                            have NB466_480 := n6_
                            have NB480_466 := n7_
                            have NB473_480 := n8_
                            have NB480_473 := n9_
                            clear n0_ n1_ n2_ n3_ n4_ n5_ n6_ n7_ n8_ n9_
                            clear hb hbox hg
                            refine hK.out _ _ ⟨(blk_cell BK466.out 0).trans rfl, (blk_cell BK466.out 1).trans rfl, (blk_cell BK466.out 2).trans rfl⟩ (fun hHeld => ?_)
                            clear hK K
                            refine norm_ (a' := ?_) ?_ ?_
                            rotate_left
                            · show Act.put _ (some 9) _ = _
                              simp only [Act.put, List.setIfInBounds_toArray, List.set_cons_zero, List.set_cons_succ]; (try simp only [i64_w]); (try simp only [i32_w])
                              rfl
                            exact norm_ (by simp only [putAll, Act.put, List.setIfInBounds_toArray, List.set_cons_zero, List.set_cons_succ]) (hCont (gb480) _ ⟨hHeld, (by (with_reducible repeat (first | refine blk_drewN ?_ _ | refine blk_drew ?_ | refine blk_alloc ?_ _)); exact BK466.out), (by (with_reducible repeat (first | refine blk_drewN ?_ _ | refine blk_drew ?_ | refine blk_alloc ?_ _)); exact BK473.out), (by (with_reducible repeat (first | refine blk_drewN ?_ _ | refine blk_drew ?_ | refine blk_alloc ?_ _)); exact BK480.out), GW480.out, GE480.out, NB466_480.out, NB480_466.out, NB473_480.out, NB480_473.out, (by repeat (first | (with_reducible first | exact HB.out | apply below_alloc | apply pw_below_drewN | apply below_drew1 | refine below_set ?_ GE466.out | refine below_set ?_ GE473.out | refine below_set ?_ GE480.out) | exact HB.out))⟩)
                          · skip
                            refine box_step ?hg (N := 9) ?hd (cs := #[.bool false, .string (⟨#[]⟩ : ByteArray), .int .i64 0]) (t := 23) ?hr ?_; (case hd => rfl); (case hg => rfl); (case hr => first | (go_simp; done) | (go_simp; rfl))
                            intro gb480 hg w56 hbox hb
                            have n0_ := Aside0.mk (blk_below (g := gb466) (o := .cells #[.bool a1_0, .string a1_1, .int .i64 a1_2] 23 (0, 0)) (by (with_reducible repeat (first | refine blk_drewN ?_ _ | refine blk_drew ?_ | refine blk_alloc ?_ _)); exact BK466.out) hb)
                            have n1_ := Aside0.mk (blk_below (g := gb473) (o := .cells #[.bool t469, .string t470, .int .i64 t471] 23 (0, 0)) (by (with_reducible repeat (first | refine blk_drewN ?_ _ | refine blk_drew ?_ | refine blk_alloc ?_ _)); exact BK473.out) hb)
                            have n2_ := Aside0.mk (below_step (by repeat (first | (with_reducible first | exact HB.out | apply below_alloc | apply pw_below_drewN | apply below_drew1 | refine below_set ?_ GE466.out | refine below_set ?_ GE473.out) | exact HB.out)) hb)
                            have n3_ := Aside0.mk (hbox)
                            have n4_ := Aside0.mk ((by rw [hg]; exact (below_size (by repeat (first | (with_reducible first | exact HB.out | apply below_alloc | apply pw_below_drewN | apply below_drew1 | refine below_set ?_ GE466.out | refine below_set ?_ GE473.out) | exact HB.out))) : w.heap.size ≤ gb480))
                            have n5_ := Aside0.mk ((by rw [hg]; exact (below_size (by repeat (first | (with_reducible first | exact HB.out | apply below_alloc | apply pw_below_drewN | apply below_drew1 | refine below_set ?_ GE466.out | refine below_set ?_ GE473.out) | exact HB.out))) : w.heap.size ≤ gb480))
                            have n6_ := Aside0.mk ((by rw [hg]; exact Nat.ne_of_lt (blk_lt (g := gb466) (o := .cells #[.bool a1_0, .string a1_1, .int .i64 a1_2] 23 (0, 0)) (by (with_reducible repeat (first | refine blk_drewN ?_ _ | refine blk_drew ?_ | refine blk_alloc ?_ _)); exact BK466.out)) : gb466 ≠ gb480))
                            have n7_ := Aside0.mk ((by rw [hg]; exact Nat.ne_of_gt (blk_lt (g := gb466) (o := .cells #[.bool a1_0, .string a1_1, .int .i64 a1_2] 23 (0, 0)) (by (with_reducible repeat (first | refine blk_drewN ?_ _ | refine blk_drew ?_ | refine blk_alloc ?_ _)); exact BK466.out)) : gb480 ≠ gb466))
                            have n8_ := Aside0.mk ((by rw [hg]; exact Nat.ne_of_lt (blk_lt (g := gb473) (o := .cells #[.bool t469, .string t470, .int .i64 t471] 23 (0, 0)) (by (with_reducible repeat (first | refine blk_drewN ?_ _ | refine blk_drew ?_ | refine blk_alloc ?_ _)); exact BK473.out)) : gb473 ≠ gb480))
                            have n9_ := Aside0.mk ((by rw [hg]; exact Nat.ne_of_gt (blk_lt (g := gb473) (o := .cells #[.bool t469, .string t470, .int .i64 t471] 23 (0, 0)) (by (with_reducible repeat (first | refine blk_drewN ?_ _ | refine blk_drew ?_ | refine blk_alloc ?_ _)); exact BK473.out)) : gb480 ≠ gb473))
                            clear BK466
                            clear BK473
                            clear HB
                            have BK466 := n0_
                            have BK473 := n1_
                            have HB := n2_
                            have BK480 := n3_
                            have GW480 := n4_
                            have GE480 := n5_
                            have NB466_480 := n6_
                            have NB480_466 := n7_
                            have NB473_480 := n8_
                            have NB480_473 := n9_
                            clear n0_ n1_ n2_ n3_ n4_ n5_ n6_ n7_ n8_ n9_
                            clear hb hbox hg
                            refine hK.out _ _ ⟨(blk_cell BK466.out 0).trans rfl, (blk_cell BK466.out 1).trans rfl, (blk_cell BK466.out 2).trans rfl⟩ (fun hHeld => ?_)
                            clear hK K
                            refine norm_ (a' := ?_) ?_ ?_
                            rotate_left
                            · show Act.put _ (some 9) _ = _
                              simp only [Act.put, List.setIfInBounds_toArray, List.set_cons_zero, List.set_cons_succ]; (try simp only [i64_w]); (try simp only [i32_w])
                              rfl
                            refine one_ (i := 7) (N := some 54) #[true, true, true, true, true, true, true, true, false, false, false, true, false, false] rfl rfl (one_of HT_.out (by kernel_rfl)) (by decide) (fun K hK => ?_)
                            refine goes_ Tryd.func17 (by kernel_rfl) rfl #[.int .i64 a0, .agg #[.bool a1_0, .string a1_1, .int .i64 a1_2], .string (⟨#[49]⟩ : ByteArray), .int .i64 (wrap64 ((wrap64 (t475 - a2)) + 1))] (by rfl) rfl rfl (by (try simp only [List.map_toArray]); (try simp only [List.map_cons]); (try simp only [List.map_nil]); first | done | rfl | (simp only [List.length_drop, List.length_take]; rfl)) ?_
                            with_reducible refine (figureheadref05_Round.calls kj15 a0 a1_0 a1_1 a1_2 (⟨#[49]⟩ : ByteArray) (wrap64 ((wrap64 (t475 - a2)) + 1)) t476 t477 t478 t479 _ A32.out).mono ?_
                            rintro e w57 ⟨rfl, hb⟩
                            refine ⟨_, rfl, ?_⟩
                            have n0_ := Aside0.mk (blk_below (g := gb466) (o := .cells #[.bool a1_0, .string a1_1, .int .i64 a1_2] 23 (0, 0)) (by (with_reducible repeat (first | refine blk_drewN ?_ _ | refine blk_drew ?_ | refine blk_alloc ?_ _)); exact BK466.out) hb)
                            have n1_ := Aside0.mk (blk_below (g := gb473) (o := .cells #[.bool t469, .string t470, .int .i64 t471] 23 (0, 0)) (by (with_reducible repeat (first | refine blk_drewN ?_ _ | refine blk_drew ?_ | refine blk_alloc ?_ _)); exact BK473.out) hb)
                            have n2_ := Aside0.mk (blk_below (g := gb480) (o := .cells #[.bool false, .string (⟨#[]⟩ : ByteArray), .int .i64 0] 23 (0, 0)) (by (with_reducible repeat (first | refine blk_drewN ?_ _ | refine blk_drew ?_ | refine blk_alloc ?_ _)); exact BK480.out) hb)
                            have n3_ := Aside0.mk (below_step (by repeat (first | (with_reducible first | exact HB.out | apply below_alloc | apply pw_below_drewN | apply below_drew1 | refine below_set ?_ GE466.out | refine below_set ?_ GE473.out | refine below_set ?_ GE480.out) | exact HB.out)) hb)
                            clear BK466
                            clear BK473
                            clear BK480
                            clear HB
                            have BK466 := n0_
                            have BK473 := n1_
                            have BK480 := n2_
                            have HB := n3_
                            clear n0_ n1_ n2_ n3_
                            (try clear hb)
                            (try clear hb2)
                            (try clear hk)
                            (try clear hi)
                            refine hK.out _ _ ⟨(blk_cell BK466.out 0).trans rfl, (blk_cell BK466.out 1).trans rfl, (blk_cell BK466.out 2).trans rfl⟩ (fun hHeld => ?_)
                            clear hK K
                            refine norm_ (a' := ?_) ?_ ?_
                            rotate_left
                            · show Act.put _ (some 54) _ = _
                              simp only [Act.put, List.setIfInBounds_toArray, List.set_cons_zero, List.set_cons_succ]; (try simp only [i64_w]); (try simp only [i32_w])
                              rfl
                            refine pure_ (i := 8) (N := some 46) (v := ?_) (a' := ?_) #[true, true, true, true, true, true, true, true, true, false, false, true, false, false] rfl rfl (any_of HT_.out (by kernel_rfl)) (fun _ _ _ h => h) (Or.inl ⟨by rfl, ?_⟩) ?_ ?_
                            rotate_left
                            · intro w'
                              go_simp
                              with_reducible rfl
                            rotate_left
                            · simp only [Act.put, List.setIfInBounds_toArray, List.set_cons_zero, List.set_cons_succ]; (try simp only [i64_w]); (try simp only [i32_w])
                              rfl
                            refine pure_ (i := 9) (N := some 55) (v := ?_) (a' := ?_) #[true, true, true, true, true, true, true, true, true, true, false, true, false, false] rfl rfl (any_of HT_.out (by kernel_rfl)) (fun _ _ _ h => h) (Or.inl ⟨by rfl, ?_⟩) ?_ ?_
                            rotate_left
                            · intro w'
                              go_simp
                              with_reducible rfl
                            rotate_left
                            · simp only [Act.put, List.setIfInBounds_toArray, List.set_cons_zero, List.set_cons_succ]; (try simp only [i64_w]); (try simp only [i32_w])
                              rfl
                            refine pure_ (i := 10) (N := some 56) (v := ?_) (a' := ?_) #[true, true, true, true, true, true, true, true, true, true, true, true, false, false] rfl rfl (any_of HT_.out (by kernel_rfl)) (fun _ _ _ h => h) (Or.inl ⟨by rfl, ?_⟩) ?_ ?_
                            rotate_left
                            · intro w'
                              go_simp
                              with_reducible rfl
                            rotate_left
                            · simp only [Act.put, List.setIfInBounds_toArray, List.set_cons_zero, List.set_cons_succ]; (try simp only [i64_w]); (try simp only [i32_w])
                              rfl
                            exact norm_ (by simp only [putAll, Act.put, List.setIfInBounds_toArray, List.set_cons_zero, List.set_cons_succ]) (hCont (gb480) _ ⟨hHeld, (by (with_reducible repeat (first | refine blk_drewN ?_ _ | refine blk_drew ?_ | refine blk_alloc ?_ _)); exact BK466.out), (by (with_reducible repeat (first | refine blk_drewN ?_ _ | refine blk_drew ?_ | refine blk_alloc ?_ _)); exact BK473.out), (by (with_reducible repeat (first | refine blk_drewN ?_ _ | refine blk_drew ?_ | refine blk_alloc ?_ _)); exact BK480.out), GW480.out, GE480.out, NB466_480.out, NB480_466.out, NB473_480.out, NB480_473.out, (by repeat (first | (with_reducible first | exact HB.out | apply below_alloc | apply pw_below_drewN | apply below_drew1 | refine below_set ?_ GE466.out | refine below_set ?_ GE473.out | refine below_set ?_ GE480.out) | exact HB.out))⟩)
                        · skip
                          refine box_step ?hg (N := 9) ?hd (cs := #[.bool false, .string (⟨#[]⟩ : ByteArray), .int .i64 0]) (t := 23) ?hr ?_; (case hd => rfl); (case hg => rfl); (case hr => first | (go_simp; done) | (go_simp; rfl))
                          intro gb480 hg w55 hbox hb
                          have n0_ := Aside0.mk (blk_below (g := gb466) (o := .cells #[.bool a1_0, .string a1_1, .int .i64 a1_2] 23 (0, 0)) (by (with_reducible repeat (first | refine blk_drewN ?_ _ | refine blk_drew ?_ | refine blk_alloc ?_ _)); exact BK466.out) hb)
                          have n1_ := Aside0.mk (blk_below (g := gb473) (o := .cells #[.bool t469, .string t470, .int .i64 t471] 23 (0, 0)) (by (with_reducible repeat (first | refine blk_drewN ?_ _ | refine blk_drew ?_ | refine blk_alloc ?_ _)); exact BK473.out) hb)
                          have n2_ := Aside0.mk (below_step (by repeat (first | (with_reducible first | exact HB.out | apply below_alloc | apply pw_below_drewN | apply below_drew1 | refine below_set ?_ GE466.out | refine below_set ?_ GE473.out) | exact HB.out)) hb)
                          have n3_ := Aside0.mk (hbox)
                          have n4_ := Aside0.mk ((by rw [hg]; exact (below_size (by repeat (first | (with_reducible first | exact HB.out | apply below_alloc | apply pw_below_drewN | apply below_drew1 | refine below_set ?_ GE466.out | refine below_set ?_ GE473.out) | exact HB.out))) : w.heap.size ≤ gb480))
                          have n5_ := Aside0.mk ((by rw [hg]; exact (below_size (by repeat (first | (with_reducible first | exact HB.out | apply below_alloc | apply pw_below_drewN | apply below_drew1 | refine below_set ?_ GE466.out | refine below_set ?_ GE473.out) | exact HB.out))) : w.heap.size ≤ gb480))
                          have n6_ := Aside0.mk ((by rw [hg]; exact Nat.ne_of_lt (blk_lt (g := gb466) (o := .cells #[.bool a1_0, .string a1_1, .int .i64 a1_2] 23 (0, 0)) (by (with_reducible repeat (first | refine blk_drewN ?_ _ | refine blk_drew ?_ | refine blk_alloc ?_ _)); exact BK466.out)) : gb466 ≠ gb480))
                          have n7_ := Aside0.mk ((by rw [hg]; exact Nat.ne_of_gt (blk_lt (g := gb466) (o := .cells #[.bool a1_0, .string a1_1, .int .i64 a1_2] 23 (0, 0)) (by (with_reducible repeat (first | refine blk_drewN ?_ _ | refine blk_drew ?_ | refine blk_alloc ?_ _)); exact BK466.out)) : gb480 ≠ gb466))
                          have n8_ := Aside0.mk ((by rw [hg]; exact Nat.ne_of_lt (blk_lt (g := gb473) (o := .cells #[.bool t469, .string t470, .int .i64 t471] 23 (0, 0)) (by (with_reducible repeat (first | refine blk_drewN ?_ _ | refine blk_drew ?_ | refine blk_alloc ?_ _)); exact BK473.out)) : gb473 ≠ gb480))
                          have n9_ := Aside0.mk ((by rw [hg]; exact Nat.ne_of_gt (blk_lt (g := gb473) (o := .cells #[.bool t469, .string t470, .int .i64 t471] 23 (0, 0)) (by (with_reducible repeat (first | refine blk_drewN ?_ _ | refine blk_drew ?_ | refine blk_alloc ?_ _)); exact BK473.out)) : gb480 ≠ gb473))
                          clear BK466
                          clear BK473
                          clear HB
                          have BK466 := n0_
                          have BK473 := n1_
                          have HB := n2_
                          have BK480 := n3_
                          have GW480 := n4_
                          have GE480 := n5_
                          have NB466_480 := n6_
                          have NB480_466 := n7_
                          have NB473_480 := n8_
                          have NB480_473 := n9_
                          clear n0_ n1_ n2_ n3_ n4_ n5_ n6_ n7_ n8_ n9_
                          clear hb hbox hg
                          refine hK.out _ _ ⟨(blk_cell BK466.out 0).trans rfl, (blk_cell BK466.out 1).trans rfl, (blk_cell BK466.out 2).trans rfl⟩ (fun hHeld => ?_)
                          clear hK K
                          refine norm_ (a' := ?_) ?_ ?_
                          rotate_left
                          · show Act.put _ (some 9) _ = _
                            simp only [Act.put, List.setIfInBounds_toArray, List.set_cons_zero, List.set_cons_succ]; (try simp only [i64_w]); (try simp only [i32_w])
                            rfl
                          refine one_ (i := 3) (N := some 50) #[true, true, true, true, true, false, false, false, false, false, false, true, false, false] rfl rfl (one_of HT_.out (by kernel_rfl)) (by decide) (fun K hK => ?_)
                          refine goes_ Tryd.func26 (by kernel_rfl) rfl #[.agg #[.bool a1_0, .string a1_1, .int .i64 a1_2]] (by rfl) rfl rfl (by (try simp only [List.map_toArray]); (try simp only [List.map_cons]); (try simp only [List.map_nil]); first | done | rfl | (simp only [List.length_drop, List.length_take]; rfl)) ?_
                          with_reducible refine (figureheadref05_Top.calls kj15 a1_0 a1_1 a1_2 t475 _ A31.out).mono ?_
                          rintro e w56 ⟨rfl, hb⟩
                          refine ⟨_, rfl, ?_⟩
                          have n0_ := Aside0.mk (blk_below (g := gb466) (o := .cells #[.bool a1_0, .string a1_1, .int .i64 a1_2] 23 (0, 0)) (by (with_reducible repeat (first | refine blk_drewN ?_ _ | refine blk_drew ?_ | refine blk_alloc ?_ _)); exact BK466.out) hb)
                          have n1_ := Aside0.mk (blk_below (g := gb473) (o := .cells #[.bool t469, .string t470, .int .i64 t471] 23 (0, 0)) (by (with_reducible repeat (first | refine blk_drewN ?_ _ | refine blk_drew ?_ | refine blk_alloc ?_ _)); exact BK473.out) hb)
                          have n2_ := Aside0.mk (blk_below (g := gb480) (o := .cells #[.bool false, .string (⟨#[]⟩ : ByteArray), .int .i64 0] 23 (0, 0)) (by (with_reducible repeat (first | refine blk_drewN ?_ _ | refine blk_drew ?_ | refine blk_alloc ?_ _)); exact BK480.out) hb)
                          have n3_ := Aside0.mk (below_step (by repeat (first | (with_reducible first | exact HB.out | apply below_alloc | apply pw_below_drewN | apply below_drew1 | refine below_set ?_ GE466.out | refine below_set ?_ GE473.out | refine below_set ?_ GE480.out) | exact HB.out)) hb)
                          clear BK466
                          clear BK473
                          clear BK480
                          clear HB
                          have BK466 := n0_
                          have BK473 := n1_
                          have BK480 := n2_
                          have HB := n3_
                          clear n0_ n1_ n2_ n3_
                          (try clear hb)
                          (try clear hb2)
                          (try clear hk)
                          (try clear hi)
                          refine hK.out _ _ ⟨(blk_cell BK466.out 0).trans rfl, (blk_cell BK466.out 1).trans rfl, (blk_cell BK466.out 2).trans rfl⟩ (fun hHeld => ?_)
                          clear hK K
                          refine norm_ (a' := ?_) ?_ ?_
                          rotate_left
                          · show Act.put _ (some 50) _ = _
                            simp only [Act.put, List.setIfInBounds_toArray, List.set_cons_zero, List.set_cons_succ]; (try simp only [i64_w]); (try simp only [i32_w])
                            rfl
                          refine pure_ (i := 5) (N := some 52) (v := ?_) (a' := ?_) #[true, true, true, true, true, true, false, false, false, false, false, true, false, false] rfl rfl (any_of HT_.out (by kernel_rfl)) (fun _ _ _ h => h) (Or.inl ⟨by rfl, ?_⟩) ?_ ?_
                          rotate_left
                          · intro w'
                            go_simp
                            with_reducible rfl
                          rotate_left
                          · simp only [Act.put, List.setIfInBounds_toArray, List.set_cons_zero, List.set_cons_succ]; (try simp only [i64_w]); (try simp only [i32_w])
                            rfl
                          refine pure_ (i := 6) (N := some 53) (v := ?_) (a' := ?_) #[true, true, true, true, true, true, true, false, false, false, false, true, false, false] rfl rfl (any_of HT_.out (by kernel_rfl)) (fun _ _ _ h => h) (Or.inl ⟨by rfl, ?_⟩) ?_ ?_
                          rotate_left
                          · intro w'
                            go_simp
                            with_reducible rfl
                          rotate_left
                          · simp only [Act.put, List.setIfInBounds_toArray, List.set_cons_zero, List.set_cons_succ]; (try simp only [i64_w]); (try simp only [i32_w])
                            rfl
                          refine one_ (i := 7) (N := some 54) #[true, true, true, true, true, true, true, true, false, false, false, true, false, false] rfl rfl (one_of HT_.out (by kernel_rfl)) (by decide) (fun K hK => ?_)
                          refine goes_ Tryd.func17 (by kernel_rfl) rfl #[.int .i64 a0, .agg #[.bool a1_0, .string a1_1, .int .i64 a1_2], .string (⟨#[49]⟩ : ByteArray), .int .i64 (wrap64 ((wrap64 (t475 - a2)) + 1))] (by rfl) rfl rfl (by (try simp only [List.map_toArray]); (try simp only [List.map_cons]); (try simp only [List.map_nil]); first | done | rfl | (simp only [List.length_drop, List.length_take]; rfl)) ?_
                          with_reducible refine (figureheadref05_Round.calls kj15 a0 a1_0 a1_1 a1_2 (⟨#[49]⟩ : ByteArray) (wrap64 ((wrap64 (t475 - a2)) + 1)) t476 t477 t478 t479 _ A32.out).mono ?_
                          rintro e w57 ⟨rfl, hb⟩
                          refine ⟨_, rfl, ?_⟩
                          have n0_ := Aside0.mk (blk_below (g := gb466) (o := .cells #[.bool a1_0, .string a1_1, .int .i64 a1_2] 23 (0, 0)) (by (with_reducible repeat (first | refine blk_drewN ?_ _ | refine blk_drew ?_ | refine blk_alloc ?_ _)); exact BK466.out) hb)
                          have n1_ := Aside0.mk (blk_below (g := gb473) (o := .cells #[.bool t469, .string t470, .int .i64 t471] 23 (0, 0)) (by (with_reducible repeat (first | refine blk_drewN ?_ _ | refine blk_drew ?_ | refine blk_alloc ?_ _)); exact BK473.out) hb)
                          have n2_ := Aside0.mk (blk_below (g := gb480) (o := .cells #[.bool false, .string (⟨#[]⟩ : ByteArray), .int .i64 0] 23 (0, 0)) (by (with_reducible repeat (first | refine blk_drewN ?_ _ | refine blk_drew ?_ | refine blk_alloc ?_ _)); exact BK480.out) hb)
                          have n3_ := Aside0.mk (below_step (by repeat (first | (with_reducible first | exact HB.out | apply below_alloc | apply pw_below_drewN | apply below_drew1 | refine below_set ?_ GE466.out | refine below_set ?_ GE473.out | refine below_set ?_ GE480.out) | exact HB.out)) hb)
                          clear BK466
                          clear BK473
                          clear BK480
                          clear HB
                          have BK466 := n0_
                          have BK473 := n1_
                          have BK480 := n2_
                          have HB := n3_
                          clear n0_ n1_ n2_ n3_
                          (try clear hb)
                          (try clear hb2)
                          (try clear hk)
                          (try clear hi)
                          refine hK.out _ _ ⟨(blk_cell BK466.out 0).trans rfl, (blk_cell BK466.out 1).trans rfl, (blk_cell BK466.out 2).trans rfl⟩ (fun hHeld => ?_)
                          clear hK K
                          refine norm_ (a' := ?_) ?_ ?_
                          rotate_left
                          · show Act.put _ (some 54) _ = _
                            simp only [Act.put, List.setIfInBounds_toArray, List.set_cons_zero, List.set_cons_succ]; (try simp only [i64_w]); (try simp only [i32_w])
                            rfl
                          refine pure_ (i := 8) (N := some 46) (v := ?_) (a' := ?_) #[true, true, true, true, true, true, true, true, true, false, false, true, false, false] rfl rfl (any_of HT_.out (by kernel_rfl)) (fun _ _ _ h => h) (Or.inl ⟨by rfl, ?_⟩) ?_ ?_
                          rotate_left
                          · intro w'
                            go_simp
                            with_reducible rfl
                          rotate_left
                          · simp only [Act.put, List.setIfInBounds_toArray, List.set_cons_zero, List.set_cons_succ]; (try simp only [i64_w]); (try simp only [i32_w])
                            rfl
                          refine pure_ (i := 9) (N := some 55) (v := ?_) (a' := ?_) #[true, true, true, true, true, true, true, true, true, true, false, true, false, false] rfl rfl (any_of HT_.out (by kernel_rfl)) (fun _ _ _ h => h) (Or.inl ⟨by rfl, ?_⟩) ?_ ?_
                          rotate_left
                          · intro w'
                            go_simp
                            with_reducible rfl
                          rotate_left
                          · simp only [Act.put, List.setIfInBounds_toArray, List.set_cons_zero, List.set_cons_succ]; (try simp only [i64_w]); (try simp only [i32_w])
                            rfl
                          refine pure_ (i := 10) (N := some 56) (v := ?_) (a' := ?_) #[true, true, true, true, true, true, true, true, true, true, true, true, false, false] rfl rfl (any_of HT_.out (by kernel_rfl)) (fun _ _ _ h => h) (Or.inl ⟨by rfl, ?_⟩) ?_ ?_
                          rotate_left
                          · intro w'
                            go_simp
                            with_reducible rfl
                          rotate_left
                          · simp only [Act.put, List.setIfInBounds_toArray, List.set_cons_zero, List.set_cons_succ]; (try simp only [i64_w]); (try simp only [i32_w])
                            rfl
                          exact norm_ (by simp only [putAll, Act.put, List.setIfInBounds_toArray, List.set_cons_zero, List.set_cons_succ]) (hCont (gb480) _ ⟨hHeld, (by (with_reducible repeat (first | refine blk_drewN ?_ _ | refine blk_drew ?_ | refine blk_alloc ?_ _)); exact BK466.out), (by (with_reducible repeat (first | refine blk_drewN ?_ _ | refine blk_drew ?_ | refine blk_alloc ?_ _)); exact BK473.out), (by (with_reducible repeat (first | refine blk_drewN ?_ _ | refine blk_drew ?_ | refine blk_alloc ?_ _)); exact BK480.out), GW480.out, GE480.out, NB466_480.out, NB480_466.out, NB473_480.out, NB480_473.out, (by repeat (first | (with_reducible first | exact HB.out | apply below_alloc | apply pw_below_drewN | apply below_drew1 | refine below_set ?_ GE466.out | refine below_set ?_ GE473.out | refine below_set ?_ GE480.out) | exact HB.out))⟩)
                      rintro gb480 w58 ⟨hS_, h0_, h1_, h2_, h3_, h4_, h5_, h6_, h7_, h8_, h9_⟩
                      have n0_ : Aside0 (w58.heap[gb466]? = some (.cells #[.bool a1_0, .string a1_1, .int .i64 a1_2] 23 (0, 0))) := ⟨h0_⟩
                      have n1_ : Aside0 (w58.heap[gb473]? = some (.cells #[.bool t469, .string t470, .int .i64 t471] 23 (0, 0))) := ⟨h1_⟩
                      have n2_ : Aside0 (w58.heap[gb480]? = some (.cells #[.bool false, .string (⟨#[]⟩ : ByteArray), .int .i64 0] 23 (0, 0))) := ⟨h2_⟩
                      have n3_ : Aside0 (w.heap.size ≤ gb480) := ⟨h3_⟩
                      have n4_ : Aside0 (w.heap.size ≤ gb480) := ⟨h4_⟩
                      have n5_ : Aside0 (gb466 ≠ gb480) := ⟨h5_⟩
                      have n6_ : Aside0 (gb480 ≠ gb466) := ⟨h6_⟩
                      have n7_ : Aside0 (gb473 ≠ gb480) := ⟨h7_⟩
                      have n8_ : Aside0 (gb480 ≠ gb473) := ⟨h8_⟩
                      have n9_ : Aside0 (Below w.heap.size w w58) := ⟨h9_⟩
                      clear BK466
                      clear BK473
                      clear HB
                      clear h0_ h1_ h2_ h3_ h4_ h5_ h6_ h7_ h8_ h9_
                      have BK466 := n0_
                      have BK473 := n1_
                      have BK480 := n2_
                      have GW480 := n3_
                      have GE480 := n4_
                      have NB466_480 := n5_
                      have NB480_466 := n6_
                      have NB473_480 := n7_
                      have NB480_473 := n8_
                      have HB := n9_
                      clear n0_ n1_ n2_ n3_ n4_ n5_ n6_ n7_ n8_ n9_
                      have hHeld : w58.cell? ⟨gb466, 0, none⟩ = some (.bool a1_0) ∧ w58.cell? ⟨gb466, 1, none⟩ = some (.string a1_1) ∧ w58.cell? ⟨gb466, 2, none⟩ = some (.int .i64 a1_2) := hS_
                      refine norm_ (a' := ?_) ?_ ?_
                      rotate_left
                      · simp only [putAll, Act.put, List.setIfInBounds_toArray, List.set_cons_zero, List.set_cons_succ]
                        rfl
                      refine one_ (i := 12) (N := none) #[true, true, true, true, true, true, true, true, true, true, true, true, true, false] rfl rfl (one_of HT_.out (by kernel_rfl)) (by decide) (fun K hK => ?_)
                      have hs59 : w58.cell? ⟨gb480, 0, none⟩ = some (.bool false) := (blk_cell BK480.out 0).trans rfl
                      have hfs59 := blk_frozen BK480.out 0
                      have hns59_0 := NB466_480.out
                      have hns59_1 := NB473_480.out
                      have hms59_0 := NB480_466.out
                      have hms59_1 := NB480_473.out
                      have hs60 : w58.cell? ⟨gb480, 1, none⟩ = some (.string (⟨#[]⟩ : ByteArray)) := (blk_cell BK480.out 1).trans rfl
                      have hfs60 := blk_frozen BK480.out 1
                      have hns60_0 := NB466_480.out
                      have hns60_1 := NB473_480.out
                      have hms60_0 := NB480_466.out
                      have hms60_1 := NB480_473.out
                      have hs61 : w58.cell? ⟨gb480, 2, none⟩ = some (.int .i64 0) := (blk_cell BK480.out 2).trans rfl
                      have hfs61 := blk_frozen BK480.out 2
                      have hns61_0 := NB466_480.out
                      have hns61_1 := NB473_480.out
                      have hms61_0 := NB480_466.out
                      have hms61_1 := NB480_473.out
                      refine skip_ (w1 := ?_) (by rfl) rfl ?_ ?_
                      rotate_left
                      · go_simp
                        rfl
                      refine hK.out _ _ ⟨((cell_far (p := ⟨gb480, _, none⟩) NB466_480.out _).trans (((cell_far (p := ⟨gb480, _, none⟩) NB466_480.out _).trans (((cell_far (p := ⟨gb480, _, none⟩) NB466_480.out _).trans (hHeld.1)))))), ((cell_far (p := ⟨gb480, _, none⟩) NB466_480.out _).trans (((cell_far (p := ⟨gb480, _, none⟩) NB466_480.out _).trans (((cell_far (p := ⟨gb480, _, none⟩) NB466_480.out _).trans (hHeld.2.1)))))), ((cell_far (p := ⟨gb480, _, none⟩) NB466_480.out _).trans (((cell_far (p := ⟨gb480, _, none⟩) NB466_480.out _).trans (((cell_far (p := ⟨gb480, _, none⟩) NB466_480.out _).trans (hHeld.2.2))))))⟩ (fun hHeld => ?_)
                      clear hK K
                      refine pure_ (i := 13) (N := some 10) (v := ?_) (a' := ?_) #[true, true, true, true, true, true, true, true, true, true, true, true, true, true] rfl rfl (any_of HT_.out (by kernel_rfl)) (fun _ _ _ h => h) (Or.inl ⟨by rfl, ?_⟩) ?_ ?_
                      rotate_left
                      · intro w'
                        go_simp
                        with_reducible rfl
                      rotate_left
                      · simp only [Act.put, List.setIfInBounds_toArray, List.set_cons_zero, List.set_cons_succ]; (try simp only [i64_w]); (try simp only [i32_w])
                        rfl
                      refine done_ (done_of HT_.out (by kernel_rfl)) ?_
                      try go_wp2_with (first | ((with_reducible refine gate_callee (f := 24) rfl ?_); refine goesL_ (some 57) rfl rfl Tryd.func24 (by kernel_rfl) rfl #[] rfl (by (try simp only [List.map_toArray]); (try simp only [List.map_cons]); (try simp only [List.map_nil]); first | done | rfl | (simp only [List.length_drop, List.length_take]; rfl)) ?_; (with_reducible refine (figureheadlaw09_answers.calls kj15  true _ ?side1 ?side2 A33.out).mono ?_); (case side1 => exact Fig.Glob.below HG.out (by repeat (first | (with_reducible first | exact HB.out | apply below_alloc | apply pw_below_drewN | apply below_drew1 | refine below_set ?_ GE466.out | refine below_set ?_ GE473.out | refine below_set ?_ GE480.out) | exact HB.out))); (case side2 => exact ⟨by first | rfl | exact HT.out⟩); rintro e w62 ⟨rfl, hb⟩; refine ⟨_, rfl, ?_⟩; have n0_ := Aside0.mk (blk_below (g := gb466) (o := .cells #[.bool a1_0, .string a1_1, .int .i64 a1_2] 23 (0, 0)) (by (with_reducible repeat (first | refine blk_drewN ?_ _ | refine blk_drew ?_ | refine blk_alloc ?_ _)); refine blk_far ?_ NB466_480.out _; (with_reducible repeat (first | refine blk_drewN ?_ _ | refine blk_drew ?_ | refine blk_alloc ?_ _)); refine blk_far ?_ NB466_480.out _; (with_reducible repeat (first | refine blk_drewN ?_ _ | refine blk_drew ?_ | refine blk_alloc ?_ _)); refine blk_far ?_ NB466_480.out _; (with_reducible repeat (first | refine blk_drewN ?_ _ | refine blk_drew ?_ | refine blk_alloc ?_ _)); exact BK466.out) hb); have n1_ := Aside0.mk (blk_below (g := gb473) (o := .cells #[.bool t469, .string t470, .int .i64 t471] 23 (0, 0)) (by (with_reducible repeat (first | refine blk_drewN ?_ _ | refine blk_drew ?_ | refine blk_alloc ?_ _)); refine blk_far ?_ NB473_480.out _; (with_reducible repeat (first | refine blk_drewN ?_ _ | refine blk_drew ?_ | refine blk_alloc ?_ _)); refine blk_far ?_ NB473_480.out _; (with_reducible repeat (first | refine blk_drewN ?_ _ | refine blk_drew ?_ | refine blk_alloc ?_ _)); refine blk_far ?_ NB473_480.out _; (with_reducible repeat (first | refine blk_drewN ?_ _ | refine blk_drew ?_ | refine blk_alloc ?_ _)); exact BK473.out) hb); have n2_ := Aside0.mk (blk_below (g := gb480) (o := .cells #[.bool t476, .string t477, .int .i64 t478] 23 (0, 0)) (by (with_reducible repeat (first | refine blk_drewN ?_ _ | refine blk_drew ?_ | refine blk_alloc ?_ _)); refine blk_put (cs := #[.bool t476, .string t477, .int .i64 0]) ?_ 2 _ rfl; (with_reducible repeat (first | refine blk_drewN ?_ _ | refine blk_drew ?_ | refine blk_alloc ?_ _)); refine blk_put (cs := #[.bool t476, .string (⟨#[]⟩ : ByteArray), .int .i64 0]) ?_ 1 _ rfl; (with_reducible repeat (first | refine blk_drewN ?_ _ | refine blk_drew ?_ | refine blk_alloc ?_ _)); refine blk_put (cs := #[.bool false, .string (⟨#[]⟩ : ByteArray), .int .i64 0]) ?_ 0 _ rfl; (with_reducible repeat (first | refine blk_drewN ?_ _ | refine blk_drew ?_ | refine blk_alloc ?_ _)); exact BK480.out) hb); have n3_ := Aside0.mk (below_step (by repeat (first | (with_reducible first | exact HB.out | apply below_alloc | apply pw_below_drewN | apply below_drew1 | refine below_set ?_ GE466.out | refine below_set ?_ GE473.out | refine below_set ?_ GE480.out) | exact HB.out)) hb); clear BK466; clear BK473; clear BK480; clear HB; have BK466 := n0_; have BK473 := n1_; have BK480 := n2_; have HB := n3_; clear n0_ n1_ n2_ n3_; (try clear hb); (try clear hb2); (try clear hk); (try clear hi); have hnb63 := NB473_466.out; have hnc63 := NB466_473.out; have hnb64 := NB473_480.out; have hnc64 := NB480_473.out; have hcz65_0 : w62.cell? ⟨gb473, 0, none⟩ = some (.bool t469) := (blk_cell BK473.out 0).trans rfl; have hcz65_1 : w62.cell? ⟨gb473, 1, none⟩ = some (.string t470) := (blk_cell BK473.out 1).trans rfl; have hcz65_2 : w62.cell? ⟨gb473, 2, none⟩ = some (.int .i64 t471) := (blk_cell BK473.out 2).trans rfl; have hfz65_0 := blk_frozen BK473.out 0; have hfz65_1 := blk_frozen BK473.out 1; have hfz65_2 := blk_frozen BK473.out 2; have hnb66 := NB480_466.out; have hnc66 := NB466_480.out; have hcz67_0 : w62.cell? ⟨gb480, 0, none⟩ = some (.bool t476) := (blk_cell BK480.out 0).trans rfl; have hcz67_1 : w62.cell? ⟨gb480, 1, none⟩ = some (.string t477) := (blk_cell BK480.out 1).trans rfl; have hcz67_2 : w62.cell? ⟨gb480, 2, none⟩ = some (.int .i64 t478) := (blk_cell BK480.out 2).trans rfl; have hfz67_0 := blk_frozen BK480.out 0; have hfz67_1 := blk_frozen BK480.out 1; have hfz67_2 := blk_frozen BK480.out 2))
                      go_ret
                      exact ⟨by first | rfl | (simp [errW_none, errW_some] <;> rfl) | (simp [*, errW_none, errW_some] <;> rfl), by repeat (first | (with_reducible first | exact HB.out | apply below_alloc | apply pw_below_drewN | apply below_drew1 | refine below_set ?_ GE466.out | refine below_set ?_ GE473.out | refine below_set ?_ GE480.out) | exact HB.out)⟩
                  · rw [if_neg c36] at H
                    have c36b0 : (t469 == t476 && (t470.toList == t477.toList && (t471 == t478))) = false := by simpa using c36
                    (try (have c36b1 : decide (t469 = t476 && (t470.toList == t477.toList && (t471 == t478))) = false := by simpa using c36))
                    (try (have c36b2 : (t469 == t476 && (t470.toList == t477.toList && (t471 == t478))) = false := by simpa using c36))
                    (try (have c36b3 : ¬ (t469 = t476 && (t470.toList == t477.toList && (t471 == t478))) := by simpa using c36))
                    clear c36
                    exact absurd ((Option.some.inj H).trans HT.out) (by decide)
                · rw [if_neg c35] at H
                  have c35b0 : (t472 == t479) = false := beq_eq_false_iff_ne.mpr c35
                  have c35b1 : (t472 != t479) = true := bne_iff_ne.mpr c35
                  exact absurd ((Option.some.inj H).trans HT.out) (by decide)
              · replace c34 := Bool.eq_false_iff.mpr c34
                subst c34
                have H1 : (some false) = some r := by rw [if_neg (show ¬ (false = true) by decide)] at H; exact H
                clear H
                have H := H1
                clear H1
                exact absurd ((Option.some.inj H).trans HT.out) (by decide)
end Go.Proofs.YtjpokifkbclkiaaDoor.Px
end
section
namespace Go.Proofs.YtjpokifkbclkiaaDoor.Px
open Fig Go.RowKit Go.Proofs.YtjpokifkbclkiaaDoorW.PrintWords Go.Proofs.YtjpokifkbclkiaaDoorW.PrintLast Go.Proofs.YtjpokifkbclkiaaDoorW.PrintMore
attribute [local go_sem] max2_int min2_int max_two min_two max_three min_three max_four min_four   -- for this text's walks alone
attribute [local go_sem] fieldA23_0 fieldA23_1 fieldA23_2
theorem digB_bt {n : Nat} (h : n ≠ 0) : bt (digB n) (((digB n).size : Int) - 1) = ((48 + n % 10 : Nat) : Int) := by
  have hs := digB_ten_size h
  have hl := digB_ten_last h
  have hlt : (digB (n / 10)).size < (digB n).size := by omega
  rw [show ((digB n).size : Int) - 1 = ((digB (n / 10)).size : Int) by omega, bt_get hlt]
  have hg := List.getElem?_eq_getElem (l := (digB n).data.toList) (i := (digB (n / 10)).size) (by rw [← size_eq]; exact hlt)
  rw [hl] at hg
  rw [← Option.some.inj hg, dig_toNat]
theorem Norm05_loop (b b2 : Bool) (s2 : ByteArray) (e2 : Int) : ∀ (d n : Nat) (e : Int), n ≠ 0 → n < d → (digB n).size ≤ 1000000 → -1000000 ≤ e → e + ((digB n).size : Int) ≤ 2000000 → Ev (fun k => figureheadref05_Norm.l0 k (digB n) e b s2 e2) (b, nD n, nE n e)
  | 0, n, e, h0, hd, hz, h1, h2 => absurd hd (by omega)
  | d + 1, n, e, h0, hd, hz, h1, h2 => by
    have hs := digB_ten_size h0
    have hb := digB_bt h0
    have hw : wrap64 (((digB n).size : Int) - 1) = ((digB n).size : Int) - 1 := w64 (by omega) (by omega)
    by_cases hm : n % 10 = 0
    · have h3 : n / 10 ≠ 0 := by omega
      have h4 : n / 10 < d := by have := div10_lt h0; omega
      have e1 : nD n = nD (n / 10) := by
        conv => lhs; rw [show n = n / 10 * 10 ^ 1 by omega]
        exact nD_pow _ _
      have e2' : nE n e = nE (n / 10) (e + 1) := by
        conv => lhs; rw [show n = n / 10 * 10 ^ 1 by omega]
        exact nE_pow _ _ _
      rw [e1, e2']
      refine Ev.step (f := fun k => figureheadref05_Norm.l0 k (digB (n / 10)) (e + 1) b s2 e2) (fun k => ?_) (Norm05_loop b b2 s2 e2 d (n / 10) (e + 1) h3 h4 (by omega) (by omega) (by omega))
      simp only [figureheadref05_Norm.l0]
      rw [hw, if_pos (by omega), if_pos (by omega), hb, if_pos (by omega), if_pos (by omega), w64 (x := e + 1) (by omega) (by omega)]
      rw [show (((digB n).size : Int) - 1).toNat = (digB (n / 10)).size by omega, digB_ten_init h0]
    · rw [nD_of hm, nE_of hm]
      refine evDone (r' := (b, digB n, e)) (fun k => ?_) rfl
      simp only [figureheadref05_Norm.l0]
      rw [hw, if_pos (by omega), if_pos (by omega), hb, if_neg (by omega)]
theorem Norm05_any {b : Bool} {s : ByteArray} {e : Int} (hd : dB s = true) (hz : s.size ≤ 1000000) (h1 : -1000000 ≤ e) (h2 : e ≤ 1000000) : Ev (fun k => figureheadref05_Norm.f k b s e) (b, nD (vB s), nE (vB s) e) := by
  have hv : (digB (vB s)).size ≤ s.size := digs_size_lt (vB_lt hd)
  unfold figureheadref05_Norm.f
  refine Ev.bind (StripD_ev (by omega) hd) ?_
  by_cases h0 : vB s = 0
  · simp only [digB_toList_nil.2 h0, if_true]
    rw [h0]
    exact Ev.now _
  · have h3 : ¬ (digB (vB s)).toList = ([] : List UInt8) := fun hh => h0 (digB_toList_nil.1 hh)
    simp only [h3, if_false]
    exact Norm05_loop b b s e (vB s + 1) (vB s) e h0 (by omega) (by omega) (by omega) (by omega)
theorem Norm05_ev {b : Bool} {s : ByteArray} {e : Int} (h : OkD s e) : Ev (fun k => figureheadref05_Norm.f k b s e) (b, nD (vB s), nE (vB s) e) := by
  have h1 := h.sz
  have h2 := h.lo
  have h3 := h.hi
  exact Norm05_any h.d (by omega) (by omega) (by omega)
end Go.Proofs.YtjpokifkbclkiaaDoor.Px
end
section
namespace Go.Proofs.YtjpokifkbclkiaaDoor.Px
open Fig Go.RowKit Go.Proofs.YtjpokifkbclkiaaDoorW.PrintWords Go.Proofs.YtjpokifkbclkiaaDoorW.PrintLast Go.Proofs.YtjpokifkbclkiaaDoorW.PrintMore
attribute [local go_sem] max2_int min2_int max_two min_two max_three min_three max_four min_four   -- for this text's walks alone
attribute [local go_sem] fieldA23_0 fieldA23_1 fieldA23_2
theorem Zeros_loop (m : Nat) (hm : m ≤ 1000000) : ∀ (d n : Nat), m - n = d → n ≤ m → Ev (fun k => figureheadref01_Zeros.l0 k (m : Int) (List.replicate n 48) (n : Int)) (strOfNums (List.replicate m 48))
  | 0, n, hd, hn => by
    obtain rfl : n = m := by omega
    refine evDone (r' := strOfNums (List.replicate n 48)) (fun k => ?_) rfl
    simp only [figureheadref01_Zeros.l0]; rw [if_neg (by omega)]
  | d + 1, n, hd, hn => by
    refine Ev.step (f := fun k => figureheadref01_Zeros.l0 k (m : Int) (List.replicate (n + 1) 48) ((n + 1 : Nat) : Int)) (fun k => ?_) (Zeros_loop m hm d (n + 1) (by omega) (by omega))
    simp only [figureheadref01_Zeros.l0]
    rw [if_pos (by omega), if_pos (by rw [List.length_replicate]; omega), List.replicate_succ', w64 (by omega) (by omega)]; rfl
def zerosB (m : Nat) : ByteArray := strOfNums (List.replicate m 48)
theorem Zeros_ev {m : Nat} (hm : m ≤ 1000000) : Ev (fun k => figureheadref01_Zeros.f k (m : Int)) (zerosB m) := Zeros_loop m hm m 0 (by omega) (by omega)
theorem zerosB_list (m : Nat) : (zerosB m).data.toList = List.replicate m 48 := by rw [zerosB, B_nums, List.map_replicate]; rfl
theorem zerosB_size (m : Nat) : (zerosB m).size = m := by rw [size_eq, zerosB_list, List.length_replicate]
end Go.Proofs.YtjpokifkbclkiaaDoor.Px
end
section
namespace Go.Proofs.YtjpokifkbclkiaaDoor.Px
open Fig Go.RowKit Go.Proofs.YtjpokifkbclkiaaDoorW.PrintWords Go.Proofs.YtjpokifkbclkiaaDoorW.PrintLast Go.Proofs.YtjpokifkbclkiaaDoorW.PrintMore
attribute [local go_sem] max2_int min2_int max_two min_two max_three min_three max_four min_four   -- for this text's walks alone
attribute [local go_sem] fieldA23_0 fieldA23_1 fieldA23_2
theorem Less_eq (m n : Nat) : figureheadref01_Less.f (digB m) (digB n) = some (decide (m < n)) := by
  unfold figureheadref01_Less.f
  rw [digB_size, digB_size]
  by_cases h : (digs m).length = (digs n).length
  · rw [if_pos (by omega)]
    rw [ByteArray.toList_eq, ByteArray.toList_eq, digB_list, digB_list, less_same (digs_dig m) (digs_dig n) h, digs_val, digs_val]
  · rw [if_neg (by omega)]
    congr 1
    rw [decide_eq_decide]
    constructor
    · intro h1; exact digs_len_lt (by omega)
    · intro h1
      rcases Nat.lt_or_ge (digs m).length (digs n).length with h2 | h2
      · omega
      · have := digs_len_lt (m := n) (n := m) (by omega); omega
end Go.Proofs.YtjpokifkbclkiaaDoor.Px
end
section
namespace Go.Proofs.YtjpokifkbclkiaaDoor.Px
open Fig Go.RowKit Go.Proofs.YtjpokifkbclkiaaDoorW.PrintWords Go.Proofs.YtjpokifkbclkiaaDoorW.PrintLast Go.Proofs.YtjpokifkbclkiaaDoorW.PrintMore
attribute [local go_sem] max2_int min2_int max_two min_two max_three min_three max_four min_four   -- for this text's walks alone
attribute [local go_sem] fieldA23_0 fieldA23_1 fieldA23_2
theorem sub_step (p q c : Nat) (hp : p ≤ 9) (hq : q ≤ 9) (hc : c ≤ 1) : wrap64 (wrap64 ((p : Int) - (q : Int)) - (c : Int)) = (p : Int) - (q : Int) - (c : Int) := by
  rw [w64 (x := (p : Int) - (q : Int)) (by omega) (by omega), w64 (by omega) (by omega)]
theorem sub_neg (p q c : Nat) (hp : p ≤ 9) (hq : q ≤ 9) (hc : c ≤ 1) (h : p < q + c) : (wrap64 (48 + wrap64 ((p : Int) - (q : Int) - (c : Int) + 10))) % 256 = ((48 + (p + 10 - q - c) : Nat) : Int) := by
  rw [w64 (x := (p : Int) - (q : Int) - (c : Int) + 10) (by omega) (by omega), w64 (by omega) (by omega)]; omega
theorem sub_pos (p q c : Nat) (hp : p ≤ 9) (hq : q ≤ 9) (hc : c ≤ 1) (h : q + c ≤ p) : (wrap64 (48 + ((p : Int) - (q : Int) - (c : Int)))) % 256 = ((48 + (p - q - c) : Nat) : Int) := by
  rw [w64 (by omega) (by omega)]; omega
theorem Minus_loop (a b : ByteArray) (ha : dB a = true) (hb : dB b = true) (la : a.size ≤ 100000000000) (lb : b.size ≤ 100000000000) : ∀ (d k : Nat) (x : List Int) (c : Nat), a.size - k = d → k ≤ a.size → c ≤ 1 → x.length = k → digL (ob x) = true → c + rv ((rs b).drop k) ≤ rv ((rs a).drop k) →
    Ev (fun j => figureheadref01_Minus.l0 j a b x (c : Int) (k : Int)) (digB (rv (ob x) + 10 ^ k * (rv ((rs a).drop k) - rv ((rs b).drop k) - c)))
  | 0, k, x, c, h1, h2, hc, hx, hd, hle => by
    refine evIs (Ev.step (fun j => ?_) (turnedStrip_ev (l := x) (by omega) hd)) ?_
    · simp only [figureheadref01_Minus.l0]; rw [if_neg (by omega)]
    · rw [rv_rest_end (s := a) (by omega)]; simp
  | d + 1, k, x, c, h1, h2, hc, hx, hd, hle => by
    have da := dg_le ha k
    have db := dg_le hb k
    rw [rv_rest a k, rv_rest b k] at hle ⊢
    by_cases hneg : dg a k < dg b k + c
    · obtain ⟨o1, o2⟩ := ob_snoc x (c := dg a k + 10 - dg b k - c) (by omega) hd
      refine Ev.step (f := fun j => figureheadref01_Minus.l0 j a b (x ++ [((48 + (dg a k + 10 - dg b k - c) : Nat) : Int)]) ((1 : Nat) : Int) ((k + 1 : Nat) : Int)) (fun j => ?_) ?_
      · simp only [figureheadref01_Minus.l0]
        rw [if_pos (by omega), digit_eq ha (by omega) (by omega), digit_eq hb (by omega) (by omega)]
        simp only [Option.bind_some]
        rw [sub_step _ _ _ da db hc, if_pos (by omega), if_pos (by omega), sub_neg _ _ _ da db hc hneg, w64 (by omega) (by omega)]; rfl
      · refine evIs (Minus_loop a b ha hb la lb d (k + 1) _ 1 (by omega) (by omega) (by omega) (by simp [hx]) o1 (by omega)) ?_
        rw [o2, hx, Nat.pow_succ, Nat.mul_assoc, Nat.add_assoc, ← Nat.mul_add]
        congr 2; congr 1; omega
    · obtain ⟨o1, o2⟩ := ob_snoc x (c := dg a k - dg b k - c) (by omega) hd
      refine Ev.step (f := fun j => figureheadref01_Minus.l0 j a b (x ++ [((48 + (dg a k - dg b k - c) : Nat) : Int)]) ((0 : Nat) : Int) ((k + 1 : Nat) : Int)) (fun j => ?_) ?_
      · simp only [figureheadref01_Minus.l0]
        rw [if_pos (by omega), digit_eq ha (by omega) (by omega), digit_eq hb (by omega) (by omega)]
        simp only [Option.bind_some]
        rw [sub_step _ _ _ da db hc, if_neg (by omega), if_pos (by omega), sub_pos _ _ _ da db hc (by omega), w64 (by omega) (by omega)]; rfl
      · refine evIs (Minus_loop a b ha hb la lb d (k + 1) _ 0 (by omega) (by omega) (by omega) (by simp [hx]) o1 (by omega)) ?_
        rw [o2, hx, Nat.pow_succ, Nat.mul_assoc, Nat.add_assoc, ← Nat.mul_add]
        congr 2; congr 1; omega
theorem Minus_ev {a b : ByteArray} (ha : dB a = true) (hb : dB b = true) (la : a.size ≤ 100000000000) (lb : b.size ≤ 100000000000) (hle : vB b ≤ vB a) : Ev (fun k => figureheadref01_Minus.f k a b) (digB (vB a - vB b)) := by
  refine evIs (Minus_loop a b ha hb la lb a.size 0 [] 0 (by omega) (by omega) (by omega) rfl rfl (by simpa [rs, vB] using hle)) ?_
  simp [ob, rv, vB, rs]
end Go.Proofs.YtjpokifkbclkiaaDoor.Px
end
section
namespace Go.Proofs.YtjpokifkbclkiaaDoor.Px
open Fig Go.RowKit Go.Proofs.YtjpokifkbclkiaaDoorW.PrintWords Go.Proofs.YtjpokifkbclkiaaDoorW.PrintLast Go.Proofs.YtjpokifkbclkiaaDoorW.PrintMore
attribute [local go_sem] max2_int min2_int max_two min_two max_three min_three max_four min_four   -- for this text's walks alone
attribute [local go_sem] fieldA23_0 fieldA23_1 fieldA23_2
theorem code_one (j : Nat) (h : j ≤ 9) : (wrap64 (48 + (j : Int))) % 256 = ((48 + j : Nat) : Int) := by rw [w64 (by omega) (by omega)]; omega
theorem one_code {c : Nat} (h : c ≤ 9) : dB (strOfNums [((48 + c : Nat) : Int)]) = true ∧ vB (strOfNums [((48 + c : Nat) : Int)]) = c ∧ (strOfNums [((48 + c : Nat) : Int)]).size = 1 := by
  have e2 : (UInt8.ofNat (48 + c)).toNat = 48 + c := by rw [UInt8.toNat_ofNat']; omega
  refine ⟨?_, ?_, ?_⟩
  · unfold dB; rw [B_nums]; simp only [List.map_cons, List.map_nil, Int.toNat_natCast]; rw [digL_cons, isD_iff, e2]; exact ⟨by omega, rfl⟩
  · unfold vB; rw [B_nums]; simp only [List.map_cons, List.map_nil, Int.toNat_natCast, List.reverse_singleton, rv, e2]; omega
  · rw [strOfNums_size]; rfl
theorem Over_in (a : ByteArray) (n : Nat) (hn : 0 < n) (ln : (digB n).size ≤ 1000000) (q : ByteArray) (hq : q.size ≤ 1000000000000) (i : Nat) (hi : i < 1000000000000) (t : Nat) (ht : t < 10 * n) (r : ByteArray × ByteArray) : ∀ (d j : Nat), t / n - j = d → j ≤ t / n →
    Ev (fun k => figureheadref01_Over.l0 k a (digB n) (q ++ strOfNums [((48 + t / n : Nat) : Int)]) (digB (t % n)) ((i + 1 : Nat) : Int)) r → Ev (fun k => figureheadref01_Over.l1 k a (digB n) q (digB (t - j * n)) (i : Int) (j : Int)) r
  | 0, j, h1, h2, h => by
    have hj : j = t / n := by omega
    have hq9 : t / n ≤ 9 := by have : t / n < 10 := by rw [Nat.div_lt_iff_lt_mul hn]; exact ht
                               omega
    have e : t - j * n = t % n := by
      have := Nat.div_add_mod t n
      rw [← hj, Nat.mul_comm] at this; omega
    rw [e]
    refine Ev.step (fun k => ?_) h
    have hm := Nat.mod_lt t hn
    obtain ⟨c1, c2, c3⟩ := one_code hq9
    simp only [figureheadref01_Over.l1, Less_eq, hm, decide_true, Option.bind_some, if_true]
    rw [hj, code_one _ hq9, if_pos (by omega), succ64 _ (by omega)]
  | d + 1, j, h1, h2, h => by
    have hjn : j * n + n ≤ t := by
      have h3 : (j + 1) * n ≤ t / n * n := Nat.mul_le_mul_right _ (by omega)
      have := Nat.div_mul_le_self t n
      rw [Nat.add_mul] at h3; omega
    have hnl : ¬ t - j * n < n := by omega
    have lz : (digB (t - j * n)).size ≤ 1000001 := digB_ten ln (by omega)
    have hj9 : j ≤ 9 := by have : t / n < 10 := by rw [Nat.div_lt_iff_lt_mul hn]; exact ht
                           omega
    refine Ev.step (f := fun k => (figureheadref01_Minus.f k (digB (t - j * n)) (digB n)).bind fun t2 => figureheadref01_Over.l1 k a (digB n) q t2 (i : Int) ((j + 1 : Nat) : Int)) (fun k => ?_) (Ev.bind (Minus_ev (dB_digB _) (dB_digB _) (by omega) (by omega) (by rw [vB_digB, vB_digB]; omega)) ?_)
    · simp only [figureheadref01_Over.l1, Less_eq, hnl, decide_false, Option.bind_some, Bool.false_eq_true, if_false]
      rw [succ64 _ (by omega)]
    · rw [vB_digB, vB_digB, Nat.sub_sub, show j * n + n = (j + 1) * n by rw [Nat.add_mul]; omega]
      exact Over_in a n hn ln q hq i hi t ht r d (j + 1) (by omega) (by omega) h
theorem Over_loop (a : ByteArray) (ha : dB a = true) (la : a.size ≤ 1000000) (n : Nat) (hn : 0 < n) (ln : (digB n).size ≤ 1000000) : ∀ (d i : Nat) (q : ByteArray) (m : Nat), a.size - i = d → i ≤ a.size → dB q = true → q.size = i → m < n → vB q * n + m = vB (a.extract 0 i) →
    Ev (fun k => figureheadref01_Over.l0 k a (digB n) q (digB m) (i : Int)) (digB (vB a / n), digB (vB a % n))
  | 0, i, q, m, h1, h2, hq, zq, hm, hv => by
    have e0 : a.extract 0 i = a := by apply B_ext; rw [B_to, List.take_of_length_le (by rw [← size_eq]; omega)]
    rw [e0] at hv
    have e1 : vB q = vB a / n := by rw [← hv, Nat.mul_comm, Nat.mul_add_div hn, Nat.div_eq_of_lt hm]; rfl
    have e2 : m = vB a % n := by rw [← hv, Nat.mul_comm, Nat.mul_add_mod, Nat.mod_eq_of_lt hm]
    rw [← e1, ← e2]
    refine Ev.step (f := fun k => (figureheadref01_Strip.f k q).bind fun t => some (t, digB m)) (fun k => ?_) (Ev.bind (StripD_ev (by omega) hq) (Ev.now _))
    simp only [figureheadref01_Over.l0]; rw [if_neg (by omega)]
  | d + 1, i, q, m, h1, h2, hq, zq, hm, hv => by
    have hlt : i < a.size := by omega
    have hl : i < a.data.toList.length := by rw [← size_eq]; exact hlt
    have hdig := isD_iff.1 (digL_iff.1 ha _ (List.getElem_mem hl))
    have ec : (a.extract i (i + 1)).data.toList = [a.data.toList[i]] := by
      rw [B_extract, show i + 1 - i = 1 by omega, List.drop_eq_getElem_cons hl]; rfl
    have zc : (a.extract i (i + 1)).size = 1 := by rw [size_eq, ec]; rfl
    have dc : dB (a.extract i (i + 1)) = true := by unfold dB; rw [ec, digL_cons]; exact ⟨isD_iff.2 hdig, rfl⟩
    obtain ⟨c, hc⟩ : ∃ c, c = vB (a.extract i (i + 1)) := ⟨_, rfl⟩
    have hc9 : c ≤ 9 := by have := vB_lt dc; rw [zc, ← hc] at this; omega
    have hv2 : vB (a.extract 0 (i + 1)) = vB (a.extract 0 i) * 10 + c := by
      have : a.extract 0 (i + 1) = a.extract 0 i ++ a.extract i (i + 1) := by
        apply B_ext
        rw [B_append, B_to, B_to, ec, List.take_succ_eq_append_getElem hl]
      rw [this, vB_append, zc, ← hc, Nat.pow_one]
    have lm : (digB m).size ≤ 1000000 := digB_mono (by omega) ln
    have ht : m * 10 + c < 10 * n := by omega
    refine Ev.step (f := fun k => (figureheadref01_Strip.f k (digB m ++ a.extract i (i + 1))).bind fun t => figureheadref01_Over.l1 k a (digB n) q t (i : Int) ((0 : Nat) : Int)) (fun k => ?_) (Ev.bind (StripD_ev (by rw [ByteArray.size_append]; omega) (dB_append.2 ⟨dB_digB _, dc⟩)) ?_)
    · simp only [figureheadref01_Over.l0]
      rw [if_pos (by omega), if_pos (by omega), succ64 _ (by omega), if_pos (by omega), if_pos (by omega), Int.toNat_natCast, Int.toNat_natCast, if_pos (by omega)]; rfl
    · rw [vB_append, zc, vB_digB, Nat.pow_one, ← hc]
      have hq9 : (m * 10 + c) / n ≤ 9 := by have : (m * 10 + c) / n < 10 := by rw [Nat.div_lt_iff_lt_mul hn]; exact ht
                                            omega
      obtain ⟨c1, c2, c3⟩ := one_code hq9
      have := Over_in a n hn ln q (by omega) i (by omega) (m * 10 + c) ht _ _ 0 rfl (by omega) (Over_loop a ha la n hn ln d (i + 1) (q ++ strOfNums [((48 + (m * 10 + c) / n : Nat) : Int)]) ((m * 10 + c) % n) (by omega) (by omega) (dB_append.2 ⟨hq, c1⟩) (by rw [ByteArray.size_append]; omega) (Nat.mod_lt _ hn) ?_)
      · rwa [Nat.zero_mul, Nat.sub_zero] at this
      · rw [vB_append, c2, c3, hv2, ← hv, Nat.pow_one]
        have := Nat.div_add_mod (m * 10 + c) n
        rw [Nat.add_mul, Nat.mul_comm ((m * 10 + c) / n) n, Nat.add_mul, Nat.mul_right_comm (vB q) 10 n]; omega
theorem Over_ev {a : ByteArray} {n : Nat} (ha : dB a = true) (la : a.size ≤ 1000000) (hn : 0 < n) (ln : (digB n).size ≤ 1000000) : Ev (fun k => figureheadref01_Over.f k a (digB n)) (digB (vB a / n), digB (vB a % n)) := by
  have e0 : (⟨#[]⟩ : ByteArray) = digB 0 := digB_zero.symm
  have := Over_loop a ha la n hn ln a.size 0 (digB 0) 0 (by omega) (by omega) (dB_digB _) (by rw [digB_zero]; rfl) hn (by
    rw [vB_digB]
    have : (a.extract 0 0).data.toList = [] := by rw [B_to]; rfl
    unfold vB; rw [this]; simp [rv])
  unfold figureheadref01_Over.f
  rw [e0]; exact this
end Go.Proofs.YtjpokifkbclkiaaDoor.Px
end
section
namespace Go.Proofs.YtjpokifkbclkiaaDoor.Px
open Fig Go.RowKit Go.Proofs.YtjpokifkbclkiaaDoorW.PrintWords Go.Proofs.YtjpokifkbclkiaaDoorW.PrintLast Go.Proofs.YtjpokifkbclkiaaDoorW.PrintMore
attribute [local go_sem] max2_int min2_int max_two min_two max_three min_three max_four min_four   -- for this text's walks alone
attribute [local go_sem] fieldA23_0 fieldA23_1 fieldA23_2
theorem At05_ev {b : Bool} {s : ByteArray} {e x : Int} (h : OkD s e) (h1 : x ≤ e) (h2 : -100000 ≤ x) : Ev (fun k => figureheadref05_At.f k b s e x) (digB (atE (vB s) e x)) := by
  have hs := h.sz
  have hl := h.lo
  have hh := h.hi
  have hz := h.val
  unfold figureheadref05_At.f
  refine Ev.bind (StripD_ev (by omega) h.d) ?_
  by_cases h0 : vB s = 0
  · simp only [digB_toList_nil.2 h0, if_true]
    rw [h0, atE_zero, digB_zero]
    exact Ev.now _
  · have h3 : ¬ (digB (vB s)).toList = ([] : List UInt8) := fun hh => h0 (digB_toList_nil.1 hh)
    obtain ⟨m, hm⟩ : ∃ m : Nat, m = (e - x).toNat := ⟨_, rfl⟩
    have hw : wrap64 (e - x) = (m : Int) := by rw [w64 (by omega) (by omega)]; omega
    simp only [h3, if_false, hw]
    refine Ev.bind (Zeros_ev (by omega)) ?_
    have hc : (digB (vB s)).size + (zerosB m).size ≤ 9223372036854775807 := by rw [zerosB_size]; omega
    simp only [hc, if_true]
    refine evIs (Ev.now _) ?_
    apply B_ext
    rw [B_append, digB_list, digB_list, zerosB_list]
    unfold atE
    rw [digs_pow h0, ← hm]
end Go.Proofs.YtjpokifkbclkiaaDoor.Px
end
section
namespace Go.Proofs.YtjpokifkbclkiaaDoor.Px
open Fig Go.RowKit Go.Proofs.YtjpokifkbclkiaaDoorW.PrintWords Go.Proofs.YtjpokifkbclkiaaDoorW.PrintLast Go.Proofs.YtjpokifkbclkiaaDoorW.PrintMore
attribute [local go_sem] max2_int min2_int max_two min_two max_three min_three max_four min_four   -- for this text's walks alone
attribute [local go_sem] fieldA23_0 fieldA23_1 fieldA23_2
theorem Up_eq (m : Int) (neg odd : Bool) (half : Int) : figureheadref05_Up.f m neg odd half = some (awayB m neg odd half) := by
  unfold figureheadref05_Up.f awayB
  by_cases h0 : m = 0 <;> by_cases h1 : m = 1 <;> by_cases h2 : m = 2 <;> by_cases h3 : m = 3 <;> by_cases h4 : m = 4 <;> by_cases h5 : m = 5 <;> by_cases h6 : m = 6 <;> simp_all
  by_cases hp : 0 < half
  · simp [hp]
  · by_cases hz : half = 0 <;> simp [hp, hz]
end Go.Proofs.YtjpokifkbclkiaaDoor.Px
end
section
namespace Go.Proofs.YtjpokifkbclkiaaDoor.Px
open Fig Go.RowKit Go.Proofs.YtjpokifkbclkiaaDoorW.PrintWords Go.Proofs.YtjpokifkbclkiaaDoorW.PrintLast Go.Proofs.YtjpokifkbclkiaaDoorW.PrintMore
attribute [local go_sem] max2_int min2_int max_two min_two max_three min_three max_four min_four   -- for this text's walks alone
attribute [local go_sem] fieldA23_0 fieldA23_1 fieldA23_2
theorem vB_nought_append (s : ByteArray) : vB ((⟨#[48]⟩ : ByteArray) ++ s) = vB s := by
  rw [vB_append, show vB (⟨#[48]⟩ : ByteArray) = 0 from rfl, Nat.zero_mul, Nat.zero_add]
theorem Make_ev {b : Bool} {s : ByteArray} {e : Int} (hd : dB s = true) (hz : s.size ≤ 900000) (h1 : -1000000 ≤ e) (h2 : e ≤ 1000000) : Ev (fun k => figureheadref05_Make.f k b s e) (b, nD (vB s), nE (vB s) e) := by
  unfold figureheadref05_Make.f
  refine evT (by omega) ?_
  have hs : ((⟨#[48]⟩ : ByteArray) ++ s).size = 1 + s.size := by rw [ByteArray.size_append]; rfl
  have := Norm05_any (b := b) (s := (⟨#[48]⟩ : ByteArray) ++ s) (e := e) (dB_append.2 ⟨rfl, hd⟩) (by omega) h1 h2
  rw [vB_nought_append] at this
  exact Ev.bind this (Ev.now _)
theorem MakeD_ev {b : Bool} {n : Nat} {e : Int} (hz : (digB n).size ≤ 900000) (h1 : -1000000 ≤ e) (h2 : e ≤ 1000000) : Ev (fun k => figureheadref05_Make.f k b (digB n) e) (b, nD n, nE n e) := by
  have := Make_ev (b := b) (s := digB n) (e := e) (dB_digB n) hz h1 h2
  rwa [vB_digB] at this
end Go.Proofs.YtjpokifkbclkiaaDoor.Px
end
section
namespace Go.Proofs.YtjpokifkbclkiaaDoor.Px
open Fig Go.RowKit Go.Proofs.YtjpokifkbclkiaaDoorW.PrintWords Go.Proofs.YtjpokifkbclkiaaDoorW.PrintLast Go.Proofs.YtjpokifkbclkiaaDoorW.PrintMore
attribute [local go_sem] max2_int min2_int max_two min_two max_three min_three max_four min_four   -- for this text's walks alone
attribute [local go_sem] fieldA23_0 fieldA23_1 fieldA23_2
theorem digB_last_bt {n : Nat} (h : n ≠ 0) : bt (digB n) (((digB n).size : Int) - 1) = ((48 + n % 10 : Nat) : Int) := digB_bt h
theorem Round05_j3 {m : Int} {b : Bool} {s : ByteArray} {e E : Int} {B q : Nat} {half : Int} {odd : Bool} (hq : (digB q).size ≤ 100000) (hB : (digB B).size ≤ 100000) (h1 : -100000 ≤ E) (h2 : E ≤ 100000) : Ev (fun k => figureheadref05_Round.j3 k m E (digB B) (digB q) half odd b s e) (b, nD ((q + if upB m b odd half = true then 1 else 0) * B), nE ((q + if upB m b odd half = true then 1 else 0) * B) E, 0) := by
  have hu : figureheadref05_Up.f m b odd half = some (upB m b odd half) := (Up_eq m b odd half)
  refine Ev.step (fun k => by simp only [figureheadref05_Round.j3]; rfl) (evE hu ?_)
  cases upB m b odd half
  · refine evF (by decide) (Ev.bind (Times_ev (dB_digB _) (dB_digB _) (by omega) (by omega)) ?_)
    rw [vB_digB, vB_digB]
    have := digB_mul_le hq hB
    refine Ev.bind (MakeD_ev (by omega) (by omega) (by omega)) (evIs (Ev.now _) (by simp))
  · have d1 : dB (⟨#[49]⟩ : ByteArray) = true := by decide
    have v1 : vB (⟨#[49]⟩ : ByteArray) = 1 := by decide
    refine evT rfl (Ev.bind (Plus_ev (dB_digB q) d1 (by omega) (by decide)) ?_)
    rw [vB_digB, v1]
    have h3 := digB_add_le (m := q) (n := 1) (p := 100000) hq (by rw [digB_one_size]; omega)
    refine Ev.bind (Times_ev (dB_digB _) (dB_digB _) (by omega) (by omega)) ?_
    rw [vB_digB, vB_digB]
    have := digB_mul_le h3 hB
    refine Ev.bind (MakeD_ev (by omega) (by omega) (by omega)) (evIs (Ev.now _) (by simp))
theorem Round05_j2 {m : Int} {b : Bool} {s : ByteArray} {e E : Int} {B q : Nat} {half : Int} (hq : (digB q).size ≤ 100000) (hB : (digB B).size ≤ 100000) (h1 : -100000 ≤ E) (h2 : E ≤ 100000) : Ev (fun k => figureheadref05_Round.j2 k m E (digB B) (digB q) half b s e) (b, nD ((q + if upB m b (q % 2 == 1) half = true then 1 else 0) * B), nE ((q + if upB m b (q % 2 == 1) half = true then 1 else 0) * B) E, 0) := by
  by_cases h0 : q = 0
  · subst h0
    refine Ev.step (f := fun k => figureheadref05_Round.j3 k m E (digB B) (digB 0) half false b s e) (fun k => ?_) (Round05_j3 hq hB h1 h2)
    simp only [figureheadref05_Round.j2]
    rw [if_neg (by rw [digB_empty_iff.2 rfl]; decide)]
  · have hs := digB_ten_size h0
    refine Ev.step (f := fun k => figureheadref05_Round.j3 k m E (digB B) (digB q) half (q % 2 == 1) b s e) (fun k => ?_) (Round05_j3 hq hB h1 h2)
    simp only [figureheadref05_Round.j2]
    rw [if_pos (by omega), w64 (x := ((digB q).size : Int) - 1) (by omega) (by omega), if_pos (by omega), if_pos (by omega), digB_last_bt h0]
    congr 1
    rw [Bool.eq_iff_iff, beq_iff_eq, beq_iff_eq]; omega
theorem Round05_j1 {m : Int} {b : Bool} {s : ByteArray} {e E : Int} {B q t : Nat} {x : Int} (hx : x = if t < B then -1 else 0) (hq : (digB q).size ≤ 100000) (hB : (digB B).size ≤ 100000) (h1 : -100000 ≤ E) (h2 : E ≤ 100000) : Ev (fun k => figureheadref05_Round.j1 k m E (digB B) (digB q) (digB t) x b s e) (b, nD ((q + if upB m b (q % 2 == 1) (cmpN t B) = true then 1 else 0) * B), nE ((q + if upB m b (q % 2 == 1) (cmpN t B) = true then 1 else 0) * B) E, 0) := by
  refine Ev.step (fun k => by simp only [figureheadref05_Round.j1]; rfl) (evE (Less_eq B t) ?_)
  by_cases hl : B < t
  · have hc : cmpN t B = 1 := by unfold cmpN; rw [if_neg (by omega), if_pos hl]
    rw [hc]
    exact evT (decide_eq_true hl) (Round05_j2 hq hB h1 h2)
  · have hc : cmpN t B = x := by unfold cmpN; rw [hx]; split <;> simp [hl]
    rw [hc]
    exact evF (by simpa using hl) (Round05_j2 hq hB h1 h2)
theorem Round05_j0 {m : Int} {b : Bool} {s st : ByteArray} {e p E : Int} (h : OkS s e) (hd : dB st = true) (hs0 : vB st ≠ 0) (hsz : st.size ≤ 10000) (h1 : -10000 ≤ p) (h2 : p ≤ 10000) (hE : E = min e p) : Ev (fun k => figureheadref05_Round.j0 k m st p E b s e) (roundD m b (vB s) e (vB st) p) := by
  have hv := h.ok.val
  have hz := h.sz
  have hlo := h.lo
  have hhi := h.hi
  have hst := digs_size_lt (vB_lt hd)
  obtain ⟨u, hu⟩ : ∃ u : Nat, u = (p - E).toNat := ⟨_, rfl⟩
  have hw : wrap64 (p - E) = (u : Int) := by rw [w64 (by omega) (by omega)]; omega
  have hB : digB (vB st) ++ zerosB u = digB (atE (vB st) p E) := by
    apply B_ext
    rw [B_append, digB_list, digB_list, zerosB_list]
    unfold atE
    rw [digs_pow hs0, ← hu]
  have zB : (digB (atE (vB st) p E)).size ≤ 40000 := by
    unfold atE; rw [digB_len_pow hs0]; omega
  have zN := size_vZ b (n := vB s) (p := 10000) e E (by omega)
  rw [vZ_natAbs] at zN
  have hB0 := atE_pos hs0 p E
  refine Ev.step (fun k => by simp only [figureheadref05_Round.j0]; rfl) ?_
  refine Ev.bind (StripD_ev (by omega) hd) ?_
  rw [hw]
  refine Ev.bind (Zeros_ev (by omega)) (evT (by rw [zerosB_size]; omega) ?_)
  rw [hB]
  refine Ev.bind (At05_ev h.ok (by omega) (by omega)) (Ev.bind (Over_ev (dB_digB _) (by omega) hB0 (by omega)) ?_)
  rw [vB_digB]
  obtain ⟨N, hN⟩ : ∃ N, N = atE (vB s) e E := ⟨_, rfl⟩
  obtain ⟨B, hBB⟩ : ∃ B, B = atE (vB st) p E := ⟨_, rfl⟩
  rw [← hN, ← hBB]
  rw [← hN] at zN
  rw [← hBB] at zB hB0
  dsimp only
  have zN2 : (digB N).size ≤ 30000 := by omega
  have zr := digB_mono (Nat.mod_le N B) zN2
  have zq := digB_mono (Nat.div_le_self N B) zN2
  by_cases hf : N % B = 0
  · have hf2 : atE (vB s) e (min e p) % atE (vB st) p (min e p) = 0 := by rw [← hE, ← hN, ← hBB]; exact hf
    rw [roundD_fit hf2]
    exact evT (digB_toList_nil.2 hf) (Ev.bind (Norm05_ev h.ok) (Ev.now _))
  have hf2 : ¬ atE (vB s) e (min e p) % atE (vB st) p (min e p) = 0 := by rw [← hE, ← hN, ← hBB]; exact hf
  refine evF (fun hh => hf (digB_toList_nil.1 hh)) ?_
  by_cases h7 : m = 7
  · subst h7
    rw [roundD_exact hf2]
    exact evT rfl (Ev.now _)
  refine evF h7 (Ev.bind (Plus_ev (dB_digB _) (dB_digB _) (by omega) (by omega)) ?_)
  rw [vB_digB]
  have hres : roundD m b (vB s) e (vB st) p = (b, nD ((N / B + if upB m b (N / B % 2 == 1) (cmpN (N % B + N % B) B) = true then 1 else 0) * B), nE ((N / B + if upB m b (N / B % 2 == 1) (cmpN (N % B + N % B) B) = true then 1 else 0) * B) E, 0) := by
    rw [roundD_ok h7, ← hE]
    unfold rv0
    rw [← hN, ← hBB]
    have hq : rq m b N B = N / B + if upB m b (N / B % 2 == 1) (cmpN (N % B + N % B) B) = true then 1 else 0 := by
      unfold rq; simp only [ne_eq, hf, not_false_eq_true, true_and]
    rw [hq]
  rw [hres]
  refine evE (Less_eq _ _) ?_
  by_cases hl : N % B + N % B < B
  · exact evT (decide_eq_true hl) (Round05_j1 (by rw [if_pos hl]) (by omega) (by omega) (by omega) (by omega))
  · exact evF (by simpa using hl) (Round05_j1 (by rw [if_neg hl]) (by omega) (by omega) (by omega) (by omega))
theorem Round05_ev {m : Int} {b : Bool} {s st : ByteArray} {e p : Int} (h : OkS s e) (hd : dB st = true) (hs0 : vB st ≠ 0) (hsz : st.size ≤ 10000) (h1 : -10000 ≤ p) (h2 : p ≤ 10000) : Ev (fun k => figureheadref05_Round.f k m b s e st p) (roundD m b (vB s) e (vB st) p) := by
  unfold figureheadref05_Round.f
  by_cases hc : p < e
  · exact evT hc (Round05_j0 h hd hs0 hsz h1 h2 (by omega))
  · exact evF hc (Round05_j0 h hd hs0 hsz h1 h2 (by omega))
end Go.Proofs.YtjpokifkbclkiaaDoor.Px
end
section
namespace Go.Proofs.YtjpokifkbclkiaaDoor.Px
open Fig Go.RowKit Go.Proofs.YtjpokifkbclkiaaDoorW.PrintWords Go.Proofs.YtjpokifkbclkiaaDoorW.PrintLast Go.Proofs.YtjpokifkbclkiaaDoorW.PrintMore
attribute [local go_sem] max2_int min2_int max_two min_two max_three min_three max_four min_four   -- for this text's walks alone
attribute [local go_sem] fieldA23_0 fieldA23_1 fieldA23_2
theorem Digits_loop (s : ByteArray) (hs : s.size ≤ 4611686018427387904) : ∀ (d n : Nat), s.size - n = d → n ≤ s.size → Ev (fun k => figureheadref05_Digits.l0 k s (n : Int)) (digL (s.data.toList.drop n) && decide (s.size ≠ 0))
  | 0, n, hd, hn => by
    refine evDone (r' := (s.toList != ([] : List UInt8))) (fun k => ?_) ?_
    · simp only [figureheadref05_Digits.l0]; rw [if_neg (by omega)]
    · rw [List.drop_of_length_le (by rw [← size_eq]; omega), bne_nil, ByteArray.toList_eq, size_eq]
      cases s.data.toList <;> simp [digL]
  | d + 1, n, hd, hn => by
    have hlt : n < s.size := by omega
    have hbt := bt_get hlt
    have hc := List.drop_eq_getElem_cons (l := s.data.toList) (i := n) (by rw [← size_eq]; exact hlt)
    rw [hc]
    generalize hx : s.data.toList[n]'(by rw [← size_eq]; exact hlt) = c at hbt
    by_cases h1 : c.toNat < 48
    · refine evDone (r' := false) (fun k => ?_) ?_
      · simp only [figureheadref05_Digits.l0]; rw [if_pos (by omega), if_pos (by omega), hbt, if_pos (by omega)]
      · have : isD c = false := by unfold isD; simp; omega
        simp [digL, this]
    · by_cases h2 : c.toNat > 57
      · refine evDone (r' := false) (fun k => ?_) ?_
        · simp only [figureheadref05_Digits.l0]; rw [if_pos (by omega), if_pos (by omega), hbt, if_neg (by omega), if_pos (by omega)]
        · have : isD c = false := by unfold isD; simp; omega
          simp [digL, this]
      · have hd1 : isD c = true := isD_iff.2 ⟨by omega, by omega⟩
        refine evIs (Ev.step (f := fun k => figureheadref05_Digits.l0 k s ((n + 1 : Nat) : Int)) (fun k => ?_) (Digits_loop s hs d (n + 1) (by omega) (by omega))) ?_
        · simp only [figureheadref05_Digits.l0]; rw [if_pos (by omega), if_pos (by omega), hbt, if_neg (by omega), if_neg (by omega), succ64 _ (by omega)]
        · simp [digL, hd1]
theorem Digits05_ev {s : ByteArray} (hs : s.size ≤ 4611686018427387904) : Ev (fun k => figureheadref05_Digits.f k s) (dB s && decide (s.size ≠ 0)) := by
  have := Digits_loop s hs s.size 0 (by omega) (by omega)
  rw [List.drop_zero] at this
  exact this
end Go.Proofs.YtjpokifkbclkiaaDoor.Px
end
section
namespace Go.Proofs.YtjpokifkbclkiaaDoor.Px
open Fig Go.RowKit Go.Proofs.YtjpokifkbclkiaaDoorW.PrintWords Go.Proofs.YtjpokifkbclkiaaDoorW.PrintLast Go.Proofs.YtjpokifkbclkiaaDoorW.PrintMore
attribute [local go_sem] max2_int min2_int max_two min_two max_three min_three max_four min_four   -- for this text's walks alone
attribute [local go_sem] fieldA23_0 fieldA23_1 fieldA23_2
theorem Good05_ev {b : Bool} {s : ByteArray} {e : Int} (hs : s.size ≤ 4611686018427387904) : Ev (fun k => figureheadref05_Good.f k b s e) (goodD s e) := by
  unfold figureheadref05_Good.f
  refine Ev.bind (Digits05_ev hs) ?_
  unfold goodD
  cases hd : (dB s && decide (s.size ≠ 0))
  · simp only [Bool.false_eq_true, if_false, Bool.false_and]
    exact Ev.now _
  · simp only [if_true, Bool.true_and]
    by_cases h1 : s.size ≤ 1000
    · have h1' : (s.size : Int) ≤ 1000 := by omega
      simp only [h1', h1, if_true, decide_true, Bool.true_and]
      by_cases h2 : e ≥ -1000
      · have h2' : -1000 ≤ e := h2
        simp only [h2, h2', if_true, decide_true, Bool.true_and]
        exact Ev.now _
      · have h2' : ¬ -1000 ≤ e := h2
        simp only [h2, h2', if_false, decide_false, Bool.false_and]
        exact Ev.now _
    · have h1' : ¬ (s.size : Int) ≤ 1000 := by omega
      simp only [h1', h1, if_false, decide_false, Bool.false_and]
      exact Ev.now _
end Go.Proofs.YtjpokifkbclkiaaDoor.Px
end
section
namespace Go.Proofs.YtjpokifkbclkiaaDoor.Px
open Fig Go.RowKit Go.Proofs.YtjpokifkbclkiaaDoorW.PrintWords Go.Proofs.YtjpokifkbclkiaaDoorW.PrintLast Go.Proofs.YtjpokifkbclkiaaDoorW.PrintMore
attribute [local go_sem] max2_int min2_int max_two min_two max_three min_three max_four min_four   -- for this text's walks alone
attribute [local go_sem] fieldA23_0 fieldA23_1 fieldA23_2
def goodP9 (s : ByteArray) (e : Int) : Bool := goodD s e && decide (s.size ≤ 100) && decide (-300 ≤ e) && decide (e ≤ 300)
theorem goodP9_iff {s : ByteArray} {e : Int} : goodP9 s e = true ↔ goodD s e = true ∧ s.size ≤ 100 ∧ -300 ≤ e ∧ e ≤ 300 := by
  unfold goodP9; simp only [Bool.and_eq_true, decide_eq_true_eq, and_assoc]
theorem good09_ev {b : Bool} {s : ByteArray} {e : Int} (hs : s.size ≤ 4611686018427387904) : Ev (fun k => figureheadlaw09_good.f k b s e) (goodP9 s e) := by
  unfold figureheadlaw09_good.f
  refine Ev.bind (Good05_ev hs) ?_
  unfold goodP9
  cases goodD s e
  · exact evF (by decide) (evIs (Ev.now _) (by simp))
  refine evT rfl ?_
  by_cases h1 : s.size ≤ 100
  · refine evT (by omega) ?_
    by_cases h4 : e ≥ -300
    · have h4' : -300 ≤ e := h4
      exact evT h4 (evIs (Ev.now _) (by simp [h1, h4']))
    · have h4' : ¬ -300 ≤ e := h4
      exact evF h4 (evIs (Ev.now _) (by simp [h4']))
  · exact evF (by omega) (evIs (Ev.now _) (by simp [h1]))
theorem goodP9_ok {s : ByteArray} {e : Int} (h : goodP9 s e = true) : OkS s e ∧ (digB (vB s)).size ≤ 100 ∧ -300 ≤ e ∧ e ≤ 300 := by
  obtain ⟨a, b, f, g⟩ := goodP9_iff.1 h
  have ok := OkS.of_good a
  have := ok.ok.val
  exact ⟨ok, by omega, f, g⟩
theorem top9 {n : Nat} {e : Int} (h : (digB n).size ≤ 100) (h1 : -600 ≤ e) (h2 : e ≤ 600) : -600 ≤ topD n e ∧ topD n e ≤ 700 := by
  unfold topD
  split
  · omega
  · rename_i h0
    have : (digB n).size ≠ 0 := fun hh => h0 (digB_empty_iff.1 hh)
    omega
theorem roundD_code9 (m : Int) (b : Bool) (n : Nat) (e : Int) (st : Nat) (p : Int) : (roundD m b n e st p).2.2.2 = 0 ∨ roundD m b n e st p = (false, (⟨#[]⟩ : ByteArray), 0, 11) := by
  unfold roundD
  split
  · exact .inl rfl
  · split
    · exact .inr rfl
    · exact .inl rfl
theorem rv0_size9 {m : Int} {neg : Bool} {n x : Nat} {e p k : Int} (hn : (digB n).size ≤ x) (h1 : k ≤ e) (h2 : k ≤ p) : (digB (rv0 m neg n e 1 p k)).size ≤ max (x + (e - k).toNat) (1 + (p - k).toNat) + 1 := by
  have a := size_vZ neg (n := n) (p := x) e k hn
  have b := size_vZ neg (n := 1) (p := 1) p k (by rw [digB_one_size]; exact Nat.le_refl 1)
  rw [vZ_natAbs] at a b
  have hB := atE_pos (n := 1) (by decide) p k
  have h3 := (rq_near (m := m) (neg := neg) (N := atE n e k) hB).1
  refine digB_mono (n := atE n e k + atE 1 p k) (by unfold rv0; omega) ?_
  exact digB_add_le (digB_mono (Nat.le_refl _) (by omega)) (digB_mono (Nat.le_refl _) (by omega))
theorem rv0_ok9 {m : Int} {neg : Bool} {n : Nat} {e p k : Int} (hn : (digB n).size ≤ 100) (h1 : k ≤ e) (h2 : k ≤ p) (h3 : -2000 ≤ k) (h4 : k ≤ 2000) (h5 : e ≤ k + 2000) (h6 : p ≤ k + 2000) : OkS (nD (rv0 m neg n e 1 p k)) (nE (rv0 m neg n e 1 p k) k) := by
  have := rv0_size9 (m := m) (neg := neg) (x := 100) hn h1 h2
  exact OkS.norm (by omega) (by omega) (by omega)
theorem roundOk9 {m : Int} {b : Bool} {n : Nat} {e p : Int} (hn : (digB n).size ≤ 100) (h1 : -600 ≤ e) (h2 : e ≤ 600) (h3 : -1000 ≤ p) (h4 : p ≤ 1000) (hc : (roundD m b n e 1 p).2.2.2 = 0) : OkS (roundD m b n e 1 p).2.1 (roundD m b n e 1 p).2.2.1 := by
  by_cases hf : atE n e (min e p) % atE 1 p (min e p) = 0
  · rw [roundD_fit hf]; exact OkS.norm (by omega) (by omega) (by omega)
  · by_cases h7 : m = 7
    · subst h7; rw [roundD_exact hf] at hc; exact absurd hc (by decide)
    · rw [roundD_ok h7]; exact rv0_ok9 hn (by omega) (by omega) (by omega) (by omega) (by omega) (by omega)
theorem round_count {m : Int} {b : Bool} {n : Nat} {e : Int} {c : Nat} (hc : 1 ≤ c) (h0 : (roundD m b n e 1 (topD n e - (c : Int) + 1)).2.2.2 = 0) : ∃ v x, roundD m b n e 1 (topD n e - (c : Int) + 1) = (b, nD v, nE v x, 0) ∧ (nD v).size ≤ c := by
  obtain ⟨p, hp⟩ : ∃ p, p = topD n e - (c : Int) + 1 := ⟨_, rfl⟩
  rw [← hp] at h0 ⊢
  by_cases hf : atE n e (min e p) % atE 1 p (min e p) = 0
  · rw [roundD_fit hf]
    refine ⟨n, e, rfl, ?_⟩
    rcases (fit_one (by omega) (by omega)).1 hf with h | h
    · rw [h, nD_zero_size]; exact hc
    · by_cases hn : n = 0
      · rw [hn, nD_zero_size]; exact hc
      · exact (count_fit (e := e) hn).2 (by omega)
  · by_cases h7 : m = 7
    · subst h7; rw [roundD_exact hf] at h0; exact absurd h0 (by decide)
    · rw [roundD_ok h7]
      refine ⟨_, _, rfl, ?_⟩
      rw [hp]
      exact sig_count hc (by omega) (by omega)
end Go.Proofs.YtjpokifkbclkiaaDoor.Px
end
section
namespace Go.Proofs.YtjpokifkbclkiaaDoor.Px
open Fig Go.RowKit Go.Proofs.YtjpokifkbclkiaaDoorW.PrintWords Go.Proofs.YtjpokifkbclkiaaDoorW.PrintLast Go.Proofs.YtjpokifkbclkiaaDoorW.PrintMore
attribute [local go_sem] max2_int min2_int max_two min_two max_three min_three max_four min_four   -- for this text's walks alone
attribute [local go_sem] fieldA23_0 fieldA23_1 fieldA23_2
theorem modeP (m : Int) : mode_Good.f m = some (decide (0 ≤ m ∧ m < 8)) := by
  unfold mode_Good.f
  by_cases h : m ≥ 0
  · rw [if_pos h]; congr 1; rw [decide_eq_decide]; omega
  · rw [if_neg h]; congr 1; symm; rw [decide_eq_false_iff_not]; omega
end Go.Proofs.YtjpokifkbclkiaaDoor.Px
end
section
namespace Go.Proofs.YtjpokifkbclkiaaDoor.Px
open Fig Go.RowKit Go.Proofs.YtjpokifkbclkiaaDoorW.PrintWords Go.Proofs.YtjpokifkbclkiaaDoorW.PrintLast Go.Proofs.YtjpokifkbclkiaaDoorW.PrintMore
attribute [local go_sem] max2_int min2_int max_two min_two max_three min_three max_four min_four   -- for this text's walks alone
attribute [local go_sem] fieldA23_0 fieldA23_1 fieldA23_2
theorem numP {s : ByteArray} (h : dB s = true) (hne : s.size ≠ 0) (hs : s.size ≤ 140737488351232) : ten_Number.f s = some (limbs (vB s), true) := by
  unfold ten_Number.f; rw [if_pos hs, if_pos ⟨h, hne⟩]
end Go.Proofs.YtjpokifkbclkiaaDoor.Px
end
section
namespace Go.Proofs.YtjpokifkbclkiaaDoor.Px
open Fig Go.RowKit Go.Proofs.YtjpokifkbclkiaaDoorW.PrintWords Go.Proofs.YtjpokifkbclkiaaDoorW.PrintLast Go.Proofs.YtjpokifkbclkiaaDoorW.PrintMore
attribute [local go_sem] max2_int min2_int max_two min_two max_three min_three max_four min_four   -- for this text's walks alone
attribute [local go_sem] fieldA23_0 fieldA23_1 fieldA23_2
theorem coefP {b : Bool} {s : ByteArray} {e : Int} (h : OkD s e) : dec_Coef.f b s e = some (limbs (vB s)) := by
  have := h.sz
  unfold dec_Coef.f; rw [numP h.d h.ne (by omega)]; rfl
theorem coef_len {s : ByteArray} {e : Int} (h : OkD s e) : (limbs (vB s)).length ≤ 100000 := by
  have := limbs_len_digB (vB s)
  have := h.val
  have := h.sz
  omega
theorem shiftP {l : List Int} {n : Int} (g : goodL l = true) (hl : l.length ≤ 500000) (hn : n ≤ 1000000) : ten_Shift.f l n = some (limbs (valL l * 10 ^ n.toNat)) := by unfold ten_Shift.f; rw [if_pos ⟨g, hl, hn⟩]
end Go.Proofs.YtjpokifkbclkiaaDoor.Px
end
section
namespace Go.Proofs.YtjpokifkbclkiaaDoor.Px
open Fig Go.RowKit Go.Proofs.YtjpokifkbclkiaaDoorW.PrintWords Go.Proofs.YtjpokifkbclkiaaDoorW.PrintLast Go.Proofs.YtjpokifkbclkiaaDoorW.PrintMore
attribute [local go_sem] max2_int min2_int max_two min_two max_three min_three max_four min_four   -- for this text's walks alone
attribute [local go_sem] fieldA23_0 fieldA23_1 fieldA23_2
theorem cutP {b : Bool} {s : ByteArray} {e p : Int} (h : OkS s e) (h1 : -10000 ≤ p) (h2 : p ≤ 10000) : place_cut.f b s e p = some (limbs (vB s / 10 ^ (p - e).toNat), limbs (vB s % 10 ^ (p - e).toNat)) := by
  have hl := h.lo
  have hh := h.hi
  have hc := coef_len h.ok
  unfold place_cut.f
  rw [coefP h.ok]
  simp only [Option.bind_some]
  rw [w64 (x := p - e) (by omega) (by omega)]
  have : ten_Cut.f (limbs (vB s)) (p - e) = some (limbs (vB s / 10 ^ (p - e).toNat), limbs (vB s % 10 ^ (p - e).toNat)) := by
    unfold ten_Cut.f; rw [if_pos ⟨limbs_good _, by omega, by omega⟩, limbs_val]
  rw [this]; rfl
end Go.Proofs.YtjpokifkbclkiaaDoor.Px
end
section
namespace Go.Proofs.YtjpokifkbclkiaaDoor.Px
open Fig Go.RowKit Go.Proofs.YtjpokifkbclkiaaDoorW.PrintWords Go.Proofs.YtjpokifkbclkiaaDoorW.PrintLast Go.Proofs.YtjpokifkbclkiaaDoorW.PrintMore
attribute [local go_sem] max2_int min2_int max_two min_two max_three min_three max_four min_four   -- for this text's walks alone
attribute [local go_sem] fieldA23_0 fieldA23_1 fieldA23_2
theorem fitsP {b : Bool} {s : ByteArray} {e p : Int} (h : OkS s e) (h1 : -10000 ≤ p) (h2 : p ≤ 10000) : place_Fits.f b s e p = some (decide (atE (vB s) e (min e p) % atE 1 p (min e p) = 0)) := by
  unfold place_Fits.f
  by_cases hp : p ≤ e
  · rw [if_pos hp, show min e p = p by omega, atE_self, Nat.mod_one]; rfl
  · rw [if_neg hp, cutP h h1 h2]
    simp only [Option.bind_some, Option.some.injEq]
    rw [show min e p = e by omega, atE_self, show atE 1 p e = 10 ^ (p - e).toNat by unfold atE; rw [Nat.one_mul]]
    rw [Bool.eq_iff_iff, beq_iff_eq, decide_eq_true_eq]
    constructor
    · intro hh; exact limbs_nil_iff.1 (List.eq_nil_of_length_eq_zero (by omega))
    · intro hh; rw [hh, limbs_zero]; rfl
end Go.Proofs.YtjpokifkbclkiaaDoor.Px
end
section
namespace Go.Proofs.YtjpokifkbclkiaaDoor.Px
open Fig Go.RowKit Go.Proofs.YtjpokifkbclkiaaDoorW.PrintWords Go.Proofs.YtjpokifkbclkiaaDoorW.PrintLast Go.Proofs.YtjpokifkbclkiaaDoorW.PrintMore
attribute [local go_sem] max2_int min2_int max_two min_two max_three min_three max_four min_four   -- for this text's walks alone
attribute [local go_sem] fieldA23_0 fieldA23_1 fieldA23_2
theorem w_add (e : Int) (p : Nat) (h1 : -1000000 ≤ e) (h2 : e ≤ 1000000) (hp : p ≤ 1000000) : wrap64 (e + (p : Int)) = e + (p : Int) := w64 (by omega) (by omega)
theorem w_norm (e : Int) (p q : Nat) (h1 : -1000000 ≤ e) (h2 : e ≤ 1000000) (hp : p ≤ 1000000) (hq : q ≤ 1000000) : wrap64 (wrap64 (e + (p : Int)) - (q : Int)) = e + (p : Int) - (q : Int) := by rw [w_add e p h1 h2 hp, w64 (by omega) (by omega)]
theorem normP {b : Bool} {s : ByteArray} {e : Int} (h : OkD s e) : dec_Norm.f b s e = some (b, nD (vB s), nE (vB s) e) := by
  have hz := h.val
  have h1 := h.sz
  have h2 := h.lo
  have h3 := h.hi
  unfold dec_Norm.f
  rw [show strings_TrimLeft.f s (⟨#[48]⟩ : ByteArray) = some (digB (vB s)) by unfold strings_TrimLeft.f; rw [if_pos rfl, stripB_eq h.d]]
  simp only [Option.bind_some]
  by_cases h0 : vB s = 0
  · rw [if_pos (digB_toList_nil.2 h0), h0]; rfl
  · rw [if_neg (fun hh => h0 (digB_toList_nil.1 hh))]
    have hl := digB_len_core h0
    have ht : strings_TrimRight.f (digB (vB s)) (⟨#[48]⟩ : ByteArray) = some (digB (core (vB s))) := by
      unfold strings_TrimRight.f
      rw [if_pos ⟨rfl, by omega⟩]
      show some (⟨(Lib.trimRightB (digs (vB s)) 48).toArray⟩ : ByteArray) = _
      unfold Lib.trimRightB; rw [trimR_digs h0]; rfl
    rw [ht]
    simp only [Option.bind_some]
    rw [w_norm e _ _ (by omega) (by omega) (by omega) (by omega)]
    unfold nD nE
    rw [if_neg h0, if_neg h0, show e + ((digB (vB s)).size : Int) - ((digB (core (vB s))).size : Int) = e + (tz (vB s) : Int) by omega]
end Go.Proofs.YtjpokifkbclkiaaDoor.Px
end
section
namespace Go.Proofs.YtjpokifkbclkiaaDoor.Px
open Fig Go.RowKit Go.Proofs.YtjpokifkbclkiaaDoorW.PrintWords Go.Proofs.YtjpokifkbclkiaaDoorW.PrintLast Go.Proofs.YtjpokifkbclkiaaDoorW.PrintMore
attribute [local go_sem] max2_int min2_int max_two min_two max_three min_three max_four min_four   -- for this text's walks alone
attribute [local go_sem] fieldA23_0 fieldA23_1 fieldA23_2
theorem away_up (m : Int) (neg odd : Bool) (half : Int) : mode_Away.f m neg odd half = some (upB m neg odd half) := rfl
end Go.Proofs.YtjpokifkbclkiaaDoor.Px
end
section
namespace Go.Proofs.YtjpokifkbclkiaaDoor.Px
open Fig Go.RowKit Go.Proofs.YtjpokifkbclkiaaDoorW.PrintWords Go.Proofs.YtjpokifkbclkiaaDoorW.PrintLast Go.Proofs.YtjpokifkbclkiaaDoorW.PrintMore
attribute [local go_sem] max2_int min2_int max_two min_two max_three min_three max_four min_four   -- for this text's walks alone
attribute [local go_sem] fieldA23_0 fieldA23_1 fieldA23_2
theorem limbs_head {q : Nat} (h : q ≠ 0) : (limbs q).length > 0 ∧ rd (limbs q) 0 = ((q % 1000000000 : Nat) : Int) := by
  have hv := limbs_val q
  have hg := limbs_good q
  rcases hl : limbs q with _ | ⟨x, l⟩
  · exact absurd (limbs_nil_iff.1 hl) h
  · rw [hl] at hv hg
    obtain ⟨hx, _⟩ := goodL_cons.1 hg
    simp only [valL] at hv
    refine ⟨by simp, ?_⟩
    show x = _
    omega
theorem zeroB_okP (v : Nat) : dB (zeroB v) = true ∧ (zeroB v).size ≠ 0 ∧ vB (zeroB v) = v := by
  unfold zeroB
  by_cases h : v = 0
  · rw [if_pos h, h]; exact ⟨rfl, by decide, rfl⟩
  · rw [if_neg h]; exact ⟨dB_digB v, fun e => h (digB_empty_iff.1 e), vB_digB v⟩
theorem zeroB_sizeP {v k : Nat} (h : (digB v).size ≤ k) (hk : 1 ≤ k) : (zeroB v).size ≤ k := by
  unfold zeroB
  by_cases h0 : v = 0
  · rw [if_pos h0]; exact hk
  · rw [if_neg h0]; exact h
theorem digitsPP {v k : Nat} (h : (digB v).size ≤ k) (hk : k ≤ 1000000) : ten_Digits.f (limbs v) = some (zeroB v) := by
  have := limbs_len_digB v
  unfold ten_Digits.f; rw [if_pos ⟨limbs_good v, by omega⟩, limbs_val]
theorem Round_end {b : Bool} {v : Nat} {p : Int} (hz : (digB v).size ≤ 50000) (h1 : -100000 ≤ p) (h2 : p ≤ 100000) : ((ten_Digits.f (limbs v)).bind fun t => (dec_Norm.f b t p).bind fun u => some (u.1, u.2.1, u.2.2, (0 : Int))) = some (b, nD v, nE v p, 0) := by
  obtain ⟨d1, d2, d3⟩ := zeroB_okP v
  have d4 := zeroB_sizeP (k := 50000) hz (by decide)
  rw [digitsPP hz (by decide)]
  simp only [Option.bind_some]
  rw [normP ⟨d1, d2, by omega, h1, h2⟩, d3]; rfl
theorem add_one {q : Nat} (h : (digB q).size ≤ 1000000) : nat_Add.f (limbs q) ([1] : List Int) = some (limbs (q + 1)) := by
  have hl := limbs_len_digB q
  have h1 : ([1] : List Int).length ≤ 1000000000000 := by show 1 ≤ 1000000000000; omega
  have := addF_eq (limbs_good q) (b := [1]) (by decide) (by omega) h1
  rwa [limbs_val, show valL [1] = 1 from rfl] at this
theorem bind_of {α β : Type} {x : Option α} {f : α → Option β} {a : α} {r : Option β} (h : x = some a) (h2 : f a = r) : x.bind f = r := by subst h; exact h2
theorem placeRound_j0 {b : Bool} {s : ByteArray} {e p : Int} {q : Nat} {u : Bool} (hz : (digB q).size ≤ 40000) (h1 : -10000 ≤ p) (h2 : p ≤ 10000) : Ev (fun k => place_Round.j0 k p (limbs q) u b s e) (b, nD (q + if u = true then 1 else 0), nE (q + if u = true then 1 else 0) p, 0) := by
  cases u
  · refine evDone (r' := (b, nD q, nE q p, 0)) (fun k => ?_) (by simp)
    simp only [place_Round.j0, Bool.false_eq_true, if_false]
    exact Round_end (by omega) (by omega) (by omega)
  · have ha := add_one (q := q) (by omega)
    have hz2 := digB_add_le (m := q) (n := 1) (p := 40000) hz (by rw [digB_one_size]; omega)
    refine evDone (r' := (b, nD (q + 1), nE (q + 1) p, 0)) (fun k => ?_) (by simp)
    simp only [place_Round.j0, if_true]
    exact bind_of ha (Round_end (by omega) (by omega) (by omega))
theorem placeRound_ev {m : Int} {b : Bool} {s : ByteArray} {e p : Int} (hm : 0 ≤ m) (hm7 : m ≤ 7) (h : OkS s e) (h1 : -10000 ≤ p) (h2 : p ≤ 10000) : Ev (fun k => place_Round.f k m b s e p) (roundD m b (vB s) e 1 p) := by
  have hv := h.ok.val
  have hsz := h.sz
  have hlo := h.lo
  have hhi := h.hi
  unfold place_Round.f
  refine evE (modeP m) (evT (by simp; omega) (evE (fitsP h h1 h2) ?_))
  by_cases hf : atE (vB s) e (min e p) % atE 1 p (min e p) = 0
  · rw [roundD_fit hf]
    exact evT (decide_eq_true hf) (evE (normP h.ok) (Ev.now _))
  refine evF (by simpa using hf) ?_
  have hpe : e < p := by
    apply Classical.byContradiction; intro hn
    rw [show min e p = p by omega, atE_self, Nat.mod_one] at hf
    exact hf rfl
  by_cases h7 : m = 7
  · subst h7
    rw [roundD_exact hf]
    exact evT rfl (Ev.now _)
  refine evF h7 ?_
  have hme : min e p = e := by omega
  obtain ⟨B, hB⟩ : ∃ B, B = 10 ^ (p - e).toNat := ⟨_, rfl⟩
  have hB1 : atE 1 p e = B := by unfold atE; rw [Nat.one_mul, hB]
  rw [hme, atE_self, hB1] at hf
  have hB0 : 0 < B := by rw [hB]; exact pow10_pos _
  have hzB : (digB B).size ≤ 20001 := by rw [hB, digB_pow_size]; omega
  have zq := digB_mono (Nat.div_le_self (vB s) B) hv
  have zr := digB_mono (Nat.mod_le (vB s) B) hv
  have lq := limbs_len_digB (vB s / B)
  have lr := limbs_len_digB (vB s % B)
  have z2 := digB_add_le zr zr
  have l2 := limbs_len_digB (vB s % B + vB s % B)
  have lB := limbs_len_digB B
  have hcut := cutP (b := b) h h1 h2
  rw [← hB] at hcut
  refine evE hcut ?_
  have ha : nat_Add.f (limbs (vB s % B)) (limbs (vB s % B)) = some (limbs (vB s % B + vB s % B)) := by
    have := addF_eq (limbs_good (vB s % B)) (limbs_good (vB s % B)) (by omega) (by omega)
    rwa [limbs_val] at this
  have hs : ten_Shift.f ([1] : List Int) (wrap64 (p - e)) = some (limbs B) := by
    rw [w64 (x := p - e) (by omega) (by omega), shiftP (by decide) (by decide) (by omega), show valL [1] = 1 by decide, Nat.one_mul, hB]
  have hc : nat_Cmp.f (limbs (vB s % B + vB s % B)) (limbs B) = some (cmpN (vB s % B + vB s % B) B) := by
    have := cmpF_eq (limbs_good (vB s % B + vB s % B)) (limbs_good B) (by omega) (by omega)
    rwa [limbs_val, limbs_val] at this
  refine evE ha (evE hs (evE hc ?_))
  have hres : roundD m b (vB s) e 1 p = (b, nD (vB s / B + if upB m b (vB s / B % 2 == 1) (cmpN (vB s % B + vB s % B) B) = true then 1 else 0), nE (vB s / B + if upB m b (vB s / B % 2 == 1) (cmpN (vB s % B + vB s % B) B) = true then 1 else 0) p, 0) := by
    rw [roundD_at h7 b (vB s) e 1 p e (Int.le_refl e) (by omega)]
    unfold rv0
    rw [atE_self, hB1]
    have hq : rq m b (vB s) B = vB s / B + if upB m b (vB s / B % 2 == 1) (cmpN (vB s % B + vB s % B) B) = true then 1 else 0 := by
      unfold rq; simp only [ne_eq, hf, not_false_eq_true, true_and]
    rw [hq, hB, nD_pow, nE_pow, show e + ((p - e).toNat : Int) = p by omega]
  rw [hres]
  dsimp only
  by_cases hq0 : vB s / B = 0
  · refine evF (by rw [hq0, limbs_zero]; decide) (evE (away_up _ _ _ _) ?_)
    have : (vB s / B % 2 == 1) = false := by rw [hq0]; rfl
    rw [this]
    exact placeRound_j0 (by omega) h1 h2
  · obtain ⟨g1, g2⟩ := limbs_head hq0
    refine evT (by omega) (evT (by omega) ?_)
    have : (Int.tmod (rd (limbs (vB s / B)) 0) 2 == 1) = (vB s / B % 2 == 1) := by
      rw [g2, Int.tmod_eq_emod_of_nonneg (by omega), Bool.eq_iff_iff, beq_iff_eq, beq_iff_eq]; omega
    rw [this]
    refine evE (away_up _ _ _ _) ?_
    exact placeRound_j0 (by omega) h1 h2
end Go.Proofs.YtjpokifkbclkiaaDoor.Px
end
section
namespace Go.Proofs.YtjpokifkbclkiaaDoor.Px
open Fig Go.RowKit Go.Proofs.YtjpokifkbclkiaaDoorW.PrintWords Go.Proofs.YtjpokifkbclkiaaDoorW.PrintLast Go.Proofs.YtjpokifkbclkiaaDoorW.PrintMore
attribute [local go_sem] max2_int min2_int max_two min_two max_three min_three max_four min_four   -- for this text's walks alone
attribute [local go_sem] fieldA23_0 fieldA23_1 fieldA23_2
theorem nD_toList' (n : Nat) : (nD n).toList = ([48] : List UInt8) ↔ n = 0 := by
  rw [← nD_nought_iff]
  constructor
  · intro h; apply B_ext; rw [← ByteArray.toList_eq, h]; rfl
  · intro h; rw [h, ByteArray.toList_eq]; rfl
theorem w_top (e : Int) (p : Nat) (h1 : -1000000 ≤ e) (h2 : e ≤ 1000000) (hp : p ≤ 1000000) : wrap64 (wrap64 (e + (p : Int)) - 1) = e + (p : Int) - 1 := by
  rw [w64 (x := e + (p : Int)) (by omega) (by omega), w64 (by omega) (by omega)]
theorem topP {b : Bool} {s : ByteArray} {e : Int} (h : OkD s e) : dec_Top.f b s e = some (topD (vB s) e) := by
  have hz := h.val
  have h1 := h.sz
  have h2 := h.lo
  have h3 := h.hi
  unfold dec_Top.f
  rw [normP h]
  simp only [Option.bind_some]
  by_cases h0 : vB s = 0
  · rw [if_pos ((nD_toList' _).2 h0), h0]; rfl
  · rw [if_neg (fun hh => h0 ((nD_toList' _).1 hh))]
    have hl := digB_len_core h0
    have hnd : nD (vB s) = digB (core (vB s)) := by unfold nD; rw [if_neg h0]
    have hne : nE (vB s) e = e + (tz (vB s) : Int) := by unfold nE; rw [if_neg h0]
    rw [hnd, hne, w_top _ _ (by omega) (by omega) (by omega)]
    unfold topD; rw [if_neg h0]; congr 1; omega
end Go.Proofs.YtjpokifkbclkiaaDoor.Px
end
section
namespace Go.Proofs.YtjpokifkbclkiaaDoor.Px
open Fig Go.RowKit Go.Proofs.YtjpokifkbclkiaaDoorW.PrintWords Go.Proofs.YtjpokifkbclkiaaDoorW.PrintLast Go.Proofs.YtjpokifkbclkiaaDoorW.PrintMore
attribute [local go_sem] max2_int min2_int max_two min_two max_three min_three max_four min_four   -- for this text's walks alone
attribute [local go_sem] fieldA23_0 fieldA23_1 fieldA23_2
theorem topD_bd {s : ByteArray} {e : Int} (h : OkS s e) : -10000 ≤ topD (vB s) e ∧ topD (vB s) e ≤ 20000 := by
  have hv := h.ok.val
  have hsz := h.sz
  have hlo := h.lo
  have hhi := h.hi
  unfold topD
  split
  · omega
  · rename_i h0
    have : (digB (vB s)).size ≠ 0 := fun hh => h0 (digB_empty_iff.1 hh)
    omega
theorem sigPlaceP {b : Bool} {s : ByteArray} {e n : Int} (h : OkS s e) (h1 : n ≤ 100000) : sig_Place.f b s e n = some (topD (vB s) e - max n 1 + 1) := by
  have hb := topD_bd h
  have hm : mx n 1 = max n 1 := by unfold mx; omega
  unfold sig_Place.f
  rw [topP h.ok]
  simp only [Option.bind_some]
  rw [hm, w64 (x := topD (vB s) e - max n 1) (by omega) (by omega), w64 (by omega) (by omega)]
end Go.Proofs.YtjpokifkbclkiaaDoor.Px
end
section
namespace Go.Proofs.YtjpokifkbclkiaaDoor.Px
open Fig Go.RowKit Go.Proofs.YtjpokifkbclkiaaDoorW.PrintWords Go.Proofs.YtjpokifkbclkiaaDoorW.PrintLast Go.Proofs.YtjpokifkbclkiaaDoorW.PrintMore
attribute [local go_sem] max2_int min2_int max_two min_two max_three min_three max_four min_four   -- for this text's walks alone
attribute [local go_sem] fieldA23_0 fieldA23_1 fieldA23_2
theorem sigRound_bad {m : Int} {b : Bool} {s : ByteArray} {e n : Int} (hm : m < 0 ∨ 7 < m ∨ n < 1) : Ev (fun k => sig_Round.f k m b s e n) (false, (⟨#[]⟩ : ByteArray), 0, 1) := by
  unfold sig_Round.f
  refine evE (modeP m) ?_
  have hj : Ev (fun k => sig_Round.j0 k m n true b s e) (false, (⟨#[]⟩ : ByteArray), 0, 1) :=
    Ev.step (f := fun _ => some (false, (⟨#[]⟩ : ByteArray), 0, 1)) (fun k => by simp only [sig_Round.j0, if_true]) (Ev.now _)
  by_cases hg : 0 ≤ m ∧ m < 8
  · have : decide (n < 1) = true := decide_eq_true (by omega)
    rw [this]
    exact evT (decide_eq_true hg) hj
  · exact evF (by simpa using hg) hj
theorem sigRound_ev {m : Int} {b : Bool} {s : ByteArray} {e : Int} {c : Nat} (hm : 0 ≤ m) (hm7 : m ≤ 7) (hc : 1 ≤ c) (hc2 : c ≤ 5000) (h : OkS s e) (ht : topD (vB s) e ≤ 10000) (ht2 : -5000 ≤ topD (vB s) e) : Ev (fun k => sig_Round.f k m b s e (c : Int)) (roundD m b (vB s) e 1 (topD (vB s) e - (c : Int) + 1)) := by
  unfold sig_Round.f
  refine evE (modeP m) (evT (by simp; omega) ?_)
  have : decide ((c : Int) < 1) = false := decide_eq_false (by omega)
  rw [this]
  refine Ev.step (fun k => by simp only [sig_Round.j0, Bool.false_eq_true, if_false]; rfl) ?_
  refine evE (sigPlaceP h (by omega)) ?_
  rw [show max (c : Int) 1 = (c : Int) by omega]
  exact Ev.bind (placeRound_ev hm hm7 h (by omega) (by omega)) (Ev.now _)
end Go.Proofs.YtjpokifkbclkiaaDoor.Px
end
section
namespace Go.Proofs.YtjpokifkbclkiaaDoor.Px
open Fig Go.RowKit Go.Proofs.YtjpokifkbclkiaaDoorW.PrintWords Go.Proofs.YtjpokifkbclkiaaDoorW.PrintLast Go.Proofs.YtjpokifkbclkiaaDoorW.PrintMore
attribute [local go_sem] max2_int min2_int max_two min_two max_three min_three max_four min_four   -- for this text's walks alone
attribute [local go_sem] fieldA23_0 fieldA23_1 fieldA23_2
theorem countP {b : Bool} {s : ByteArray} {e : Int} (h : OkD s e) : sig_Count.f b s e = some ((nD (vB s)).size : Int) := by
  unfold sig_Count.f; rw [normP h]; rfl
end Go.Proofs.YtjpokifkbclkiaaDoor.Px
end
section
namespace Go.Proofs.YtjpokifkbclkiaaDoor.Px
open Fig Go.RowKit Go.Proofs.YtjpokifkbclkiaaDoorW.PrintWords Go.Proofs.YtjpokifkbclkiaaDoorW.PrintLast Go.Proofs.YtjpokifkbclkiaaDoorW.PrintMore
attribute [local go_sem] max2_int min2_int max_two min_two max_three min_three max_four min_four   -- for this text's walks alone
attribute [local go_sem] fieldA23_0 fieldA23_1 fieldA23_2
theorem nD_lit9 {n m k : Nat} {s : ByteArray} (h : n = m * 10 ^ k) (hm : m % 10 ≠ 0) (hd : dB s = true) (hv : vB s = m) (hs : stripB s = s) : nD n = s := by
  rw [h, nD_pow, nD_of hm, ← hv, ← stripB_eq hd, hs]
theorem nE_lit9 {n m k : Nat} {e : Int} (h : n = m * 10 ^ k) (hm : m % 10 ≠ 0) : nE n e = e + (k : Int) := by rw [h, nE_pow, nE_of hm]
theorem answers09_ev : Ev (fun k => figureheadlaw09_answers.f k) true := by
  have ok1 : OkS (⟨#[49, 50, 51, 52, 53]⟩ : ByteArray) 0 := OkS.of_good (by decide)
  have ok2 : OkS (⟨#[49, 50, 51]⟩ : ByteArray) 2 := OkS.of_good (by decide)
  have v1 : vB (⟨#[49, 50, 51, 52, 53]⟩ : ByteArray) = 12345 := by decide
  have v2 : vB (⟨#[49, 50, 51]⟩ : ByteArray) = 123 := by decide
  have n123 : nD 123 = (⟨#[49, 50, 51]⟩ : ByteArray) := nD_lit9 (m := 123) (k := 0) (by decide) (by decide) (by decide) (by decide) (by decide)
  have n1 : nD 12300 = (⟨#[49, 50, 51]⟩ : ByteArray) := nD_lit9 (m := 123) (k := 2) (by decide) (by decide) (by decide) (by decide) (by decide)
  have e1 : nE 12300 0 = 2 := by rw [nE_lit9 (m := 123) (k := 2) (by decide) (by decide)]; decide
  have s1 : (digB 12345).size = 5 := by
    rw [show digB 12345 = (⟨#[49, 50, 51, 52, 53]⟩ : ByteArray) by rw [← v1, ← stripB_eq (by decide)]; decide]; rfl
  have s2 : (digB 123).size = 3 := by
    rw [show digB 123 = (⟨#[49, 50, 51]⟩ : ByteArray) by rw [← v2, ← stripB_eq (by decide)]; decide]; rfl
  have t1 : topD 12345 0 = 4 := by unfold topD; rw [if_neg (by decide), s1]; decide
  have t2 : topD 123 2 = 4 := by unfold topD; rw [if_neg (by decide), s2]; decide
  have r1 : roundD 5 false 12345 0 1 2 = (false, (⟨#[49, 50, 51]⟩ : ByteArray), 2, 0) := by
    rw [roundD_ok (by decide), show rv0 5 false 12345 0 1 2 (min 0 2) = 12300 by decide, n1, show min (0 : Int) 2 = 0 by decide, e1]
  have rr : roundD 5 false (vB (⟨#[49, 50, 51, 52, 53]⟩ : ByteArray)) 0 1 (topD (vB (⟨#[49, 50, 51, 52, 53]⟩ : ByteArray)) 0 - ((3 : Nat) : Int) + 1) = (false, (⟨#[49, 50, 51]⟩ : ByteArray), 2, 0) := by
    rw [v1, t1]; exact r1
  unfold figureheadlaw09_answers.f
  refine Ev.bind (evIs (sigRound_ev (c := 3) (by decide) (by decide) (by decide) (by decide) ok1 (by rw [v1, t1]; decide) (by rw [v1, t1]; decide)) rr) ?_
  refine evT rfl (evT (by simp [ByteArray.toList_eq]) (evE (sigPlaceP ok2 (by decide)) (evT (by rw [v2, t2]; decide) (evE (countP ok2.ok) ?_))))
  rw [v2, n123]
  exact evIs (Ev.now _) (by decide)
end Go.Proofs.YtjpokifkbclkiaaDoor.Px
end
section
namespace Go.Proofs.YtjpokifkbclkiaaDoor.Px
open Fig Go.RowKit Go.Proofs.YtjpokifkbclkiaaDoorW.PrintWords Go.Proofs.YtjpokifkbclkiaaDoorW.PrintLast Go.Proofs.YtjpokifkbclkiaaDoorW.PrintMore
attribute [local go_sem] max2_int min2_int max_two min_two max_three min_three max_four min_four   -- for this text's walks alone
attribute [local go_sem] fieldA23_0 fieldA23_1 fieldA23_2
theorem Top05_ev {b : Bool} {s : ByteArray} {e : Int} (h : OkD s e) : Ev (fun k => figureheadref05_Top.f k b s e) (topD (vB s) e) := by
  have h1 := h.sz
  have h2 := h.lo
  have h3 := h.hi
  have hz := h.val
  unfold figureheadref05_Top.f
  refine Ev.bind (StripD_ev (by omega) h.d) ?_
  by_cases h0 : vB s = 0
  · simp only [digB_toList_nil.2 h0, if_true]
    rw [h0]
    exact Ev.now _
  · have h3 : ¬ (digB (vB s)).toList = ([] : List UInt8) := fun hh => h0 (digB_toList_nil.1 hh)
    simp only [h3, if_false]
    have hw : wrap64 (wrap64 (e + ((digB (vB s)).size : Int)) - 1) = e + ((digB (vB s)).size : Int) - 1 := by
      rw [w64 (x := e + ((digB (vB s)).size : Int)) (by omega) (by omega), w64 (by omega) (by omega)]
    rw [hw]
    unfold topD
    rw [if_neg h0]
    exact Ev.now _
end Go.Proofs.YtjpokifkbclkiaaDoor.Px
end
section
namespace Go.Proofs.YtjpokifkbclkiaaDoor.Px
open Fig Go.RowKit Go.Proofs.YtjpokifkbclkiaaDoorW.PrintWords Go.Proofs.YtjpokifkbclkiaaDoorW.PrintLast Go.Proofs.YtjpokifkbclkiaaDoorW.PrintMore
attribute [local go_sem] max2_int min2_int max_two min_two max_three min_three max_four min_four   -- for this text's walks alone
attribute [local go_sem] fieldA23_0 fieldA23_1 fieldA23_2
theorem SigRounds_true (a0 a2 : Int) (b : Bool) (s : ByteArray) (e : Int) : Ev (fun k => figureheadlaw09_SigRounds.j0 k a0 a2 true b s e) true :=
  Ev.step (fun k => by simp only [figureheadlaw09_SigRounds.j0, if_true]) (Ev.bind answers09_ev (Ev.now true))
theorem SigRounds_bad {a0 a2 : Int} {b : Bool} {s : ByteArray} {e : Int} {r : Bool × ByteArray × Int × Int} (hr : r = (false, (⟨#[]⟩ : ByteArray), (0 : Int), (1 : Int))) : Ev (fun k => figureheadlaw09_SigRounds.j1 k a0 a2 r.2.2.2 true b s e r.1 r.2.1 r.2.2.1) true := by
  subst hr
  refine Ev.step (fun k => by simp only [figureheadlaw09_SigRounds.j1, if_true]; rfl) ?_
  exact Ev.bind answers09_ev (evT rfl (evIs (Ev.now _) (by simp [ByteArray.toList_eq])))
theorem SigRounds_pure (a0 : Int) (a1_0 : Bool) (a1_1 : ByteArray) (a1_2 a2 : Int) (w0 : (Lit.int .i64 a0).wf = true) (w1_1 : a1_1.size ≤ 140737488351232) (w1_2 : (Lit.int .i64 a1_2).wf = true) (w2 : (Lit.int .i64 a2).wf = true) : ∃ k, figureheadlaw09_SigRounds.f k a0 a1_0 a1_1 a1_2 a2 = some true := by
  refine Ev.rounds (g := fun k => figureheadlaw09_SigRounds.f k a0 a1_0 a1_1 a1_2 a2) ?_
  unfold figureheadlaw09_SigRounds.f
  refine Ev.bind (good09_ev (by omega)) ?_
  cases hg : goodP9 a1_1 a1_2
  · exact evF (by decide) (SigRounds_true _ _ _ _ _)
  obtain ⟨ok, hz, he1, he2⟩ := goodP9_ok hg
  obtain ⟨ht1, ht2⟩ := top9 (n := vB a1_1) (e := a1_2) hz (by omega) (by omega)
  refine evT rfl ?_
  by_cases hb : a2 > 300
  · rw [decide_eq_true hb]; exact SigRounds_true _ _ _ _ _
  rw [decide_eq_false hb]
  refine Ev.step (fun k => by simp only [figureheadlaw09_SigRounds.j0, Bool.false_eq_true, if_false]; rfl) ?_
  by_cases h0 : a0 < 0
  · exact Ev.bind (sigRound_bad (.inl h0)) (evT h0 (SigRounds_bad rfl))
  by_cases h7 : a0 > 7
  · exact Ev.bind (sigRound_bad (.inr (.inl h7))) (evF h0 (evT h7 (SigRounds_bad rfl)))
  by_cases h1 : a2 < 1
  · refine Ev.bind (sigRound_bad (.inr (.inr h1))) (evF h0 (evF h7 ?_))
    rw [decide_eq_true h1]; exact SigRounds_bad rfl
  obtain ⟨c, rfl⟩ : ∃ c : Nat, a2 = (c : Int) := ⟨a2.toNat, by omega⟩
  refine Ev.bind (sigRound_ev (by omega) (by omega) (by omega) (by omega) ok (by omega) (by omega)) (evF h0 (evF h7 ?_))
  rw [decide_eq_false h1]
  refine Ev.step (fun k => by simp only [figureheadlaw09_SigRounds.j1, Bool.false_eq_true, if_false]; rfl) ?_
  refine Ev.bind (Top05_ev ok.ok) ?_
  rw [w64 (x := topD (vB a1_1) a1_2 - (c : Int)) (by omega) (by omega), w64 (x := topD (vB a1_1) a1_2 - (c : Int) + 1) (by omega) (by omega)]
  have v1 : vB (⟨#[49]⟩ : ByteArray) = 1 := by decide
  refine Ev.bind (Round05_ev (st := (⟨#[49]⟩ : ByteArray)) ok (by decide) (by decide) (by decide) (by omega) (by omega)) ?_
  rw [v1]
  refine Ev.bind answers09_ev (evT rfl (evT rfl (evT (by simp) ?_)))
  rcases roundD_code9 a0 a1_0 (vB a1_1) a1_2 1 (topD (vB a1_1) a1_2 - (c : Int) + 1) with hc | hc
  · have hok := roundOk9 (m := a0) (b := a1_0) (n := vB a1_1) (e := a1_2) (p := topD (vB a1_1) a1_2 - (c : Int) + 1) hz (by omega) (by omega) (by omega) (by omega) hc
    obtain ⟨v, x, e1, e2⟩ := round_count (c := c) (by omega) hc
    refine evT hc (evE (countP hok.ok) (evIs (Ev.now _) ?_))
    rw [e1]
    show decide (((nD (vB (nD v))).size : Int) ≤ (c : Int)) = true
    rw [vB_nD, nD_core, decide_eq_true_eq]; omega
  · rw [hc]; exact evF (by decide) (Ev.now true)
end Go.Proofs.YtjpokifkbclkiaaDoor.Px
end
section
namespace Go.Proofs.YtjpokifkbclkiaaDoorW.PrintWords
open Go.ChangeShapes Go.WideShapes
end Go.Proofs.YtjpokifkbclkiaaDoorW.PrintWords
end
section
namespace Fig
open Go Go.ChangeShapes
theorem one_cell {α : Type} {l : List α} {i n : Nat} (hl : l.length = n) (hi : i < n) : ∃ v, (l.drop i).take 1 = [v] ∧ l[i]? = some v := by
  refine ⟨l[i], ?_, List.getElem?_eq_getElem (by omega)⟩
  rw [List.drop_eq_getElem_cons (by omega)]; rfl
theorem func_cell {P : Program} {W : World} {name : String} {d : DataW Unit} (h : funcsAt P W name d) {g : Nat} {t e : TypeId} {n : Nat} {fld : Field} {ps rs : Array TypeId} {va : Bool}
    (hg : P.globalNamed name = some g) (hty : (P.globals[g]?).map (·.type) = some t) (ht : P.underlying t = some (.array n e)) (he : P.underlying e = some (.struct #[fld])) (hft : P.underlying fld.type = some (.func ps rs va))
    (ce : P.cellsOf e = 1) (cf : P.cellsOf fld.type = 1) (ho : fld.offset = 0) (ct : P.cellsOf t = n) {ds : List (DataW (List UInt8))} (hd : d.funcsOut = .agg ds)
    {i : Nat} (hi : i < n) {b : UInt8} {r : List UInt8} (hdi : ds[i]? = some (.agg [.held (b :: r)])) {f0 : FuncId}
    (hone : ((List.range P.funcs.size).filter fun f => (P.funcs[f]?).any (·.name.toUTF8.data.toList == b :: r)) = [f0]) : W.cell? ⟨g, i, none⟩ = some (.func (.func f0) #[] #[]) := by
  obtain ⟨g', t', cs, fuel, p, hg', ht', hv, hr⟩ := h
  obtain rfl := Option.some.inj (hg.symm.trans hg')
  obtain rfl := Option.some.inj (hty.symm.trans ht')
  obtain ⟨xs, m, _, ex, hcl, hl, hel⟩ := DataW.trod_array ht hr
  rw [hd] at ex
  have e3 : xs.map (·.1) = ds := (DataW.agg.inj (Prod.mk.inj ex).1).symm
  obtain ⟨v, hv1, hv2⟩ := one_cell (l := cs.toList) (n := n) (hcl.trans ct) hi
  have hE := hel i hi
  rw [ce, Nat.mul_one, hv1] at hE
  rw [← e3, List.getElem?_map] at hdi
  cases hx : xs[i]? with
  | none => rw [hx] at hdi; cases hdi
  | some x =>
    rw [hx] at hE hdi
    simp only [Option.map_some, Option.some.injEq] at hdi
    obtain ⟨y0, k, rfl, _, hy⟩ := trod_struct1 he hE
    rw [cf, ho, List.drop_zero] at hy
    have hy0 : y0.1 = .held (b :: r) := by simpa using hdi
    obtain ⟨y1, y2⟩ := y0
    subst hy0
    obtain rfl := func_of_trod hft hone (show DataW.trod _ P W 0 _ true k fld.type [v] = _ from hy)
    rw [World.var?_cell hg hv i]
    simpa using hv2
theorem setCells_os (g : Nat) : ∀ (l : List Value) (i : Nat) (w : World), ((l.zipIdx i).foldl (fun w x => w.setCell ⟨g, x.2, none⟩ x.1) w).os = w.os
  | [], _, _ => rfl
  | _ :: l, i, w => by rw [List.zipIdx_cons, List.foldl_cons, setCells_os g l (i + 1)]; rfl
end Fig
end
section
namespace Fig
open Go Go.Proofs Go.Proofs.YtjpokifkbclkiaaDoor
set_option maxRecDepth 100000
def plainL : List (String × DataW Unit) := [("unicode/utf8.acceptRanges", Rows.laid_unicode_utf8_acceptRanges), ("figurehead/ten.powers", Rows.laid_figurehead_ten_powers), ("unicode/utf8.first", Rows.laid_unicode_utf8_first)]
def laidL : List (String × DataW Unit) := [("figurehead/mode.ways", Rows.laid_figurehead_mode_ways), ("unicode/utf8.acceptRanges", Rows.laid_unicode_utf8_acceptRanges), ("figurehead/ten.powers", Rows.laid_figurehead_ten_powers), ("unicode/utf8.first", Rows.laid_unicode_utf8_first)]
def wayCells : List Value := [.func (.func 112) #[] #[], .func (.func 113) #[] #[], .func (.func 114) #[] #[], .func (.func 115) #[] #[], .func (.func 116) #[] #[], .func (.func 117) #[] #[], .func (.func 118) #[] #[], .func (.func 119) #[] #[]]
noncomputable def startW (os : Os) : World := (wayCells.zipIdx 0).foldl (fun w x => w.setCell ⟨1, x.2, none⟩ x.1) (World.laidAll Tryd.prog os plainL)
theorem startW_os (os : Os) : (startW os).os = os := (setCells_os _ _ _ _).trans (World.laidAll_os _ _ _)
theorem met (os : Os) (args : Array Value) : laidMetH Tryd.prog laidL ((startW os).forCall (fun _ _ => 0) ⟨#[], args, []⟩).memory :=
  laidMetH_of_parts3 (fuel := 8) (laidMet_of_run' 8 (by kernel_rfl) (by kernel_rfl)) (by kernel_rfl) (by kernel_rfl)
theorem plainFilter : (laidL.filter fun x => x.2.handleName?.isNone) = plainL := by kernel_rfl
theorem plain_of {W : World} (h : laidMetH Tryd.prog laidL W) : laidMet Tryd.prog plainL W := plainFilter ▸ (laidMetH_iff.1 h).1
theorem ways_of {W : World} (h : laidMetH Tryd.prog laidL W) : ∀ i f, ([112, 113, 114, 115, 116, 117, 118, 119] : List Nat)[i]? = some f → W.cell? ⟨1, i, none⟩ = some (.func (.func f) #[] #[]) := by
  have hF := h.funcs (n := "figurehead/mode.ways") (List.mem_cons_self)
  have gN : Tryd.prog.globalNamed "figurehead/mode.ways" = some 1 := by kernel_rfl
  have gT : (Tryd.prog.globals[1]?).map (·.type) = some 73 := by kernel_rfl
  have c1 : Tryd.prog.cellsOf 72 = 1 := by kernel_rfl
  have c2 : Tryd.prog.cellsOf 70 = 1 := by kernel_rfl
  have c3 : Tryd.prog.cellsOf 73 = 8 := by kernel_rfl
  intro i f hf
  have key : ∀ {b : UInt8} {r : List UInt8} {j : Nat} {f0 : FuncId}, j < 8 → _ → _ → W.cell? ⟨1, j, none⟩ = some (.func (.func f0) #[] #[]) := fun {b} {r} {j} {f0} hj hdi hone => func_cell (b := b) (r := r) hF gN gT Tryd.underlying73 Tryd.underlying72 Tryd.underlying70 c1 c2 rfl c3 rfl hj hdi hone
  match i, hf with
  | 0, hf => obtain rfl := Option.some.inj hf; exact key (b := 102) (r := [105, 103, 117, 114, 101, 104, 101, 97, 100, 47, 109, 111, 100, 101, 46, 119, 97, 121, 115, 36, 49]) (by decide) rfl (by kernel_rfl)
  | 1, hf => obtain rfl := Option.some.inj hf; exact key (b := 102) (r := [105, 103, 117, 114, 101, 104, 101, 97, 100, 47, 109, 111, 100, 101, 46, 119, 97, 121, 115, 36, 50]) (by decide) rfl (by kernel_rfl)
  | 2, hf => obtain rfl := Option.some.inj hf; exact key (b := 102) (r := [105, 103, 117, 114, 101, 104, 101, 97, 100, 47, 109, 111, 100, 101, 46, 119, 97, 121, 115, 36, 51]) (by decide) rfl (by kernel_rfl)
  | 3, hf => obtain rfl := Option.some.inj hf; exact key (b := 102) (r := [105, 103, 117, 114, 101, 104, 101, 97, 100, 47, 109, 111, 100, 101, 46, 119, 97, 121, 115, 36, 52]) (by decide) rfl (by kernel_rfl)
  | 4, hf => obtain rfl := Option.some.inj hf; exact key (b := 102) (r := [105, 103, 117, 114, 101, 104, 101, 97, 100, 47, 109, 111, 100, 101, 46, 119, 97, 121, 115, 36, 53]) (by decide) rfl (by kernel_rfl)
  | 5, hf => obtain rfl := Option.some.inj hf; exact key (b := 102) (r := [105, 103, 117, 114, 101, 104, 101, 97, 100, 47, 109, 111, 100, 101, 46, 119, 97, 121, 115, 36, 54]) (by decide) rfl (by kernel_rfl)
  | 6, hf => obtain rfl := Option.some.inj hf; exact key (b := 102) (r := [105, 103, 117, 114, 101, 104, 101, 97, 100, 47, 109, 111, 100, 101, 46, 119, 97, 121, 115, 36, 55]) (by decide) rfl (by kernel_rfl)
  | 7, hf => obtain rfl := Option.some.inj hf; exact key (b := 102) (r := [105, 103, 117, 114, 101, 104, 101, 97, 100, 47, 109, 111, 100, 101, 46, 119, 97, 121, 115, 36, 56]) (by decide) rfl (by kernel_rfl)
  | k + 8, hf => simp at hf
theorem pows_of {W : World} (h : laidMetH Tryd.prog laidL W) : ∀ i, i < 9 → W.cell? ⟨0, i, none⟩ = some (.int .u32 (([1, 10, 100, 1000, 10000, 100000, 1000000, 10000000, 100000000] : List Int).getD i 0)) := by
  have gN : Tryd.prog.globalNamed "figurehead/ten.powers" = some 0 := by kernel_rfl
  have gT : (Tryd.prog.globals[0]?).map (·.type) = some 69 := by kernel_rfl
  have hT := Lib.tabIs_of_head (k := .u32) (zs := [1, 10, 100, 1000, 10000, 100000, 1000000, 10000000, 100000000]) gN gT Tryd.underlying69 Tryd.underlying50 (by kernel_rfl) (by kernel_rfl) (laidMet.tail (plain_of h))
  exact fun i hi => hT.cell gN i hi
theorem of_laid {W : World} (h : laidMetH Tryd.prog laidL W) : Glob W := ⟨ways_of h, pows_of h⟩
end Fig
end
section
namespace Fig
open Go Go.ChangeShapes Go.WideShapes Go.RowKit Go.Deep Go.WideElems Go.Joins
theorem open_dec {H : Type} {enc : TypeId × Value → H} {P : Program} {w : World} {base : Nat} {spare : Nat → Bool} {held : Bool} {r : Reach} {b0 : Nat} {t : TypeId} {f0 f1 f2 : Field} {v : Value} {d : DataW H} {p : List MemPlace} {k : IntKind} (hs : P.underlying t = some (.struct #[f0, f1, f2])) (hone : oneCellFields P #[f0, f1, f2] = true) (hC : P.cellsOf t = 3)
    (u0 : P.underlying f0.type = some .bool) (u1 : P.underlying f1.type = some .string) (u2 : P.underlying f2.type = some (.int k)) (hv : Value.okWide P w r b0 t v) (h : DataW.Trod enc P w base spare held t v d p) :
    ∃ (x : Bool) (s : ByteArray) (n : Int), v = .agg #[.bool x, .string s, .int k n] ∧ d = .agg [.lit (.bool x), .lit (.string s.data.toList), .lit (.int k n)] ∧ p = [] ∧ s.size ≤ maxLen ∧ (Lit.int k n).wf = true := by
  obtain ⟨v0, v1, v2, y0, y1, y2, n, rfl, rfl, rfl, h0, h1, h2⟩ := open_agg3 hs hone hC hv h
  obtain ⟨x, e0, rfl⟩ := DataW.trod_bool u0 h0
  obtain ⟨s, e1, rfl, hl⟩ := DataW.trod_string u1 h1
  obtain ⟨m, e2, rfl, hw⟩ := DataW.trod_int u2 h2
  simp only [List.cons.injEq, and_true] at e0 e1 e2
  subst e0 e1 e2
  exact ⟨x, s, m, rfl, rfl, rfl, hl, hw⟩
theorem shut_dec {H : Type} {enc : TypeId × Value → H} {P : Program} {w : World} {base : Nat} {spare : Nat → Bool} {held : Bool} {t : TypeId} {f0 f1 f2 : Field} {k : IntKind} {x : Bool} {s : ByteArray} {n : Int} (hs : P.underlying t = some (.struct #[f0, f1, f2])) (hone : oneCellFields P #[f0, f1, f2] = true) (hC : P.cellsOf t = 3)
    (u0 : P.underlying f0.type = some .bool) (u1 : P.underlying f1.type = some .string) (u2 : P.underlying f2.type = some (.int k)) (hl : s.size ≤ maxLen) (hw : (Lit.int k n).wf = true) :
    DataW.Trod enc P w base spare held t (.agg #[.bool x, .string s, .int k n]) (.agg [.lit (.bool x), .lit (.string s.data.toList), .lit (.int k n)]) [] :=
  shut_agg3 (y0 := (.lit (.bool x), [])) (y1 := (.lit (.string s.data.toList), [])) (y2 := (.lit (.int k n), [])) hs hone hC ⟨1, by simp [DataW.trod, u0]⟩ ⟨1, by simp [DataW.trod, u1, hl]⟩ ⟨1, by simp [DataW.trod, u2, hw]⟩
theorem sized_dec {H : Type} {P : Program} {ts : List TypeId} {ds : List (DataW H)} (h : (DataW.weightsEach P ts ds).all (· ≤ reachBytes) = true) {j : Nat} {t : TypeId} {f0 f1 f2 : Field} {x y : DataW H} {bytes : List UInt8} (ht : ts[j]? = some t) (hd : ds[j]? = some (.agg [x, .lit (.string bytes), y])) (hs : P.underlying t = some (.struct #[f0, f1, f2])) : bytes.length ≤ reachBytes := by
  have := List.all_eq_true.1 h _ (DataW.weights_mem_each ht hd bytes.length (by simp [DataW.weights, DataW.weightsEach, hs]))
  simpa using this
end Fig
end
