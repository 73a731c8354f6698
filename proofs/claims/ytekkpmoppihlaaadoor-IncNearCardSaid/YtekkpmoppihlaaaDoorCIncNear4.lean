/- The functions that the law IncNear reaches, told as plain functions, with what is proved of them, and the words they need (part 4). -/
import Derived.Test.YtekkpmoppihlaaaDoorCIncNear0
import Derived.Test.YtekkpmoppihlaaaDoorCIncNear2
import Derived.Test.YtekkpmoppihlaaaDoorCIncNear3
import Derived.Test.YtekkpmoppihlaaaDoorCIncNear1
import Derived.SizedLaws
import Derived.ChangeSlices
import Derived.LaidMore
import Derived.LaidHandle
import Derived.LaidSub
import Derived.OpenShut
import Derived.ChangeSame
import Derived.Lay
import Derived.Lib.LaidTab
import Derived.Test.YtekkpmoppihlaaaDoorRows
import Derived.Stop.LaidErr
import Derived.Lib.SmallJoins
import Derived.ChangeMaps5
set_option linter.unusedVariables false
set_option linter.unusedSimpArgs false
section
namespace Go.Proofs.YtekkpmoppihlaaaDoor.Px
open Fig Go.RowKit Go.Proofs.YtekkpmoppihlaaaDoorW.PrintWords Go.Proofs.YtekkpmoppihlaaaDoorW.PrintLast Go.Proofs.YtekkpmoppihlaaaDoorW.PrintMore
attribute [local go_sem] max2_int min2_int max_two min_two max_three min_three max_four min_four   -- for this text's walks alone
attribute [local go_sem] fieldA23_0 fieldA23_1 fieldA23_2
set_option maxHeartbeats 8000000 in
set_option maxRecDepth 100000 in
theorem figureheadlaw10_IncNear.callsB (k : Nat) (a0 : Int) (a1_0 : Bool) (a1_1 : ByteArray) (a1_2 : Int) (a2 : ByteArray) (a3 : Int) (r : Bool) (w : World) (hG : Fig.Glob w) (HT : Aside0 (r = true)) (hz_ : Aside0 (a0 < 4)) (h : figureheadlaw10_IncNear.f k a0 a1_0 a1_1 a1_2 a2 a3 = some r) :
    Calls Tryd.prog 4 #[.int .i64 a0, .agg #[.bool a1_0, .string a1_1, .int .i64 a1_2], .string a2, .int .i64 a3] w fun e w' => e = .returned (.bool r) ∧ Below w.heap.size w w' := by
  have hu23 := Tryd.underlying23
  have HG := Aside0.mk hG
  clear hG
  have HB := Aside0.mk (Below.refl w.heap.size w)
  have H : ((figureheadlaw10_good.f k a1_0 a1_1 a1_2 a3).bind fun t375 => (if t375 = true then (if a0 < 0 then (figureheadlaw10_IncNear.j0 k a0 a2 a3 true a1_0 a1_1 a1_2) else (if a0 > 6 then (figureheadlaw10_IncNear.j0 k a0 a2 a3 true a1_0 a1_1 a1_2) else ((figureheadlaw10_may.f k a2).bind fun t376 => (figureheadlaw10_IncNear.j0 k a0 a2 a3 (!t376) a1_0 a1_1 a1_2)))) else (figureheadlaw10_IncNear.j0 k a0 a2 a3 true a1_0 a1_1 a1_2))) = some r := h
  clear h
  have HC5 := Aside0.mk H
  clear H
  go_enter Tryd.func4, Tryd.ntmps4
  go_upto_region 1 with (first | ((with_reducible refine gate_dst (N := 5) rfl ?_); refine box_event ?hg (N := 5) ?hd (cs := #[.bool a1_0, .string a1_1, .int .i64 a1_2]) (t := 23) ?hr ?_; (case hd => rfl); (case hg => rfl); (case hr => first | (go_simp; done) | (go_simp; rfl)); intro gb374 hg w6 hbox hb; have n0_ := Aside0.mk (below_step (by repeat (first | (with_reducible first | exact HB.out | apply below_alloc | apply pw_below_drewN | apply below_drew1) | exact HB.out)) hb); have n1_ := Aside0.mk (hbox); have n2_ := Aside0.mk ((by rw [hg]; exact (below_size (by repeat (first | (with_reducible first | exact HB.out | apply below_alloc | apply pw_below_drewN | apply below_drew1) | exact HB.out))) : w.heap.size ≤ gb374)); have n3_ := Aside0.mk ((by rw [hg]; exact (below_size (by repeat (first | (with_reducible first | exact HB.out | apply below_alloc | apply pw_below_drewN | apply below_drew1) | exact HB.out))) : w.heap.size ≤ gb374)); clear HB; have HB := n0_; have BK374 := n1_; have GW374 := n2_; have GE374 := n3_; clear n0_ n1_ n2_ n3_; clear hb hbox hg))
  (try simp only [Act.put, List.setIfInBounds_toArray, List.set_cons_zero, List.set_cons_succ])
  go_cut [32] (fun v32 wc => ∃ (kq : Nat) (x32_4 : Bool), v32 = .bool x32_4 ∧ Aside0 (figureheadlaw10_IncNear.j0 kq a0 a2 a3 x32_4 a1_0 a1_1 a1_2 = some r) ∧ Aside0 (kq ≤ k) ∧ Aside0 (wc.heap[gb374]? = some (.cells #[.bool a1_0, .string a1_1, .int .i64 a1_2] 23 (0, 0))) ∧ Aside0 (Below w.heap.size w wc))
  case first =>
    have H := HC5.out
    clear HC5
    replace H := Option.bind_eq_some_iff.mp H
    obtain ⟨t375, A70, H⟩ := H
    replace H : (if t375 = true then (if a0 < 0 then (figureheadlaw10_IncNear.j0 k a0 a2 a3 true a1_0 a1_1 a1_2) else (if a0 > 6 then (figureheadlaw10_IncNear.j0 k a0 a2 a3 true a1_0 a1_1 a1_2) else ((figureheadlaw10_may.f k a2).bind fun t376 => (figureheadlaw10_IncNear.j0 k a0 a2 a3 (!t376) a1_0 a1_1 a1_2)))) else (figureheadlaw10_IncNear.j0 k a0 a2 a3 true a1_0 a1_1 a1_2)) = some r := H
    have A7 := Aside0.mk A70
    clear A70
    by_cases c8 : t375 = true
    · subst c8
      have H1 : (if a0 < 0 then (figureheadlaw10_IncNear.j0 k a0 a2 a3 true a1_0 a1_1 a1_2) else (if a0 > 6 then (figureheadlaw10_IncNear.j0 k a0 a2 a3 true a1_0 a1_1 a1_2) else ((figureheadlaw10_may.f k a2).bind fun t376 => (figureheadlaw10_IncNear.j0 k a0 a2 a3 (!t376) a1_0 a1_1 a1_2)))) = some r := by rw [if_pos rfl] at H; exact H
      clear H
      have H := H1
      clear H1
      by_cases c9 : a0 < 0
      · rw [if_pos c9] at H
        have c9b0 : decide (a0 < 0) = true := decide_eq_true c9
        clear c9
        (first | rw [c9b0] | (simp only [i64_w, i32_w]; rw [c9b0]) | skip)
        have H' := Aside0.mk H
        clear H
        have hcz10_0 : w6.cell? ⟨gb374, 0, none⟩ = some (.bool a1_0) := (blk_cell BK374.out 0).trans rfl
        have hcz10_1 : w6.cell? ⟨gb374, 1, none⟩ = some (.string a1_1) := (blk_cell BK374.out 1).trans rfl
        have hcz10_2 : w6.cell? ⟨gb374, 2, none⟩ = some (.int .i64 a1_2) := (blk_cell BK374.out 2).trans rfl
        have hfz10_0 := blk_frozen BK374.out 0
        have hfz10_1 := blk_frozen BK374.out 1
        have hfz10_2 := blk_frozen BK374.out 2
        go_wp2_with (first | ((with_reducible refine gate_callee (f := 8) rfl ?_); refine goesL_ (some 18) rfl rfl Tryd.func8 (by kernel_rfl) rfl #[.agg #[.bool a1_0, .string a1_1, .int .i64 a1_2], .int .i64 a3] rfl (by (try simp only [List.map_toArray]); (try simp only [List.map_cons]); (try simp only [List.map_nil]); first | done | rfl | (simp only [List.length_drop, List.length_take]; rfl)) ?_; (with_reducible refine (figureheadlaw10_good.calls k a1_0 a1_1 a1_2 a3 true _ A7.out).mono ?_); rintro e w11 ⟨rfl, hb⟩; refine ⟨_, rfl, ?_⟩; have n0_ := Aside0.mk (blk_below (g := gb374) (o := .cells #[.bool a1_0, .string a1_1, .int .i64 a1_2] 23 (0, 0)) (by (with_reducible repeat (first | refine blk_drewN ?_ _ | refine blk_drew ?_ | refine blk_alloc ?_ _)); exact BK374.out) hb); have n1_ := Aside0.mk (below_step (by repeat (first | (with_reducible first | exact HB.out | apply below_alloc | apply pw_below_drewN | apply below_drew1 | refine below_set ?_ GE374.out) | exact HB.out)) hb); clear BK374; clear HB; have BK374 := n0_; have HB := n1_; clear n0_ n1_; (try clear hb); (try clear hb2); (try clear hk); (try clear hi)))
        go_meet
        case rel => exact ⟨_, (true), (by first | rfl | (simp; done) | (simp [*]; done) | (simp [*, Fig.bne_nil]; done)), H', ⟨by first | omega | exact Nat.le_refl _⟩, ⟨by (with_reducible repeat (first | refine blk_drewN ?_ _ | refine blk_drew ?_ | refine blk_alloc ?_ _)); exact BK374.out⟩, ⟨by repeat (first | (with_reducible first | exact HB.out | apply below_alloc | apply pw_below_drewN | apply below_drew1 | refine below_set ?_ GE374.out) | exact HB.out)⟩⟩
      · rw [if_neg c9] at H
        have c9b0 : decide (a0 < 0) = false := decide_eq_false c9
        clear c9
        (first | rw [c9b0] | (simp only [i64_w, i32_w]; rw [c9b0]) | skip)
        by_cases c12 : a0 > 6
        · rw [if_pos c12] at H
          have c12b0 : decide (6 < a0) = true := decide_eq_true c12
          clear c12
          have H' := Aside0.mk H
          clear H
          have hcz13_0 : w6.cell? ⟨gb374, 0, none⟩ = some (.bool a1_0) := (blk_cell BK374.out 0).trans rfl
          have hcz13_1 : w6.cell? ⟨gb374, 1, none⟩ = some (.string a1_1) := (blk_cell BK374.out 1).trans rfl
          have hcz13_2 : w6.cell? ⟨gb374, 2, none⟩ = some (.int .i64 a1_2) := (blk_cell BK374.out 2).trans rfl
          have hfz13_0 := blk_frozen BK374.out 0
          have hfz13_1 := blk_frozen BK374.out 1
          have hfz13_2 := blk_frozen BK374.out 2
          go_wp2_with (first | ((with_reducible refine gate_callee (f := 8) rfl ?_); refine goesL_ (some 18) rfl rfl Tryd.func8 (by kernel_rfl) rfl #[.agg #[.bool a1_0, .string a1_1, .int .i64 a1_2], .int .i64 a3] rfl (by (try simp only [List.map_toArray]); (try simp only [List.map_cons]); (try simp only [List.map_nil]); first | done | rfl | (simp only [List.length_drop, List.length_take]; rfl)) ?_; (with_reducible refine (figureheadlaw10_good.calls k a1_0 a1_1 a1_2 a3 true _ A7.out).mono ?_); rintro e w14 ⟨rfl, hb⟩; refine ⟨_, rfl, ?_⟩; have n0_ := Aside0.mk (blk_below (g := gb374) (o := .cells #[.bool a1_0, .string a1_1, .int .i64 a1_2] 23 (0, 0)) (by (with_reducible repeat (first | refine blk_drewN ?_ _ | refine blk_drew ?_ | refine blk_alloc ?_ _)); exact BK374.out) hb); have n1_ := Aside0.mk (below_step (by repeat (first | (with_reducible first | exact HB.out | apply below_alloc | apply pw_below_drewN | apply below_drew1 | refine below_set ?_ GE374.out) | exact HB.out)) hb); clear BK374; clear HB; have BK374 := n0_; have HB := n1_; clear n0_ n1_; (try clear hb); (try clear hb2); (try clear hk); (try clear hi)))
          go_meet
          case rel => exact ⟨_, (true), (by first | rfl | (simp; done) | (simp [*]; done) | (simp [*, Fig.bne_nil]; done)), H', ⟨by first | omega | exact Nat.le_refl _⟩, ⟨by (with_reducible repeat (first | refine blk_drewN ?_ _ | refine blk_drew ?_ | refine blk_alloc ?_ _)); exact BK374.out⟩, ⟨by repeat (first | (with_reducible first | exact HB.out | apply below_alloc | apply pw_below_drewN | apply below_drew1 | refine below_set ?_ GE374.out) | exact HB.out)⟩⟩
        · rw [if_neg c12] at H
          have c12b0 : decide (6 < a0) = false := decide_eq_false c12
          clear c12
          replace H := Option.bind_eq_some_iff.mp H
          obtain ⟨t376, A150, H⟩ := H
          replace H : (figureheadlaw10_IncNear.j0 k a0 a2 a3 (!t376) a1_0 a1_1 a1_2) = some r := H
          have A15 := Aside0.mk A150
          clear A150
          have H' := Aside0.mk H
          clear H
          have hcz16_0 : w6.cell? ⟨gb374, 0, none⟩ = some (.bool a1_0) := (blk_cell BK374.out 0).trans rfl
          have hcz16_1 : w6.cell? ⟨gb374, 1, none⟩ = some (.string a1_1) := (blk_cell BK374.out 1).trans rfl
          have hcz16_2 : w6.cell? ⟨gb374, 2, none⟩ = some (.int .i64 a1_2) := (blk_cell BK374.out 2).trans rfl
          have hfz16_0 := blk_frozen BK374.out 0
          have hfz16_1 := blk_frozen BK374.out 1
          have hfz16_2 := blk_frozen BK374.out 2
          go_wp2_with (first | ((with_reducible refine gate_callee (f := 8) rfl ?_); refine goesL_ (some 18) rfl rfl Tryd.func8 (by kernel_rfl) rfl #[.agg #[.bool a1_0, .string a1_1, .int .i64 a1_2], .int .i64 a3] rfl (by (try simp only [List.map_toArray]); (try simp only [List.map_cons]); (try simp only [List.map_nil]); first | done | rfl | (simp only [List.length_drop, List.length_take]; rfl)) ?_; (with_reducible refine (figureheadlaw10_good.calls k a1_0 a1_1 a1_2 a3 true _ A7.out).mono ?_); rintro e w17 ⟨rfl, hb⟩; refine ⟨_, rfl, ?_⟩; have n0_ := Aside0.mk (blk_below (g := gb374) (o := .cells #[.bool a1_0, .string a1_1, .int .i64 a1_2] 23 (0, 0)) (by (with_reducible repeat (first | refine blk_drewN ?_ _ | refine blk_drew ?_ | refine blk_alloc ?_ _)); exact BK374.out) hb); have n1_ := Aside0.mk (below_step (by repeat (first | (with_reducible first | exact HB.out | apply below_alloc | apply pw_below_drewN | apply below_drew1 | refine below_set ?_ GE374.out) | exact HB.out)) hb); clear BK374; clear HB; have BK374 := n0_; have HB := n1_; clear n0_ n1_; (try clear hb); (try clear hb2); (try clear hk); (try clear hi)) | ((with_reducible refine gate_dst (N := 30) rfl ?_); (refine gate_guard (by rfl) ?_; dsimp only); (with_reducible refine gate_callee (f := 11) rfl ?_); refine goesL_ (some 30) rfl rfl Tryd.func11 (by kernel_rfl) rfl #[.string a2] rfl (by (try simp only [List.map_toArray]); (try simp only [List.map_cons]); (try simp only [List.map_nil]); first | done | rfl | (simp only [List.length_drop, List.length_take]; rfl)) ?_; (with_reducible refine (figureheadlaw10_may.calls k a2 t376 _ A15.out).mono ?_); rintro e w' ⟨rfl, ⟨nd, rfl⟩⟩; refine ⟨_, rfl, ?_⟩))
          go_meet
          case rel => exact ⟨_, (!t376), (by first | rfl | (simp; done) | (simp [*]; done) | (simp [*, Fig.bne_nil]; done)), H', ⟨by first | omega | exact Nat.le_refl _⟩, ⟨by (with_reducible repeat (first | refine blk_drewN ?_ _ | refine blk_drew ?_ | refine blk_alloc ?_ _)); exact BK374.out⟩, ⟨by repeat (first | (with_reducible first | exact HB.out | apply below_alloc | apply pw_below_drewN | apply below_drew1 | refine below_set ?_ GE374.out) | exact HB.out)⟩⟩
    · replace c8 := Bool.eq_false_iff.mpr c8
      subst c8
      have H1 : (figureheadlaw10_IncNear.j0 k a0 a2 a3 true a1_0 a1_1 a1_2) = some r := by rw [if_neg (show ¬ (false = true) by decide)] at H; exact H
      clear H
      have H := H1
      clear H1
      have H' := Aside0.mk H
      clear H
      have hcz18_0 : w6.cell? ⟨gb374, 0, none⟩ = some (.bool a1_0) := (blk_cell BK374.out 0).trans rfl
      have hcz18_1 : w6.cell? ⟨gb374, 1, none⟩ = some (.string a1_1) := (blk_cell BK374.out 1).trans rfl
      have hcz18_2 : w6.cell? ⟨gb374, 2, none⟩ = some (.int .i64 a1_2) := (blk_cell BK374.out 2).trans rfl
      have hfz18_0 := blk_frozen BK374.out 0
      have hfz18_1 := blk_frozen BK374.out 1
      have hfz18_2 := blk_frozen BK374.out 2
      go_wp2_with (first | ((with_reducible refine gate_callee (f := 8) rfl ?_); refine goesL_ (some 18) rfl rfl Tryd.func8 (by kernel_rfl) rfl #[.agg #[.bool a1_0, .string a1_1, .int .i64 a1_2], .int .i64 a3] rfl (by (try simp only [List.map_toArray]); (try simp only [List.map_cons]); (try simp only [List.map_nil]); first | done | rfl | (simp only [List.length_drop, List.length_take]; rfl)) ?_; (with_reducible refine (figureheadlaw10_good.calls k a1_0 a1_1 a1_2 a3 false _ A7.out).mono ?_); rintro e w19 ⟨rfl, hb⟩; refine ⟨_, rfl, ?_⟩; have n0_ := Aside0.mk (blk_below (g := gb374) (o := .cells #[.bool a1_0, .string a1_1, .int .i64 a1_2] 23 (0, 0)) (by (with_reducible repeat (first | refine blk_drewN ?_ _ | refine blk_drew ?_ | refine blk_alloc ?_ _)); exact BK374.out) hb); have n1_ := Aside0.mk (below_step (by repeat (first | (with_reducible first | exact HB.out | apply below_alloc | apply pw_below_drewN | apply below_drew1 | refine below_set ?_ GE374.out) | exact HB.out)) hb); clear BK374; clear HB; have BK374 := n0_; have HB := n1_; clear n0_ n1_; (try clear hb); (try clear hb2); (try clear hk); (try clear hi)))
      go_meet
      case rel => exact ⟨_, (true), (by first | rfl | (simp; done) | (simp [*]; done) | (simp [*, Fig.bne_nil]; done)), H', ⟨by first | omega | exact Nat.le_refl _⟩, ⟨by (with_reducible repeat (first | refine blk_drewN ?_ _ | refine blk_drew ?_ | refine blk_alloc ?_ _)); exact BK374.out⟩, ⟨by repeat (first | (with_reducible first | exact HB.out | apply below_alloc | apply pw_below_drewN | apply below_drew1 | refine below_set ?_ GE374.out) | exact HB.out)⟩⟩
  case rest =>
    clear HC5
    try clear c1
    try clear p2
    try clear c4
    try clear c8
    try clear c9
    try clear c9b0
    try clear c11
    try clear c12
    try clear c12b0
    try clear hcz10_0
    try clear hcz10_1
    try clear hcz10_2
    try clear hcz13_0
    try clear hcz13_1
    try clear hcz13_2
    try clear hcz16_0
    try clear hcz16_1
    try clear hcz16_2
    try clear hcz18_0
    try clear hcz18_1
    try clear hcz18_2
    try clear hfz10_0
    try clear hfz10_1
    try clear hfz10_2
    try clear hfz13_0
    try clear hfz13_1
    try clear hfz13_2
    try clear hfz16_0
    try clear hfz16_1
    try clear hfz16_2
    try clear hfz18_0
    try clear hfz18_1
    try clear hfz18_2
    obtain ⟨kq, x32_4, rfl, HA, HJ4, BK374, HB⟩ := hcut
    cases kq with
    | zero => exact absurd HA.out (by simp [figureheadlaw10_IncNear.j0])
    | succ kj4 =>
      have H := HA.out
      clear HA
      simp only [figureheadlaw10_IncNear.j0] at H
      by_cases c20 : x32_4 = true
      · subst c20
        have H1 : ((figureheadlaw10_answers.f kj4).bind fun t377 => (some t377)) = some r := by rw [if_pos rfl] at H; exact H
        clear H
        have H := H1
        clear H1
        replace H := Option.bind_eq_some_iff.mp H
        obtain ⟨t377, A210, H⟩ := H
        replace H : (some t377) = some r := H
        have A21 := Aside0.mk A210
        clear A210
        obtain rfl := Option.some.inj H
        go_wp2_with (first | ((with_reducible refine gate_callee (f := 9) rfl ?_); refine goesL_ (some 33) rfl rfl Tryd.func9 (by kernel_rfl) rfl #[] rfl (by (try simp only [List.map_toArray]); (try simp only [List.map_cons]); (try simp only [List.map_nil]); first | done | rfl | (simp only [List.length_drop, List.length_take]; rfl)) ?_; (with_reducible refine (figureheadlaw10_answers.calls kj4  t377 _ ?side1 ?side2 A21.out).mono ?_); (case side1 => exact Fig.Glob.below HG.out (by repeat (first | (with_reducible first | exact HB.out | apply below_alloc | apply pw_below_drewN | apply below_drew1 | refine below_set ?_ GE374.out) | exact HB.out))); (case side2 => exact ⟨by first | rfl | exact HT.out⟩); rintro e w22 ⟨rfl, hb⟩; refine ⟨_, rfl, ?_⟩; have n0_ := Aside0.mk (blk_below (g := gb374) (o := .cells #[.bool a1_0, .string a1_1, .int .i64 a1_2] 23 (0, 0)) (by (with_reducible repeat (first | refine blk_drewN ?_ _ | refine blk_drew ?_ | refine blk_alloc ?_ _)); exact BK374.out) hb); have n1_ := Aside0.mk (below_step (by repeat (first | (with_reducible first | exact HB.out | apply below_alloc | apply pw_below_drewN | apply below_drew1 | refine below_set ?_ GE374.out) | exact HB.out)) hb); clear BK374; clear HB; have BK374 := n0_; have HB := n1_; clear n0_ n1_; (try clear hb); (try clear hb2); (try clear hk); (try clear hi)))
        go_ret
        exact ⟨by first | rfl | (simp [errW_none, errW_some] <;> rfl) | (simp [*, errW_none, errW_some] <;> rfl), by repeat (first | (with_reducible first | exact HB.out | apply below_alloc | apply pw_below_drewN | apply below_drew1 | refine below_set ?_ GE374.out) | exact HB.out)⟩
      · replace c20 := Bool.eq_false_iff.mpr c20
        subst c20
        have H1 : ((inc_Round.f kj4 a0 a1_0 a1_1 a1_2 a2 a3).bind fun bt378 => ((inc_Round.f kj4 7 bt378.1 bt378.2.1 bt378.2.2.1 a2 a3).bind fun bt383 => ((figureheadref05_Turn.f a1_0 a1_1 a1_2).bind fun bt388 => ((figureheadref05_Sum.f kj4 bt378.1 bt378.2.1 bt378.2.2.1 bt388.1 bt388.2.1 bt388.2.2).bind fun bt391 => (if bt378.2.2.2 = 0 then (if bt383.2.2.2 = 0 then (if (!(bt383.1 == bt378.1) || (!(bt383.2.1.toList == bt378.2.1.toList) || (!(bt383.2.2.1 == bt378.2.2.1)))) = true then (some false) else ((figureheadref05_Cmp.f kj4 false bt391.2.1 bt391.2.2 false a2 a3).bind fun t397 => (if t397 ≥ 0 then (some false) else (if a0 ≥ 4 then ((figureheadref05_Sum.f kj4 false bt391.2.1 bt391.2.2 false bt391.2.1 bt391.2.2).bind fun bt398 => ((figureheadref05_Cmp.f kj4 bt398.1 bt398.2.1 bt398.2.2 false a2 a3).bind fun t401 => (if t401 > 0 then (some false) else ((figureheadlaw10_answers.f kj4).bind fun t402 => (if t402 = true then (if a0 = 0 then (if bt391.1 = true then (some false) else (if a0 = 1 then (if bt391.2.1.toList = ([48] : List UInt8) then (some true) else (some bt391.1)) else (some true))) else (if a0 = 1 then (if bt391.2.1.toList = ([48] : List UInt8) then (some true) else (some bt391.1)) else (some true))) else (some false)))))) else ((figureheadlaw10_answers.f kj4).bind fun t403 => (if t403 = true then (if a0 = 0 then (if bt391.1 = true then (some false) else (if a0 = 1 then (if bt391.2.1.toList = ([48] : List UInt8) then (some true) else (some bt391.1)) else (some true))) else (if a0 = 1 then (if bt391.2.1.toList = ([48] : List UInt8) then (some true) else (some bt391.1)) else (some true))) else (some false))))))) else (some false)) else (some false)))))) = some r := by rw [if_neg (show ¬ (false = true) by decide)] at H; exact H
        clear H
        have H := H1
        clear H1
        replace H := Option.bind_eq_some_iff.mp H
        obtain ⟨⟨t378, t379, t380, t381⟩, A230, H⟩ := H
        replace H : ((inc_Round.f kj4 7 t378 t379 t380 a2 a3).bind fun bt383 => ((figureheadref05_Turn.f a1_0 a1_1 a1_2).bind fun bt388 => ((figureheadref05_Sum.f kj4 t378 t379 t380 bt388.1 bt388.2.1 bt388.2.2).bind fun bt391 => (if t381 = 0 then (if bt383.2.2.2 = 0 then (if (!(bt383.1 == t378) || (!(bt383.2.1.toList == t379.toList) || (!(bt383.2.2.1 == t380)))) = true then (some false) else ((figureheadref05_Cmp.f kj4 false bt391.2.1 bt391.2.2 false a2 a3).bind fun t397 => (if t397 ≥ 0 then (some false) else (if a0 ≥ 4 then ((figureheadref05_Sum.f kj4 false bt391.2.1 bt391.2.2 false bt391.2.1 bt391.2.2).bind fun bt398 => ((figureheadref05_Cmp.f kj4 bt398.1 bt398.2.1 bt398.2.2 false a2 a3).bind fun t401 => (if t401 > 0 then (some false) else ((figureheadlaw10_answers.f kj4).bind fun t402 => (if t402 = true then (if a0 = 0 then (if bt391.1 = true then (some false) else (if a0 = 1 then (if bt391.2.1.toList = ([48] : List UInt8) then (some true) else (some bt391.1)) else (some true))) else (if a0 = 1 then (if bt391.2.1.toList = ([48] : List UInt8) then (some true) else (some bt391.1)) else (some true))) else (some false)))))) else ((figureheadlaw10_answers.f kj4).bind fun t403 => (if t403 = true then (if a0 = 0 then (if bt391.1 = true then (some false) else (if a0 = 1 then (if bt391.2.1.toList = ([48] : List UInt8) then (some true) else (some bt391.1)) else (some true))) else (if a0 = 1 then (if bt391.2.1.toList = ([48] : List UInt8) then (some true) else (some bt391.1)) else (some true))) else (some false))))))) else (some false)) else (some false))))) = some r := H
        have A23 := Aside0.mk A230
        clear A230
        replace H := Option.bind_eq_some_iff.mp H
        obtain ⟨⟨t383, t384, t385, t386⟩, A240, H⟩ := H
        replace H : ((figureheadref05_Turn.f a1_0 a1_1 a1_2).bind fun bt388 => ((figureheadref05_Sum.f kj4 t378 t379 t380 bt388.1 bt388.2.1 bt388.2.2).bind fun bt391 => (if t381 = 0 then (if t386 = 0 then (if (!(t383 == t378) || (!(t384.toList == t379.toList) || (!(t385 == t380)))) = true then (some false) else ((figureheadref05_Cmp.f kj4 false bt391.2.1 bt391.2.2 false a2 a3).bind fun t397 => (if t397 ≥ 0 then (some false) else (if a0 ≥ 4 then ((figureheadref05_Sum.f kj4 false bt391.2.1 bt391.2.2 false bt391.2.1 bt391.2.2).bind fun bt398 => ((figureheadref05_Cmp.f kj4 bt398.1 bt398.2.1 bt398.2.2 false a2 a3).bind fun t401 => (if t401 > 0 then (some false) else ((figureheadlaw10_answers.f kj4).bind fun t402 => (if t402 = true then (if a0 = 0 then (if bt391.1 = true then (some false) else (if a0 = 1 then (if bt391.2.1.toList = ([48] : List UInt8) then (some true) else (some bt391.1)) else (some true))) else (if a0 = 1 then (if bt391.2.1.toList = ([48] : List UInt8) then (some true) else (some bt391.1)) else (some true))) else (some false)))))) else ((figureheadlaw10_answers.f kj4).bind fun t403 => (if t403 = true then (if a0 = 0 then (if bt391.1 = true then (some false) else (if a0 = 1 then (if bt391.2.1.toList = ([48] : List UInt8) then (some true) else (some bt391.1)) else (some true))) else (if a0 = 1 then (if bt391.2.1.toList = ([48] : List UInt8) then (some true) else (some bt391.1)) else (some true))) else (some false))))))) else (some false)) else (some false)))) = some r := H
        have A24 := Aside0.mk A240
        clear A240
        replace H := Option.bind_eq_some_iff.mp H
        obtain ⟨⟨t388, t389, t390⟩, A250, H⟩ := H
        replace H : ((figureheadref05_Sum.f kj4 t378 t379 t380 t388 t389 t390).bind fun bt391 => (if t381 = 0 then (if t386 = 0 then (if (!(t383 == t378) || (!(t384.toList == t379.toList) || (!(t385 == t380)))) = true then (some false) else ((figureheadref05_Cmp.f kj4 false bt391.2.1 bt391.2.2 false a2 a3).bind fun t397 => (if t397 ≥ 0 then (some false) else (if a0 ≥ 4 then ((figureheadref05_Sum.f kj4 false bt391.2.1 bt391.2.2 false bt391.2.1 bt391.2.2).bind fun bt398 => ((figureheadref05_Cmp.f kj4 bt398.1 bt398.2.1 bt398.2.2 false a2 a3).bind fun t401 => (if t401 > 0 then (some false) else ((figureheadlaw10_answers.f kj4).bind fun t402 => (if t402 = true then (if a0 = 0 then (if bt391.1 = true then (some false) else (if a0 = 1 then (if bt391.2.1.toList = ([48] : List UInt8) then (some true) else (some bt391.1)) else (some true))) else (if a0 = 1 then (if bt391.2.1.toList = ([48] : List UInt8) then (some true) else (some bt391.1)) else (some true))) else (some false)))))) else ((figureheadlaw10_answers.f kj4).bind fun t403 => (if t403 = true then (if a0 = 0 then (if bt391.1 = true then (some false) else (if a0 = 1 then (if bt391.2.1.toList = ([48] : List UInt8) then (some true) else (some bt391.1)) else (some true))) else (if a0 = 1 then (if bt391.2.1.toList = ([48] : List UInt8) then (some true) else (some bt391.1)) else (some true))) else (some false))))))) else (some false)) else (some false))) = some r := H
        have A25 := Aside0.mk A250
        clear A250
        replace H := Option.bind_eq_some_iff.mp H
        obtain ⟨⟨t391, t392, t393⟩, A260, H⟩ := H
        replace H : (if t381 = 0 then (if t386 = 0 then (if (!(t383 == t378) || (!(t384.toList == t379.toList) || (!(t385 == t380)))) = true then (some false) else ((figureheadref05_Cmp.f kj4 false t392 t393 false a2 a3).bind fun t397 => (if t397 ≥ 0 then (some false) else (if a0 ≥ 4 then ((figureheadref05_Sum.f kj4 false t392 t393 false t392 t393).bind fun bt398 => ((figureheadref05_Cmp.f kj4 bt398.1 bt398.2.1 bt398.2.2 false a2 a3).bind fun t401 => (if t401 > 0 then (some false) else ((figureheadlaw10_answers.f kj4).bind fun t402 => (if t402 = true then (if a0 = 0 then (if t391 = true then (some false) else (if a0 = 1 then (if t392.toList = ([48] : List UInt8) then (some true) else (some t391)) else (some true))) else (if a0 = 1 then (if t392.toList = ([48] : List UInt8) then (some true) else (some t391)) else (some true))) else (some false)))))) else ((figureheadlaw10_answers.f kj4).bind fun t403 => (if t403 = true then (if a0 = 0 then (if t391 = true then (some false) else (if a0 = 1 then (if t392.toList = ([48] : List UInt8) then (some true) else (some t391)) else (some true))) else (if a0 = 1 then (if t392.toList = ([48] : List UInt8) then (some true) else (some t391)) else (some true))) else (some false))))))) else (some false)) else (some false)) = some r := H
        have A26 := Aside0.mk A260
        clear A260
        by_cases c27 : t381 = 0
        · rw [if_pos c27] at H
          have c27b0 : (t381 == 0) = true := beq_iff_eq.mpr c27
          have c27b1 : (t381 != 0) = false := bne_eq_false_iff_eq.mpr c27
          clear c27
          by_cases c28 : t386 = 0
          · rw [if_pos c28] at H
            have c28b0 : (t386 == 0) = true := beq_iff_eq.mpr c28
            have c28b1 : (t386 != 0) = false := bne_eq_false_iff_eq.mpr c28
            clear c28
            by_cases c29 : (!(t383 == t378) || (!(t384.toList == t379.toList) || (!(t385 == t380)))) = true
            · rw [if_pos c29] at H
              have c29b0 : (!(t383 == t378) || (!(t384.toList == t379.toList) || (!(t385 == t380)))) = true := c29
              clear c29
              exact absurd ((Option.some.inj H).trans HT.out) (by decide)
            · rw [if_neg c29] at H
              have c29b0 : (!(t383 == t378) || (!(t384.toList == t379.toList) || (!(t385 == t380)))) = false := by simpa using c29
              have c29b7 : t383 = t378 ∧ t384.toList = t379.toList ∧ t385 = t380 := by simpa using c29b0
              have c29b1 : (t383 = t378) = True := eq_true c29b7.1
              have c29b2 : (t384.toList = t379.toList) = True := eq_true c29b7.2.1
              have c29b3 : (t385 = t380) = True := eq_true c29b7.2.2
              clear c29b7
              clear c29
              replace H := Option.bind_eq_some_iff.mp H
              obtain ⟨t397, A300, H⟩ := H
              replace H : (if t397 ≥ 0 then (some false) else (if a0 ≥ 4 then ((figureheadref05_Sum.f kj4 false t392 t393 false t392 t393).bind fun bt398 => ((figureheadref05_Cmp.f kj4 bt398.1 bt398.2.1 bt398.2.2 false a2 a3).bind fun t401 => (if t401 > 0 then (some false) else ((figureheadlaw10_answers.f kj4).bind fun t402 => (if t402 = true then (if a0 = 0 then (if t391 = true then (some false) else (if a0 = 1 then (if t392.toList = ([48] : List UInt8) then (some true) else (some t391)) else (some true))) else (if a0 = 1 then (if t392.toList = ([48] : List UInt8) then (some true) else (some t391)) else (some true))) else (some false)))))) else ((figureheadlaw10_answers.f kj4).bind fun t403 => (if t403 = true then (if a0 = 0 then (if t391 = true then (some false) else (if a0 = 1 then (if t392.toList = ([48] : List UInt8) then (some true) else (some t391)) else (some true))) else (if a0 = 1 then (if t392.toList = ([48] : List UInt8) then (some true) else (some t391)) else (some true))) else (some false))))) = some r := H
              have A30 := Aside0.mk A300
              clear A300
              by_cases c31 : t397 ≥ 0
              · rw [if_pos c31] at H
                have c31b0 : decide (0 ≤ t397) = true := decide_eq_true c31
                clear c31
                exact absurd ((Option.some.inj H).trans HT.out) (by decide)
              · rw [if_neg c31] at H
                have c31b0 : decide (0 ≤ t397) = false := decide_eq_false c31
                clear c31
                by_cases c32 : a0 ≥ 4
                · exact absurd c32 (by have hz2_ := hz_.out; omega)
                · rw [if_neg c32] at H
                  have c32b0 : decide (4 ≤ a0) = false := decide_eq_false c32
                  clear c32
                  replace H := Option.bind_eq_some_iff.mp H
                  obtain ⟨t403, A2580, H⟩ := H
                  replace H : (if t403 = true then (if a0 = 0 then (if t391 = true then (some false) else (if a0 = 1 then (if t392.toList = ([48] : List UInt8) then (some true) else (some t391)) else (some true))) else (if a0 = 1 then (if t392.toList = ([48] : List UInt8) then (some true) else (some t391)) else (some true))) else (some false)) = some r := H
                  have A258 := Aside0.mk A2580
                  clear A2580
                  by_cases c259 : t403 = true
                  · subst c259
                    have H1 : (if a0 = 0 then (if t391 = true then (some false) else (if a0 = 1 then (if t392.toList = ([48] : List UInt8) then (some true) else (some t391)) else (some true))) else (if a0 = 1 then (if t392.toList = ([48] : List UInt8) then (some true) else (some t391)) else (some true))) = some r := by rw [if_pos rfl] at H; exact H
                    clear H
                    have H := H1
                    clear H1
                    have hr_ : r = true := HT.out
                    subst hr_
                    have F0_ : Aside0 (a0 = 0 → t391 = false) := ⟨fun h_ => by rw [if_pos h_] at H; cases h2_ : t391 with | false => rfl | true => rw [h2_, if_pos rfl] at H; cases H⟩
                    have F1_ : Aside0 (a0 = 1 → (t392.toList = ([48] : List UInt8)) ∨ t391 = true) := ⟨fun h_ => by rw [if_neg (by omega), if_pos h_] at H; exact (Classical.em (t392.toList = ([48] : List UInt8))).elim Or.inl (fun h2_ => by rw [if_neg h2_] at H; exact .inr (Option.some.inj H))⟩
                    clear H
                    have hcz389_0 : wc.cell? ⟨gb374, 0, none⟩ = some (.bool a1_0) := (blk_cell BK374.out 0).trans rfl
                    have hcz389_1 : wc.cell? ⟨gb374, 1, none⟩ = some (.string a1_1) := (blk_cell BK374.out 1).trans rfl
                    have hcz389_2 : wc.cell? ⟨gb374, 2, none⟩ = some (.int .i64 a1_2) := (blk_cell BK374.out 2).trans rfl
                    have hfz389_0 := blk_frozen BK374.out 0
                    have hfz389_1 := blk_frozen BK374.out 1
                    have hfz389_2 := blk_frozen BK374.out 2
                    try go_wp2_with (first | ((with_reducible refine gate_callee (f := 10) rfl ?_); refine goesL_ (some 39) rfl rfl Tryd.func10 (by kernel_rfl) rfl #[.int .i64 a0, .agg #[.bool a1_0, .string a1_1, .int .i64 a1_2], .string a2, .int .i64 a3] rfl (by (try simp only [List.map_toArray]); (try simp only [List.map_cons]); (try simp only [List.map_nil]); first | done | rfl | (simp only [List.length_drop, List.length_take]; rfl)) ?_; (with_reducible refine (inc_Round.calls kj4 a0 a1_0 a1_1 a1_2 a2 a3 t378 t379 t380 t381 _ ?side1 A23.out).mono ?_); (case side1 => exact Fig.Glob.below HG.out (by repeat (first | (with_reducible first | exact HB.out | apply below_alloc | apply pw_below_drewN | apply below_drew1 | refine below_set ?_ GE374.out) | exact HB.out))); rintro e w390 ⟨rfl, hb⟩; refine ⟨_, rfl, ?_⟩; have n0_ := Aside0.mk (blk_below (g := gb374) (o := .cells #[.bool a1_0, .string a1_1, .int .i64 a1_2] 23 (0, 0)) (by (with_reducible repeat (first | refine blk_drewN ?_ _ | refine blk_drew ?_ | refine blk_alloc ?_ _)); exact BK374.out) hb); have n1_ := Aside0.mk (below_step (by repeat (first | (with_reducible first | exact HB.out | apply below_alloc | apply pw_below_drewN | apply below_drew1 | refine below_set ?_ GE374.out) | exact HB.out)) hb); clear BK374; clear HB; have BK374 := n0_; have HB := n1_; clear n0_ n1_; (try clear hb); (try clear hb2); (try clear hk); (try clear hi)) | ((with_reducible refine gate_dst (N := 9) rfl ?_); refine box_event ?hg (N := 9) ?hd (cs := #[.bool false, .string (⟨#[]⟩ : ByteArray), .int .i64 0]) (t := 23) ?hr ?_; (case hd => rfl); (case hg => rfl); (case hr => first | (go_simp; done) | (go_simp; rfl)); intro gb382 hg w391 hbox hb; have n0_ := Aside0.mk (blk_below (g := gb374) (o := .cells #[.bool a1_0, .string a1_1, .int .i64 a1_2] 23 (0, 0)) (by (with_reducible repeat (first | refine blk_drewN ?_ _ | refine blk_drew ?_ | refine blk_alloc ?_ _)); exact BK374.out) hb); have n1_ := Aside0.mk (below_step (by repeat (first | (with_reducible first | exact HB.out | apply below_alloc | apply pw_below_drewN | apply below_drew1 | refine below_set ?_ GE374.out) | exact HB.out)) hb); have n2_ := Aside0.mk (hbox); have n3_ := Aside0.mk ((by rw [hg]; exact (below_size (by repeat (first | (with_reducible first | exact HB.out | apply below_alloc | apply pw_below_drewN | apply below_drew1 | refine below_set ?_ GE374.out) | exact HB.out))) : w.heap.size ≤ gb382)); have n4_ := Aside0.mk ((by rw [hg]; exact (below_size (by repeat (first | (with_reducible first | exact HB.out | apply below_alloc | apply pw_below_drewN | apply below_drew1 | refine below_set ?_ GE374.out) | exact HB.out))) : w.heap.size ≤ gb382)); have n5_ := Aside0.mk ((by rw [hg]; exact Nat.ne_of_lt (blk_lt (g := gb374) (o := .cells #[.bool a1_0, .string a1_1, .int .i64 a1_2] 23 (0, 0)) (by (with_reducible repeat (first | refine blk_drewN ?_ _ | refine blk_drew ?_ | refine blk_alloc ?_ _)); exact BK374.out)) : gb374 ≠ gb382)); have n6_ := Aside0.mk ((by rw [hg]; exact Nat.ne_of_gt (blk_lt (g := gb374) (o := .cells #[.bool a1_0, .string a1_1, .int .i64 a1_2] 23 (0, 0)) (by (with_reducible repeat (first | refine blk_drewN ?_ _ | refine blk_drew ?_ | refine blk_alloc ?_ _)); exact BK374.out)) : gb382 ≠ gb374)); clear BK374; clear HB; have BK374 := n0_; have HB := n1_; have BK382 := n2_; have GW382 := n3_; have GE382 := n4_; have NB374_382 := n5_; have NB382_374 := n6_; clear n0_ n1_ n2_ n3_ n4_ n5_ n6_; clear hb hbox hg; have hnb392 := NB382_374.out; have hnc392 := NB374_382.out; have hcz393_0 : w391.cell? ⟨gb382, 0, none⟩ = some (.bool false) := (blk_cell BK382.out 0).trans rfl; have hcz393_1 : w391.cell? ⟨gb382, 1, none⟩ = some (.string (⟨#[]⟩ : ByteArray)) := (blk_cell BK382.out 1).trans rfl; have hcz393_2 : w391.cell? ⟨gb382, 2, none⟩ = some (.int .i64 0) := (blk_cell BK382.out 2).trans rfl; have hfz393_0 := blk_frozen BK382.out 0; have hfz393_1 := blk_frozen BK382.out 1; have hfz393_2 := blk_frozen BK382.out 2) | ((with_reducible refine gate_callee (f := 10) rfl ?_); refine goesL_ (some 46) rfl rfl Tryd.func10 (by kernel_rfl) rfl #[.int .i64 7, .agg #[.bool t378, .string t379, .int .i64 t380], .string a2, .int .i64 a3] rfl (by (try simp only [List.map_toArray]); (try simp only [List.map_cons]); (try simp only [List.map_nil]); first | done | rfl | (simp only [List.length_drop, List.length_take]; rfl)) ?_; (with_reducible refine (inc_Round.calls kj4 7 t378 t379 t380 a2 a3 t383 t384 t385 t386 _ ?side1 A24.out).mono ?_); (case side1 => exact Fig.Glob.below HG.out (by repeat (first | (with_reducible first | exact HB.out | apply below_alloc | apply pw_below_drewN | apply below_drew1 | refine below_set ?_ GE374.out | refine below_set ?_ GE382.out) | exact HB.out))); rintro e w394 ⟨rfl, hb⟩; refine ⟨_, rfl, ?_⟩; have n0_ := Aside0.mk (blk_below (g := gb374) (o := .cells #[.bool a1_0, .string a1_1, .int .i64 a1_2] 23 (0, 0)) (by (with_reducible repeat (first | refine blk_drewN ?_ _ | refine blk_drew ?_ | refine blk_alloc ?_ _)); refine blk_far ?_ NB374_382.out _; (with_reducible repeat (first | refine blk_drewN ?_ _ | refine blk_drew ?_ | refine blk_alloc ?_ _)); refine blk_far ?_ NB374_382.out _; (with_reducible repeat (first | refine blk_drewN ?_ _ | refine blk_drew ?_ | refine blk_alloc ?_ _)); refine blk_far ?_ NB374_382.out _; (with_reducible repeat (first | refine blk_drewN ?_ _ | refine blk_drew ?_ | refine blk_alloc ?_ _)); exact BK374.out) hb); have n1_ := Aside0.mk (blk_below (g := gb382) (o := .cells #[.bool t378, .string t379, .int .i64 t380] 23 (0, 0)) (by (with_reducible repeat (first | refine blk_drewN ?_ _ | refine blk_drew ?_ | refine blk_alloc ?_ _)); refine blk_put (cs := #[.bool t378, .string t379, .int .i64 0]) ?_ 2 _ rfl; (with_reducible repeat (first | refine blk_drewN ?_ _ | refine blk_drew ?_ | refine blk_alloc ?_ _)); refine blk_put (cs := #[.bool t378, .string (⟨#[]⟩ : ByteArray), .int .i64 0]) ?_ 1 _ rfl; (with_reducible repeat (first | refine blk_drewN ?_ _ | refine blk_drew ?_ | refine blk_alloc ?_ _)); refine blk_put (cs := #[.bool false, .string (⟨#[]⟩ : ByteArray), .int .i64 0]) ?_ 0 _ rfl; (with_reducible repeat (first | refine blk_drewN ?_ _ | refine blk_drew ?_ | refine blk_alloc ?_ _)); exact BK382.out) hb); have n2_ := Aside0.mk (below_step (by repeat (first | (with_reducible first | exact HB.out | apply below_alloc | apply pw_below_drewN | apply below_drew1 | refine below_set ?_ GE374.out | refine below_set ?_ GE382.out) | exact HB.out)) hb); clear BK374; clear BK382; clear HB; have BK374 := n0_; have BK382 := n1_; have HB := n2_; clear n0_ n1_ n2_; (try clear hb); (try clear hb2); (try clear hk); (try clear hi)) | ((with_reducible refine gate_dst (N := 11) rfl ?_); refine box_event ?hg (N := 11) ?hd (cs := #[.bool false, .string (⟨#[]⟩ : ByteArray), .int .i64 0]) (t := 23) ?hr ?_; (case hd => rfl); (case hg => rfl); (case hr => first | (go_simp; done) | (go_simp; rfl)); intro gb387 hg w395 hbox hb; have n0_ := Aside0.mk (blk_below (g := gb374) (o := .cells #[.bool a1_0, .string a1_1, .int .i64 a1_2] 23 (0, 0)) (by (with_reducible repeat (first | refine blk_drewN ?_ _ | refine blk_drew ?_ | refine blk_alloc ?_ _)); exact BK374.out) hb); have n1_ := Aside0.mk (blk_below (g := gb382) (o := .cells #[.bool t378, .string t379, .int .i64 t380] 23 (0, 0)) (by (with_reducible repeat (first | refine blk_drewN ?_ _ | refine blk_drew ?_ | refine blk_alloc ?_ _)); exact BK382.out) hb); have n2_ := Aside0.mk (below_step (by repeat (first | (with_reducible first | exact HB.out | apply below_alloc | apply pw_below_drewN | apply below_drew1 | refine below_set ?_ GE374.out | refine below_set ?_ GE382.out) | exact HB.out)) hb); have n3_ := Aside0.mk (hbox); have n4_ := Aside0.mk ((by rw [hg]; exact (below_size (by repeat (first | (with_reducible first | exact HB.out | apply below_alloc | apply pw_below_drewN | apply below_drew1 | refine below_set ?_ GE374.out | refine below_set ?_ GE382.out) | exact HB.out))) : w.heap.size ≤ gb387)); have n5_ := Aside0.mk ((by rw [hg]; exact (below_size (by repeat (first | (with_reducible first | exact HB.out | apply below_alloc | apply pw_below_drewN | apply below_drew1 | refine below_set ?_ GE374.out | refine below_set ?_ GE382.out) | exact HB.out))) : w.heap.size ≤ gb387)); have n6_ := Aside0.mk ((by rw [hg]; exact Nat.ne_of_lt (blk_lt (g := gb374) (o := .cells #[.bool a1_0, .string a1_1, .int .i64 a1_2] 23 (0, 0)) (by (with_reducible repeat (first | refine blk_drewN ?_ _ | refine blk_drew ?_ | refine blk_alloc ?_ _)); exact BK374.out)) : gb374 ≠ gb387)); have n7_ := Aside0.mk ((by rw [hg]; exact Nat.ne_of_gt (blk_lt (g := gb374) (o := .cells #[.bool a1_0, .string a1_1, .int .i64 a1_2] 23 (0, 0)) (by (with_reducible repeat (first | refine blk_drewN ?_ _ | refine blk_drew ?_ | refine blk_alloc ?_ _)); exact BK374.out)) : gb387 ≠ gb374)); have n8_ := Aside0.mk ((by rw [hg]; exact Nat.ne_of_lt (blk_lt (g := gb382) (o := .cells #[.bool t378, .string t379, .int .i64 t380] 23 (0, 0)) (by (with_reducible repeat (first | refine blk_drewN ?_ _ | refine blk_drew ?_ | refine blk_alloc ?_ _)); exact BK382.out)) : gb382 ≠ gb387)); have n9_ := Aside0.mk ((by rw [hg]; exact Nat.ne_of_gt (blk_lt (g := gb382) (o := .cells #[.bool t378, .string t379, .int .i64 t380] 23 (0, 0)) (by (with_reducible repeat (first | refine blk_drewN ?_ _ | refine blk_drew ?_ | refine blk_alloc ?_ _)); exact BK382.out)) : gb387 ≠ gb382)); clear BK374; clear BK382; clear HB; have BK374 := n0_; have BK382 := n1_; have HB := n2_; have BK387 := n3_; have GW387 := n4_; have GE387 := n5_; have NB374_387 := n6_; have NB387_374 := n7_; have NB382_387 := n8_; have NB387_382 := n9_; clear n0_ n1_ n2_ n3_ n4_ n5_ n6_ n7_ n8_ n9_; clear hb hbox hg; have hnb396 := NB387_374.out; have hnc396 := NB374_387.out; have hnb397 := NB387_382.out; have hnc397 := NB382_387.out; have hcz398_0 : w395.cell? ⟨gb387, 0, none⟩ = some (.bool false) := (blk_cell BK387.out 0).trans rfl; have hcz398_1 : w395.cell? ⟨gb387, 1, none⟩ = some (.string (⟨#[]⟩ : ByteArray)) := (blk_cell BK387.out 1).trans rfl; have hcz398_2 : w395.cell? ⟨gb387, 2, none⟩ = some (.int .i64 0) := (blk_cell BK387.out 2).trans rfl; have hfz398_0 := blk_frozen BK387.out 0; have hfz398_1 := blk_frozen BK387.out 1; have hfz398_2 := blk_frozen BK387.out 2))
                    have n0_ : Aside0 ((((w395.setCell ⟨gb387, 0, none⟩ (.bool t383)).setCell ⟨gb387, 1, none⟩ (.string t384)).setCell ⟨gb387, 2, none⟩ (.int .i64 t385)).heap[gb374]? = some (.cells #[.bool a1_0, .string a1_1, .int .i64 a1_2] 23 (0, 0))) := ⟨by (with_reducible repeat (first | refine blk_drewN ?_ _ | refine blk_drew ?_ | refine blk_alloc ?_ _)); refine blk_far ?_ NB374_387.out _; (with_reducible repeat (first | refine blk_drewN ?_ _ | refine blk_drew ?_ | refine blk_alloc ?_ _)); refine blk_far ?_ NB374_387.out _; (with_reducible repeat (first | refine blk_drewN ?_ _ | refine blk_drew ?_ | refine blk_alloc ?_ _)); refine blk_far ?_ NB374_387.out _; (with_reducible repeat (first | refine blk_drewN ?_ _ | refine blk_drew ?_ | refine blk_alloc ?_ _)); exact BK374.out⟩
                    have n1_ : Aside0 ((((w395.setCell ⟨gb387, 0, none⟩ (.bool t383)).setCell ⟨gb387, 1, none⟩ (.string t384)).setCell ⟨gb387, 2, none⟩ (.int .i64 t385)).heap[gb382]? = some (.cells #[.bool t378, .string t379, .int .i64 t380] 23 (0, 0))) := ⟨by (with_reducible repeat (first | refine blk_drewN ?_ _ | refine blk_drew ?_ | refine blk_alloc ?_ _)); refine blk_far ?_ NB382_387.out _; (with_reducible repeat (first | refine blk_drewN ?_ _ | refine blk_drew ?_ | refine blk_alloc ?_ _)); refine blk_far ?_ NB382_387.out _; (with_reducible repeat (first | refine blk_drewN ?_ _ | refine blk_drew ?_ | refine blk_alloc ?_ _)); refine blk_far ?_ NB382_387.out _; (with_reducible repeat (first | refine blk_drewN ?_ _ | refine blk_drew ?_ | refine blk_alloc ?_ _)); exact BK382.out⟩
                    have n2_ : Aside0 ((((w395.setCell ⟨gb387, 0, none⟩ (.bool t383)).setCell ⟨gb387, 1, none⟩ (.string t384)).setCell ⟨gb387, 2, none⟩ (.int .i64 t385)).heap[gb387]? = some (.cells #[.bool t383, .string t384, .int .i64 t385] 23 (0, 0))) := ⟨by (with_reducible repeat (first | refine blk_drewN ?_ _ | refine blk_drew ?_ | refine blk_alloc ?_ _)); refine blk_put (cs := #[.bool t383, .string t384, .int .i64 0]) ?_ 2 _ rfl; (with_reducible repeat (first | refine blk_drewN ?_ _ | refine blk_drew ?_ | refine blk_alloc ?_ _)); refine blk_put (cs := #[.bool t383, .string (⟨#[]⟩ : ByteArray), .int .i64 0]) ?_ 1 _ rfl; (with_reducible repeat (first | refine blk_drewN ?_ _ | refine blk_drew ?_ | refine blk_alloc ?_ _)); refine blk_put (cs := #[.bool false, .string (⟨#[]⟩ : ByteArray), .int .i64 0]) ?_ 0 _ rfl; (with_reducible repeat (first | refine blk_drewN ?_ _ | refine blk_drew ?_ | refine blk_alloc ?_ _)); exact BK387.out⟩
                    have n3_ : Aside0 (Below w.heap.size w (((w395.setCell ⟨gb387, 0, none⟩ (.bool t383)).setCell ⟨gb387, 1, none⟩ (.string t384)).setCell ⟨gb387, 2, none⟩ (.int .i64 t385))) := ⟨by repeat (first | (with_reducible first | exact HB.out | apply below_alloc | apply pw_below_drewN | apply below_drew1 | refine below_set ?_ GE374.out | refine below_set ?_ GE382.out | refine below_set ?_ GE387.out) | exact HB.out)⟩
                    (try clear BK374)
                    (try clear BK382)
                    (try clear BK387)
                    (try clear HB)
                    generalize (((w395.setCell ⟨gb387, 0, none⟩ (.bool t383)).setCell ⟨gb387, 1, none⟩ (.string t384)).setCell ⟨gb387, 2, none⟩ (.int .i64 t385)) = w399 at n0_ n1_ n2_ n3_ ⊢
                    have BK374 := n0_
                    have BK382 := n1_
                    have BK387 := n2_
                    have HB := n3_
                    clear n0_ n1_ n2_ n3_
                    (try (rw [drewN_self w399]; generalize hq_ : World.drewN w399 _ = w399; have n0_ : Aside0 (w399.heap[gb374]? = some (.cells #[.bool a1_0, .string a1_1, .int .i64 a1_2] 23 (0, 0))) := ⟨by rw [← hq_]; exact (by (with_reducible repeat (first | refine blk_drewN ?_ _ | refine blk_drew ?_ | refine blk_alloc ?_ _)); exact BK374.out)⟩; have n1_ : Aside0 (w399.heap[gb382]? = some (.cells #[.bool t378, .string t379, .int .i64 t380] 23 (0, 0))) := ⟨by rw [← hq_]; exact (by (with_reducible repeat (first | refine blk_drewN ?_ _ | refine blk_drew ?_ | refine blk_alloc ?_ _)); exact BK382.out)⟩; have n2_ : Aside0 (w399.heap[gb387]? = some (.cells #[.bool t383, .string t384, .int .i64 t385] 23 (0, 0))) := ⟨by rw [← hq_]; exact (by (with_reducible repeat (first | refine blk_drewN ?_ _ | refine blk_drew ?_ | refine blk_alloc ?_ _)); exact BK387.out)⟩; have n3_ : Aside0 (Below w.heap.size w w399) := ⟨by rw [← hq_]; exact (by repeat (first | (with_reducible first | exact HB.out | apply below_alloc | apply pw_below_drewN | apply below_drew1 | refine below_set ?_ GE374.out | refine below_set ?_ GE382.out | refine below_set ?_ GE387.out) | exact HB.out))⟩; clear BK374 BK382 BK387 HB hq_; have BK374 := n0_; have BK382 := n1_; have BK387 := n2_; have HB := n3_; clear n0_ n1_ n2_ n3_))
                    have n0_ := Aside0.mk (blk_drew BK374.out)
                    have n1_ := Aside0.mk (blk_drew BK382.out)
                    have n2_ := Aside0.mk (blk_drew BK387.out)
                    have n3_ := Aside0.mk (below_drew1 HB.out)
                    clear BK374
                    clear BK382
                    clear BK387
                    clear HB
                    have BK374 := n0_
                    have BK382 := n1_
                    have BK387 := n2_
                    have HB := n3_
                    clear n0_ n1_ n2_ n3_
                    refine start_ (n := 6) (S := fun w' => w'.cell? ⟨gb382, 0, none⟩ = some (.bool t378) ∧ w'.cell? ⟨gb382, 1, none⟩ = some (.string t379) ∧ w'.cell? ⟨gb382, 2, none⟩ = some (.int .i64 t380) ∧ w'.cell? ⟨gb374, 0, none⟩ = some (.bool a1_0) ∧ w'.cell? ⟨gb374, 1, none⟩ = some (.string a1_1) ∧ w'.cell? ⟨gb374, 2, none⟩ = some (.int .i64 a1_2)) (ds := []) #[false, false, false, false, false, false] (by kernel_rfl) rfl rfl ⟨(blk_cell BK382.out 0).trans rfl, (blk_cell BK382.out 1).trans rfl, (blk_cell BK382.out 2).trans rfl, (blk_cell BK374.out 0).trans rfl, (blk_cell BK374.out 1).trans rfl, (blk_cell BK374.out 2).trans rfl⟩ (fun hHeld => ?_)
                    generalize w399.drew = w400 at BK374 BK382 BK387 HB hHeld ⊢
                    refine take_ (i := 0) (N := some 49) (v := ?_) (a' := ?_) #[true, false, false, false, false, false] rfl rfl (by kernel_rfl) (fun _ _ _ h => h) (Or.inl ⟨by rfl, ?_⟩) hHeld ?_ ?_
                    rotate_left
                    · rintro w' ⟨s0, s1, s2, s3, s4, s5⟩
                      go_simp
                      with_reducible rfl
                    rotate_left
                    · simp only [Act.put, List.setIfInBounds_toArray, List.set_cons_zero, List.set_cons_succ]; (try simp only [i64_w]); (try simp only [i32_w])
                      rfl
                    refine take_ (i := 1) (N := some 50) (v := ?_) (a' := ?_) #[true, true, false, false, false, false] rfl rfl (by kernel_rfl) (fun _ _ _ h => h) (Or.inl ⟨by rfl, ?_⟩) hHeld ?_ ?_
                    rotate_left
                    · rintro w' ⟨s0, s1, s2, s3, s4, s5⟩
                      go_simp
                      with_reducible rfl
                    rotate_left
                    · simp only [Act.put, List.setIfInBounds_toArray, List.set_cons_zero, List.set_cons_succ]; (try simp only [i64_w]); (try simp only [i32_w])
                      rfl
                    refine join_ (σ := Nat) 1 #[true, true, true, true, true, false] (fun s_ => [(51, .agg #[.bool t388, .string t389, .int .i64 t390]), (52, .agg #[.bool t391, .string t392, .int .i64 t393]), (13, .pointer (some ⟨s_, 0, none⟩))]) (fun s_ w' => (w'.cell? ⟨gb382, 0, none⟩ = some (.bool t378) ∧ w'.cell? ⟨gb382, 1, none⟩ = some (.string t379) ∧ w'.cell? ⟨gb382, 2, none⟩ = some (.int .i64 t380) ∧ w'.cell? ⟨gb374, 0, none⟩ = some (.bool a1_0) ∧ w'.cell? ⟨gb374, 1, none⟩ = some (.string a1_1) ∧ w'.cell? ⟨gb374, 2, none⟩ = some (.int .i64 a1_2)) ∧ (w'.heap[gb374]? = some (.cells #[.bool a1_0, .string a1_1, .int .i64 a1_2] 23 (0, 0))) ∧ (w'.heap[gb382]? = some (.cells #[.bool t378, .string t379, .int .i64 t380] 23 (0, 0))) ∧ (w'.heap[gb387]? = some (.cells #[.bool t383, .string t384, .int .i64 t385] 23 (0, 0))) ∧ (w'.heap[s_]? = some (.cells #[.bool false, .string (⟨#[]⟩ : ByteArray), .int .i64 0] 23 (0, 0))) ∧ (w.heap.size ≤ s_) ∧ (w.heap.size ≤ s_) ∧ (gb374 ≠ s_) ∧ (s_ ≠ gb374) ∧ (gb382 ≠ s_) ∧ (s_ ≠ gb382) ∧ (gb387 ≠ s_) ∧ (s_ ≠ gb387) ∧ (Below w.heap.size w w')) ?_ ?_
                    rotate_left
                    · intro hCont
                      refine two_ (i := 2) (j := 4) (Ni := some 51) (Nj := some 13) #[true, true, true, false, false, false] #[true, true, false, false, true, false] rfl rfl rfl rfl (by kernel_rfl) (by decide) (by decide) (fun K hK => ?_) (fun K hK => ?_)
                      · skip
                        refine goes_ Tryd.func14 (by kernel_rfl) rfl #[.agg #[.bool a1_0, .string a1_1, .int .i64 a1_2]] (by rfl) rfl rfl (by (try simp only [List.map_toArray]); (try simp only [List.map_cons]); (try simp only [List.map_nil]); first | done | rfl | (simp only [List.length_drop, List.length_take]; rfl)) ?_
                        with_reducible refine (figureheadref05_Turn.calls a1_0 a1_1 a1_2 t388 t389 t390 _ A25.out).mono ?_
                        rintro e w401 ⟨rfl, hb⟩
                        refine ⟨_, rfl, ?_⟩
                        have n0_ := Aside0.mk (blk_below (g := gb374) (o := .cells #[.bool a1_0, .string a1_1, .int .i64 a1_2] 23 (0, 0)) (by (with_reducible repeat (first | refine blk_drewN ?_ _ | refine blk_drew ?_ | refine blk_alloc ?_ _)); exact BK374.out) hb)
                        have n1_ := Aside0.mk (blk_below (g := gb382) (o := .cells #[.bool t378, .string t379, .int .i64 t380] 23 (0, 0)) (by (with_reducible repeat (first | refine blk_drewN ?_ _ | refine blk_drew ?_ | refine blk_alloc ?_ _)); exact BK382.out) hb)
                        have n2_ := Aside0.mk (blk_below (g := gb387) (o := .cells #[.bool t383, .string t384, .int .i64 t385] 23 (0, 0)) (by (with_reducible repeat (first | refine blk_drewN ?_ _ | refine blk_drew ?_ | refine blk_alloc ?_ _)); exact BK387.out) hb)
                        have n3_ := Aside0.mk (below_step (by repeat (first | (with_reducible first | exact HB.out | apply below_alloc | apply pw_below_drewN | apply below_drew1 | refine below_set ?_ GE374.out | refine below_set ?_ GE382.out | refine below_set ?_ GE387.out) | exact HB.out)) hb)
                        clear BK374
                        clear BK382
                        clear BK387
                        clear HB
                        have BK374 := n0_
                        have BK382 := n1_
                        have BK387 := n2_
                        have HB := n3_
                        clear n0_ n1_ n2_ n3_
                        (try clear hb)
                        (try clear hb2)
                        (try clear hk)
                        (try clear hi)
                        refine hK.out _ _ ⟨(blk_cell BK382.out 0).trans rfl, (blk_cell BK382.out 1).trans rfl, (blk_cell BK382.out 2).trans rfl, (blk_cell BK374.out 0).trans rfl, (blk_cell BK374.out 1).trans rfl, (blk_cell BK374.out 2).trans rfl⟩ (fun hHeld => ?_)
                        clear hK K
                        refine norm_ (a' := ?_) ?_ ?_
                        rotate_left
                        · show Act.put _ (some 51) _ = _
                          simp only [Act.put, List.setIfInBounds_toArray, List.set_cons_zero, List.set_cons_succ]; (try simp only [i64_w]); (try simp only [i32_w])
                          rfl
                        refine two_ (i := 3) (j := 4) (Ni := some 52) (Nj := some 13) #[true, true, true, true, false, false] #[true, true, true, false, true, false] rfl rfl rfl rfl (by kernel_rfl) (by decide) (by decide) (fun K hK => ?_) (fun K hK => ?_)
                        · skip
                          refine goes_ Tryd.func13 (by kernel_rfl) rfl #[.agg #[.bool t378, .string t379, .int .i64 t380], .agg #[.bool t388, .string t389, .int .i64 t390]] (by rfl) rfl rfl (by (try simp only [List.map_toArray]); (try simp only [List.map_cons]); (try simp only [List.map_nil]); first | done | rfl | (simp only [List.length_drop, List.length_take]; rfl)) ?_
                          with_reducible refine (figureheadref05_Sum.calls kj4 t378 t379 t380 t388 t389 t390 t391 t392 t393 _ A26.out).mono ?_
                          rintro e w402 ⟨rfl, hb⟩
                          refine ⟨_, rfl, ?_⟩
                          have n0_ := Aside0.mk (blk_below (g := gb374) (o := .cells #[.bool a1_0, .string a1_1, .int .i64 a1_2] 23 (0, 0)) (by (with_reducible repeat (first | refine blk_drewN ?_ _ | refine blk_drew ?_ | refine blk_alloc ?_ _)); exact BK374.out) hb)
                          have n1_ := Aside0.mk (blk_below (g := gb382) (o := .cells #[.bool t378, .string t379, .int .i64 t380] 23 (0, 0)) (by (with_reducible repeat (first | refine blk_drewN ?_ _ | refine blk_drew ?_ | refine blk_alloc ?_ _)); exact BK382.out) hb)
                          have n2_ := Aside0.mk (blk_below (g := gb387) (o := .cells #[.bool t383, .string t384, .int .i64 t385] 23 (0, 0)) (by (with_reducible repeat (first | refine blk_drewN ?_ _ | refine blk_drew ?_ | refine blk_alloc ?_ _)); exact BK387.out) hb)
                          have n3_ := Aside0.mk (below_step (by repeat (first | (with_reducible first | exact HB.out | apply below_alloc | apply pw_below_drewN | apply below_drew1 | refine below_set ?_ GE374.out | refine below_set ?_ GE382.out | refine below_set ?_ GE387.out) | exact HB.out)) hb)
                          clear BK374
                          clear BK382
                          clear BK387
                          clear HB
                          have BK374 := n0_
                          have BK382 := n1_
                          have BK387 := n2_
                          have HB := n3_
                          clear n0_ n1_ n2_ n3_
                          (try clear hb)
                          (try clear hb2)
                          (try clear hk)
                          (try clear hi)
                          refine hK.out _ _ ⟨(blk_cell BK382.out 0).trans rfl, (blk_cell BK382.out 1).trans rfl, (blk_cell BK382.out 2).trans rfl, (blk_cell BK374.out 0).trans rfl, (blk_cell BK374.out 1).trans rfl, (blk_cell BK374.out 2).trans rfl⟩ (fun hHeld => ?_)
                          clear hK K
                          refine norm_ (a' := ?_) ?_ ?_
                          rotate_left
                          · show Act.put _ (some 52) _ = _
                            simp only [Act.put, List.setIfInBounds_toArray, List.set_cons_zero, List.set_cons_succ]; (try simp only [i64_w]); (try simp only [i32_w])
                            rfl
                          refine one_ (i := 4) (N := some 13) #[true, true, true, true, true, false] rfl rfl (by kernel_rfl) (by decide) (fun K hK => ?_)
                          refine box_step ?hg (N := 13) ?hd (cs := #[.bool false, .string (⟨#[]⟩ : ByteArray), .int .i64 0]) (t := 23) ?hr ?_; (case hd => rfl); (case hg => rfl); (case hr => first | (go_simp; done) | (go_simp; rfl))
                          intro gb394 hg w403 hbox hb
                          have n0_ := Aside0.mk (blk_below (g := gb374) (o := .cells #[.bool a1_0, .string a1_1, .int .i64 a1_2] 23 (0, 0)) (by (with_reducible repeat (first | refine blk_drewN ?_ _ | refine blk_drew ?_ | refine blk_alloc ?_ _)); exact BK374.out) hb)
                          have n1_ := Aside0.mk (blk_below (g := gb382) (o := .cells #[.bool t378, .string t379, .int .i64 t380] 23 (0, 0)) (by (with_reducible repeat (first | refine blk_drewN ?_ _ | refine blk_drew ?_ | refine blk_alloc ?_ _)); exact BK382.out) hb)
                          have n2_ := Aside0.mk (blk_below (g := gb387) (o := .cells #[.bool t383, .string t384, .int .i64 t385] 23 (0, 0)) (by (with_reducible repeat (first | refine blk_drewN ?_ _ | refine blk_drew ?_ | refine blk_alloc ?_ _)); exact BK387.out) hb)
                          have n3_ := Aside0.mk (below_step (by repeat (first | (with_reducible first | exact HB.out | apply below_alloc | apply pw_below_drewN | apply below_drew1 | refine below_set ?_ GE374.out | refine below_set ?_ GE382.out | refine below_set ?_ GE387.out) | exact HB.out)) hb)
                          have n4_ := Aside0.mk (hbox)
                          have n5_ := Aside0.mk ((by rw [hg]; exact (below_size (by repeat (first | (with_reducible first | exact HB.out | apply below_alloc | apply pw_below_drewN | apply below_drew1 | refine below_set ?_ GE374.out | refine below_set ?_ GE382.out | refine below_set ?_ GE387.out) | exact HB.out))) : w.heap.size ≤ gb394))
                          have n6_ := Aside0.mk ((by rw [hg]; exact (below_size (by repeat (first | (with_reducible first | exact HB.out | apply below_alloc | apply pw_below_drewN | apply below_drew1 | refine below_set ?_ GE374.out | refine below_set ?_ GE382.out | refine below_set ?_ GE387.out) | exact HB.out))) : w.heap.size ≤ gb394))
                          have n7_ := Aside0.mk ((by rw [hg]; exact Nat.ne_of_lt (blk_lt (g := gb374) (o := .cells #[.bool a1_0, .string a1_1, .int .i64 a1_2] 23 (0, 0)) (by (with_reducible repeat (first | refine blk_drewN ?_ _ | refine blk_drew ?_ | refine blk_alloc ?_ _)); exact BK374.out)) : gb374 ≠ gb394))
                          have n8_ := Aside0.mk ((by rw [hg]; exact Nat.ne_of_gt (blk_lt (g := gb374) (o := .cells #[.bool a1_0, .string a1_1, .int .i64 a1_2] 23 (0, 0)) (by (with_reducible repeat (first | refine blk_drewN ?_ _ | refine blk_drew ?_ | refine blk_alloc ?_ _)); exact BK374.out)) : gb394 ≠ gb374))
                          have n9_ := Aside0.mk ((by rw [hg]; exact Nat.ne_of_lt (blk_lt (g := gb382) (o := .cells #[.bool t378, .string t379, .int .i64 t380] 23 (0, 0)) (by (with_reducible repeat (first | refine blk_drewN ?_ _ | refine blk_drew ?_ | refine blk_alloc ?_ _)); exact BK382.out)) : gb382 ≠ gb394))
                          have n10_ := Aside0.mk ((by rw [hg]; exact Nat.ne_of_gt (blk_lt (g := gb382) (o := .cells #[.bool t378, .string t379, .int .i64 t380] 23 (0, 0)) (by (with_reducible repeat (first | refine blk_drewN ?_ _ | refine blk_drew ?_ | refine blk_alloc ?_ _)); exact BK382.out)) : gb394 ≠ gb382))
                          have n11_ := Aside0.mk ((by rw [hg]; exact Nat.ne_of_lt (blk_lt (g := gb387) (o := .cells #[.bool t383, .string t384, .int .i64 t385] 23 (0, 0)) (by (with_reducible repeat (first | refine blk_drewN ?_ _ | refine blk_drew ?_ | refine blk_alloc ?_ _)); exact BK387.out)) : gb387 ≠ gb394))
                          have n12_ := Aside0.mk ((by rw [hg]; exact Nat.ne_of_gt (blk_lt (g := gb387) (o := .cells #[.bool t383, .string t384, .int .i64 t385] 23 (0, 0)) (by (with_reducible repeat (first | refine blk_drewN ?_ _ | refine blk_drew ?_ | refine blk_alloc ?_ _)); exact BK387.out)) : gb394 ≠ gb387))
                          clear BK374
                          clear BK382
                          clear BK387
                          clear HB
                          have BK374 := n0_
                          have BK382 := n1_
                          have BK387 := n2_
                          have HB := n3_
                          have BK394 := n4_
                          have GW394 := n5_
                          have GE394 := n6_
                          have NB374_394 := n7_
                          have NB394_374 := n8_
                          have NB382_394 := n9_
                          have NB394_382 := n10_
                          have NB387_394 := n11_
                          have NB394_387 := n12_
                          clear n0_ n1_ n2_ n3_ n4_ n5_ n6_ n7_ n8_ n9_ n10_ n11_ n12_
                          clear hb hbox hg
                          refine hK.out _ _ ⟨(blk_cell BK382.out 0).trans rfl, (blk_cell BK382.out 1).trans rfl, (blk_cell BK382.out 2).trans rfl, (blk_cell BK374.out 0).trans rfl, (blk_cell BK374.out 1).trans rfl, (blk_cell BK374.out 2).trans rfl⟩ (fun hHeld => ?_)
                          clear hK K
                          refine norm_ (a' := ?_) ?_ ?_
                          rotate_left
                          · show Act.put _ (some 13) _ = _
                            simp only [Act.put, List.setIfInBounds_toArray, List.set_cons_zero, List.set_cons_succ]; (try simp only [i64_w]); (try simp only [i32_w])
                            rfl
                          exact norm_ (by simp only [putAll, Act.put, List.setIfInBounds_toArray, List.set_cons_zero, List.set_cons_succ]) (hCont (gb394) _ ⟨hHeld, (by (with_reducible repeat (first | refine blk_drewN ?_ _ | refine blk_drew ?_ | refine blk_alloc ?_ _)); exact BK374.out), (by (with_reducible repeat (first | refine blk_drewN ?_ _ | refine blk_drew ?_ | refine blk_alloc ?_ _)); exact BK382.out), (by (with_reducible repeat (first | refine blk_drewN ?_ _ | refine blk_drew ?_ | refine blk_alloc ?_ _)); exact BK387.out), (by (with_reducible repeat (first | refine blk_drewN ?_ _ | refine blk_drew ?_ | refine blk_alloc ?_ _)); exact BK394.out), GW394.out, GE394.out, NB374_394.out, NB394_374.out, NB382_394.out, NB394_382.out, NB387_394.out, NB394_387.out, (by repeat (first | (with_reducible first | exact HB.out | apply below_alloc | apply pw_below_drewN | apply below_drew1 | refine below_set ?_ GE374.out | refine below_set ?_ GE382.out | refine below_set ?_ GE387.out | refine below_set ?_ GE394.out) | exact HB.out))⟩)
                        · skip
                          refine box_step ?hg (N := 13) ?hd (cs := #[.bool false, .string (⟨#[]⟩ : ByteArray), .int .i64 0]) (t := 23) ?hr ?_; (case hd => rfl); (case hg => rfl); (case hr => first | (go_simp; done) | (go_simp; rfl))
                          intro gb394 hg w402 hbox hb
                          have n0_ := Aside0.mk (blk_below (g := gb374) (o := .cells #[.bool a1_0, .string a1_1, .int .i64 a1_2] 23 (0, 0)) (by (with_reducible repeat (first | refine blk_drewN ?_ _ | refine blk_drew ?_ | refine blk_alloc ?_ _)); exact BK374.out) hb)
                          have n1_ := Aside0.mk (blk_below (g := gb382) (o := .cells #[.bool t378, .string t379, .int .i64 t380] 23 (0, 0)) (by (with_reducible repeat (first | refine blk_drewN ?_ _ | refine blk_drew ?_ | refine blk_alloc ?_ _)); exact BK382.out) hb)
                          have n2_ := Aside0.mk (blk_below (g := gb387) (o := .cells #[.bool t383, .string t384, .int .i64 t385] 23 (0, 0)) (by (with_reducible repeat (first | refine blk_drewN ?_ _ | refine blk_drew ?_ | refine blk_alloc ?_ _)); exact BK387.out) hb)
                          have n3_ := Aside0.mk (below_step (by repeat (first | (with_reducible first | exact HB.out | apply below_alloc | apply pw_below_drewN | apply below_drew1 | refine below_set ?_ GE374.out | refine below_set ?_ GE382.out | refine below_set ?_ GE387.out) | exact HB.out)) hb)
                          have n4_ := Aside0.mk (hbox)
                          have n5_ := Aside0.mk ((by rw [hg]; exact (below_size (by repeat (first | (with_reducible first | exact HB.out | apply below_alloc | apply pw_below_drewN | apply below_drew1 | refine below_set ?_ GE374.out | refine below_set ?_ GE382.out | refine below_set ?_ GE387.out) | exact HB.out))) : w.heap.size ≤ gb394))
                          have n6_ := Aside0.mk ((by rw [hg]; exact (below_size (by repeat (first | (with_reducible first | exact HB.out | apply below_alloc | apply pw_below_drewN | apply below_drew1 | refine below_set ?_ GE374.out | refine below_set ?_ GE382.out | refine below_set ?_ GE387.out) | exact HB.out))) : w.heap.size ≤ gb394))
                          have n7_ := Aside0.mk ((by rw [hg]; exact Nat.ne_of_lt (blk_lt (g := gb374) (o := .cells #[.bool a1_0, .string a1_1, .int .i64 a1_2] 23 (0, 0)) (by (with_reducible repeat (first | refine blk_drewN ?_ _ | refine blk_drew ?_ | refine blk_alloc ?_ _)); exact BK374.out)) : gb374 ≠ gb394))
                          have n8_ := Aside0.mk ((by rw [hg]; exact Nat.ne_of_gt (blk_lt (g := gb374) (o := .cells #[.bool a1_0, .string a1_1, .int .i64 a1_2] 23 (0, 0)) (by (with_reducible repeat (first | refine blk_drewN ?_ _ | refine blk_drew ?_ | refine blk_alloc ?_ _)); exact BK374.out)) : gb394 ≠ gb374))
                          have n9_ := Aside0.mk ((by rw [hg]; exact Nat.ne_of_lt (blk_lt (g := gb382) (o := .cells #[.bool t378, .string t379, .int .i64 t380] 23 (0, 0)) (by (with_reducible repeat (first | refine blk_drewN ?_ _ | refine blk_drew ?_ | refine blk_alloc ?_ _)); exact BK382.out)) : gb382 ≠ gb394))
                          have n10_ := Aside0.mk ((by rw [hg]; exact Nat.ne_of_gt (blk_lt (g := gb382) (o := .cells #[.bool t378, .string t379, .int .i64 t380] 23 (0, 0)) (by (with_reducible repeat (first | refine blk_drewN ?_ _ | refine blk_drew ?_ | refine blk_alloc ?_ _)); exact BK382.out)) : gb394 ≠ gb382))
                          have n11_ := Aside0.mk ((by rw [hg]; exact Nat.ne_of_lt (blk_lt (g := gb387) (o := .cells #[.bool t383, .string t384, .int .i64 t385] 23 (0, 0)) (by (with_reducible repeat (first | refine blk_drewN ?_ _ | refine blk_drew ?_ | refine blk_alloc ?_ _)); exact BK387.out)) : gb387 ≠ gb394))
                          have n12_ := Aside0.mk ((by rw [hg]; exact Nat.ne_of_gt (blk_lt (g := gb387) (o := .cells #[.bool t383, .string t384, .int .i64 t385] 23 (0, 0)) (by (with_reducible repeat (first | refine blk_drewN ?_ _ | refine blk_drew ?_ | refine blk_alloc ?_ _)); exact BK387.out)) : gb394 ≠ gb387))
                          clear BK374
                          clear BK382
                          clear BK387
                          clear HB
                          have BK374 := n0_
                          have BK382 := n1_
                          have BK387 := n2_
                          have HB := n3_
                          have BK394 := n4_
                          have GW394 := n5_
                          have GE394 := n6_
                          have NB374_394 := n7_
                          have NB394_374 := n8_
                          have NB382_394 := n9_
                          have NB394_382 := n10_
                          have NB387_394 := n11_
                          have NB394_387 := n12_
                          clear n0_ n1_ n2_ n3_ n4_ n5_ n6_ n7_ n8_ n9_ n10_ n11_ n12_
                          clear hb hbox hg
                          refine hK.out _ _ ⟨(blk_cell BK382.out 0).trans rfl, (blk_cell BK382.out 1).trans rfl, (blk_cell BK382.out 2).trans rfl, (blk_cell BK374.out 0).trans rfl, (blk_cell BK374.out 1).trans rfl, (blk_cell BK374.out 2).trans rfl⟩ (fun hHeld => ?_)
                          clear hK K
                          refine norm_ (a' := ?_) ?_ ?_
                          rotate_left
                          · show Act.put _ (some 13) _ = _
                            simp only [Act.put, List.setIfInBounds_toArray, List.set_cons_zero, List.set_cons_succ]; (try simp only [i64_w]); (try simp only [i32_w])
                            rfl
                          refine one_ (i := 3) (N := some 52) #[true, true, true, true, true, false] rfl rfl (by kernel_rfl) (by decide) (fun K hK => ?_)
                          refine goes_ Tryd.func13 (by kernel_rfl) rfl #[.agg #[.bool t378, .string t379, .int .i64 t380], .agg #[.bool t388, .string t389, .int .i64 t390]] (by rfl) rfl rfl (by (try simp only [List.map_toArray]); (try simp only [List.map_cons]); (try simp only [List.map_nil]); first | done | rfl | (simp only [List.length_drop, List.length_take]; rfl)) ?_
                          with_reducible refine (figureheadref05_Sum.calls kj4 t378 t379 t380 t388 t389 t390 t391 t392 t393 _ A26.out).mono ?_
                          rintro e w403 ⟨rfl, hb⟩
                          refine ⟨_, rfl, ?_⟩
                          have n0_ := Aside0.mk (blk_below (g := gb374) (o := .cells #[.bool a1_0, .string a1_1, .int .i64 a1_2] 23 (0, 0)) (by (with_reducible repeat (first | refine blk_drewN ?_ _ | refine blk_drew ?_ | refine blk_alloc ?_ _)); exact BK374.out) hb)
                          have n1_ := Aside0.mk (blk_below (g := gb382) (o := .cells #[.bool t378, .string t379, .int .i64 t380] 23 (0, 0)) (by (with_reducible repeat (first | refine blk_drewN ?_ _ | refine blk_drew ?_ | refine blk_alloc ?_ _)); exact BK382.out) hb)
                          have n2_ := Aside0.mk (blk_below (g := gb387) (o := .cells #[.bool t383, .string t384, .int .i64 t385] 23 (0, 0)) (by (with_reducible repeat (first | refine blk_drewN ?_ _ | refine blk_drew ?_ | refine blk_alloc ?_ _)); exact BK387.out) hb)
                          have n3_ := Aside0.mk (blk_below (g := gb394) (o := .cells #[.bool false, .string (⟨#[]⟩ : ByteArray), .int .i64 0] 23 (0, 0)) (by (with_reducible repeat (first | refine blk_drewN ?_ _ | refine blk_drew ?_ | refine blk_alloc ?_ _)); exact BK394.out) hb)
                          have n4_ := Aside0.mk (below_step (by repeat (first | (with_reducible first | exact HB.out | apply below_alloc | apply pw_below_drewN | apply below_drew1 | refine below_set ?_ GE374.out | refine below_set ?_ GE382.out | refine below_set ?_ GE387.out | refine below_set ?_ GE394.out) | exact HB.out)) hb)
                          clear BK374
                          clear BK382
                          clear BK387
                          clear BK394
                          clear HB
                          have BK374 := n0_
                          have BK382 := n1_
                          have BK387 := n2_
                          have BK394 := n3_
                          have HB := n4_
                          clear n0_ n1_ n2_ n3_ n4_
                          (try clear hb)
                          (try clear hb2)
                          (try clear hk)
                          (try clear hi)
                          refine hK.out _ _ ⟨(blk_cell BK382.out 0).trans rfl, (blk_cell BK382.out 1).trans rfl, (blk_cell BK382.out 2).trans rfl, (blk_cell BK374.out 0).trans rfl, (blk_cell BK374.out 1).trans rfl, (blk_cell BK374.out 2).trans rfl⟩ (fun hHeld => ?_)
                          clear hK K
                          refine norm_ (a' := ?_) ?_ ?_
                          rotate_left
                          · show Act.put _ (some 52) _ = _
                            simp only [Act.put, List.setIfInBounds_toArray, List.set_cons_zero, List.set_cons_succ]; (try simp only [i64_w]); (try simp only [i32_w])
                            rfl
                          exact norm_ (by simp only [putAll, Act.put, List.setIfInBounds_toArray, List.set_cons_zero, List.set_cons_succ]) (hCont (gb394) _ ⟨hHeld, (by (with_reducible repeat (first | refine blk_drewN ?_ _ | refine blk_drew ?_ | refine blk_alloc ?_ _)); exact BK374.out), (by (with_reducible repeat (first | refine blk_drewN ?_ _ | refine blk_drew ?_ | refine blk_alloc ?_ _)); exact BK382.out), (by (with_reducible repeat (first | refine blk_drewN ?_ _ | refine blk_drew ?_ | refine blk_alloc ?_ _)); exact BK387.out), (by (with_reducible repeat (first | refine blk_drewN ?_ _ | refine blk_drew ?_ | refine blk_alloc ?_ _)); exact BK394.out), GW394.out, GE394.out, NB374_394.out, NB394_374.out, NB382_394.out, NB394_382.out, NB387_394.out, NB394_387.out, (by repeat (first | (with_reducible first | exact HB.out | apply below_alloc | apply pw_below_drewN | apply below_drew1 | refine below_set ?_ GE374.out | refine below_set ?_ GE382.out | refine below_set ?_ GE387.out | refine below_set ?_ GE394.out) | exact HB.out))⟩)
                      · skip
                        refine box_step ?hg (N := 13) ?hd (cs := #[.bool false, .string (⟨#[]⟩ : ByteArray), .int .i64 0]) (t := 23) ?hr ?_; (case hd => rfl); (case hg => rfl); (case hr => first | (go_simp; done) | (go_simp; rfl))
                        intro gb394 hg w401 hbox hb
                        have n0_ := Aside0.mk (blk_below (g := gb374) (o := .cells #[.bool a1_0, .string a1_1, .int .i64 a1_2] 23 (0, 0)) (by (with_reducible repeat (first | refine blk_drewN ?_ _ | refine blk_drew ?_ | refine blk_alloc ?_ _)); exact BK374.out) hb)
                        have n1_ := Aside0.mk (blk_below (g := gb382) (o := .cells #[.bool t378, .string t379, .int .i64 t380] 23 (0, 0)) (by (with_reducible repeat (first | refine blk_drewN ?_ _ | refine blk_drew ?_ | refine blk_alloc ?_ _)); exact BK382.out) hb)
                        have n2_ := Aside0.mk (blk_below (g := gb387) (o := .cells #[.bool t383, .string t384, .int .i64 t385] 23 (0, 0)) (by (with_reducible repeat (first | refine blk_drewN ?_ _ | refine blk_drew ?_ | refine blk_alloc ?_ _)); exact BK387.out) hb)
                        have n3_ := Aside0.mk (below_step (by repeat (first | (with_reducible first | exact HB.out | apply below_alloc | apply pw_below_drewN | apply below_drew1 | refine below_set ?_ GE374.out | refine below_set ?_ GE382.out | refine below_set ?_ GE387.out) | exact HB.out)) hb)
                        have n4_ := Aside0.mk (hbox)
                        have n5_ := Aside0.mk ((by rw [hg]; exact (below_size (by repeat (first | (with_reducible first | exact HB.out | apply below_alloc | apply pw_below_drewN | apply below_drew1 | refine below_set ?_ GE374.out | refine below_set ?_ GE382.out | refine below_set ?_ GE387.out) | exact HB.out))) : w.heap.size ≤ gb394))
                        have n6_ := Aside0.mk ((by rw [hg]; exact (below_size (by repeat (first | (with_reducible first | exact HB.out | apply below_alloc | apply pw_below_drewN | apply below_drew1 | refine below_set ?_ GE374.out | refine below_set ?_ GE382.out | refine below_set ?_ GE387.out) | exact HB.out))) : w.heap.size ≤ gb394))
                        have n7_ := Aside0.mk ((by rw [hg]; exact Nat.ne_of_lt (blk_lt (g := gb374) (o := .cells #[.bool a1_0, .string a1_1, .int .i64 a1_2] 23 (0, 0)) (by (with_reducible repeat (first | refine blk_drewN ?_ _ | refine blk_drew ?_ | refine blk_alloc ?_ _)); exact BK374.out)) : gb374 ≠ gb394))
                        have n8_ := Aside0.mk ((by rw [hg]; exact Nat.ne_of_gt (blk_lt (g := gb374) (o := .cells #[.bool a1_0, .string a1_1, .int .i64 a1_2] 23 (0, 0)) (by (with_reducible repeat (first | refine blk_drewN ?_ _ | refine blk_drew ?_ | refine blk_alloc ?_ _)); exact BK374.out)) : gb394 ≠ gb374))
                        have n9_ := Aside0.mk ((by rw [hg]; exact Nat.ne_of_lt (blk_lt (g := gb382) (o := .cells #[.bool t378, .string t379, .int .i64 t380] 23 (0, 0)) (by (with_reducible repeat (first | refine blk_drewN ?_ _ | refine blk_drew ?_ | refine blk_alloc ?_ _)); exact BK382.out)) : gb382 ≠ gb394))
                        have n10_ := Aside0.mk ((by rw [hg]; exact Nat.ne_of_gt (blk_lt (g := gb382) (o := .cells #[.bool t378, .string t379, .int .i64 t380] 23 (0, 0)) (by (with_reducible repeat (first | refine blk_drewN ?_ _ | refine blk_drew ?_ | refine blk_alloc ?_ _)); exact BK382.out)) : gb394 ≠ gb382))
                        have n11_ := Aside0.mk ((by rw [hg]; exact Nat.ne_of_lt (blk_lt (g := gb387) (o := .cells #[.bool t383, .string t384, .int .i64 t385] 23 (0, 0)) (by (with_reducible repeat (first | refine blk_drewN ?_ _ | refine blk_drew ?_ | refine blk_alloc ?_ _)); exact BK387.out)) : gb387 ≠ gb394))
                        have n12_ := Aside0.mk ((by rw [hg]; exact Nat.ne_of_gt (blk_lt (g := gb387) (o := .cells #[.bool t383, .string t384, .int .i64 t385] 23 (0, 0)) (by (with_reducible repeat (first | refine blk_drewN ?_ _ | refine blk_drew ?_ | refine blk_alloc ?_ _)); exact BK387.out)) : gb394 ≠ gb387))
                        clear BK374
                        clear BK382
                        clear BK387
                        clear HB
                        have BK374 := n0_
                        have BK382 := n1_
                        have BK387 := n2_
                        have HB := n3_
                        have BK394 := n4_
                        have GW394 := n5_
                        have GE394 := n6_
                        have NB374_394 := n7_
                        have NB394_374 := n8_
                        have NB382_394 := n9_
                        have NB394_382 := n10_
                        have NB387_394 := n11_
                        have NB394_387 := n12_
                        clear n0_ n1_ n2_ n3_ n4_ n5_ n6_ n7_ n8_ n9_ n10_ n11_ n12_
                        clear hb hbox hg
                        refine hK.out _ _ ⟨(blk_cell BK382.out 0).trans rfl, (blk_cell BK382.out 1).trans rfl, (blk_cell BK382.out 2).trans rfl, (blk_cell BK374.out 0).trans rfl, (blk_cell BK374.out 1).trans rfl, (blk_cell BK374.out 2).trans rfl⟩ (fun hHeld => ?_)
                        clear hK K
                        refine norm_ (a' := ?_) ?_ ?_
                        rotate_left
                        · show Act.put _ (some 13) _ = _
                          simp only [Act.put, List.setIfInBounds_toArray, List.set_cons_zero, List.set_cons_succ]; (try simp only [i64_w]); (try simp only [i32_w])
                          rfl
                        refine one_ (i := 2) (N := some 51) #[true, true, true, false, true, false] rfl rfl (by kernel_rfl) (by decide) (fun K hK => ?_)
                        refine goes_ Tryd.func14 (by kernel_rfl) rfl #[.agg #[.bool a1_0, .string a1_1, .int .i64 a1_2]] (by rfl) rfl rfl (by (try simp only [List.map_toArray]); (try simp only [List.map_cons]); (try simp only [List.map_nil]); first | done | rfl | (simp only [List.length_drop, List.length_take]; rfl)) ?_
                        with_reducible refine (figureheadref05_Turn.calls a1_0 a1_1 a1_2 t388 t389 t390 _ A25.out).mono ?_
                        rintro e w402 ⟨rfl, hb⟩
                        refine ⟨_, rfl, ?_⟩
                        have n0_ := Aside0.mk (blk_below (g := gb374) (o := .cells #[.bool a1_0, .string a1_1, .int .i64 a1_2] 23 (0, 0)) (by (with_reducible repeat (first | refine blk_drewN ?_ _ | refine blk_drew ?_ | refine blk_alloc ?_ _)); exact BK374.out) hb)
                        have n1_ := Aside0.mk (blk_below (g := gb382) (o := .cells #[.bool t378, .string t379, .int .i64 t380] 23 (0, 0)) (by (with_reducible repeat (first | refine blk_drewN ?_ _ | refine blk_drew ?_ | refine blk_alloc ?_ _)); exact BK382.out) hb)
                        have n2_ := Aside0.mk (blk_below (g := gb387) (o := .cells #[.bool t383, .string t384, .int .i64 t385] 23 (0, 0)) (by (with_reducible repeat (first | refine blk_drewN ?_ _ | refine blk_drew ?_ | refine blk_alloc ?_ _)); exact BK387.out) hb)
                        have n3_ := Aside0.mk (blk_below (g := gb394) (o := .cells #[.bool false, .string (⟨#[]⟩ : ByteArray), .int .i64 0] 23 (0, 0)) (by (with_reducible repeat (first | refine blk_drewN ?_ _ | refine blk_drew ?_ | refine blk_alloc ?_ _)); exact BK394.out) hb)
                        have n4_ := Aside0.mk (below_step (by repeat (first | (with_reducible first | exact HB.out | apply below_alloc | apply pw_below_drewN | apply below_drew1 | refine below_set ?_ GE374.out | refine below_set ?_ GE382.out | refine below_set ?_ GE387.out | refine below_set ?_ GE394.out) | exact HB.out)) hb)
                        clear BK374
                        clear BK382
                        clear BK387
                        clear BK394
                        clear HB
                        have BK374 := n0_
                        have BK382 := n1_
                        have BK387 := n2_
                        have BK394 := n3_
                        have HB := n4_
                        clear n0_ n1_ n2_ n3_ n4_
                        (try clear hb)
                        (try clear hb2)
                        (try clear hk)
                        (try clear hi)
                        refine hK.out _ _ ⟨(blk_cell BK382.out 0).trans rfl, (blk_cell BK382.out 1).trans rfl, (blk_cell BK382.out 2).trans rfl, (blk_cell BK374.out 0).trans rfl, (blk_cell BK374.out 1).trans rfl, (blk_cell BK374.out 2).trans rfl⟩ (fun hHeld => ?_)
                        clear hK K
                        refine norm_ (a' := ?_) ?_ ?_
                        rotate_left
                        · show Act.put _ (some 51) _ = _
                          simp only [Act.put, List.setIfInBounds_toArray, List.set_cons_zero, List.set_cons_succ]; (try simp only [i64_w]); (try simp only [i32_w])
                          rfl
                        refine one_ (i := 3) (N := some 52) #[true, true, true, true, true, false] rfl rfl (by kernel_rfl) (by decide) (fun K hK => ?_)
                        refine goes_ Tryd.func13 (by kernel_rfl) rfl #[.agg #[.bool t378, .string t379, .int .i64 t380], .agg #[.bool t388, .string t389, .int .i64 t390]] (by rfl) rfl rfl (by (try simp only [List.map_toArray]); (try simp only [List.map_cons]); (try simp only [List.map_nil]); first | done | rfl | (simp only [List.length_drop, List.length_take]; rfl)) ?_
                        with_reducible refine (figureheadref05_Sum.calls kj4 t378 t379 t380 t388 t389 t390 t391 t392 t393 _ A26.out).mono ?_
                        rintro e w403 ⟨rfl, hb⟩
                        refine ⟨_, rfl, ?_⟩
                        have n0_ := Aside0.mk (blk_below (g := gb374) (o := .cells #[.bool a1_0, .string a1_1, .int .i64 a1_2] 23 (0, 0)) (by (with_reducible repeat (first | refine blk_drewN ?_ _ | refine blk_drew ?_ | refine blk_alloc ?_ _)); exact BK374.out) hb)
                        have n1_ := Aside0.mk (blk_below (g := gb382) (o := .cells #[.bool t378, .string t379, .int .i64 t380] 23 (0, 0)) (by (with_reducible repeat (first | refine blk_drewN ?_ _ | refine blk_drew ?_ | refine blk_alloc ?_ _)); exact BK382.out) hb)
                        have n2_ := Aside0.mk (blk_below (g := gb387) (o := .cells #[.bool t383, .string t384, .int .i64 t385] 23 (0, 0)) (by (with_reducible repeat (first | refine blk_drewN ?_ _ | refine blk_drew ?_ | refine blk_alloc ?_ _)); exact BK387.out) hb)
                        have n3_ := Aside0.mk (blk_below (g := gb394) (o := .cells #[.bool false, .string (⟨#[]⟩ : ByteArray), .int .i64 0] 23 (0, 0)) (by (with_reducible repeat (first | refine blk_drewN ?_ _ | refine blk_drew ?_ | refine blk_alloc ?_ _)); exact BK394.out) hb)
                        have n4_ := Aside0.mk (below_step (by repeat (first | (with_reducible first | exact HB.out | apply below_alloc | apply pw_below_drewN | apply below_drew1 | refine below_set ?_ GE374.out | refine below_set ?_ GE382.out | refine below_set ?_ GE387.out | refine below_set ?_ GE394.out) | exact HB.out)) hb)
                        clear BK374
                        clear BK382
                        clear BK387
                        clear BK394
                        clear HB
                        have BK374 := n0_
                        have BK382 := n1_
                        have BK387 := n2_
                        have BK394 := n3_
                        have HB := n4_
                        clear n0_ n1_ n2_ n3_ n4_
                        (try clear hb)
                        (try clear hb2)
                        (try clear hk)
                        (try clear hi)
                        refine hK.out _ _ ⟨(blk_cell BK382.out 0).trans rfl, (blk_cell BK382.out 1).trans rfl, (blk_cell BK382.out 2).trans rfl, (blk_cell BK374.out 0).trans rfl, (blk_cell BK374.out 1).trans rfl, (blk_cell BK374.out 2).trans rfl⟩ (fun hHeld => ?_)
                        clear hK K
                        refine norm_ (a' := ?_) ?_ ?_
                        rotate_left
                        · show Act.put _ (some 52) _ = _
                          simp only [Act.put, List.setIfInBounds_toArray, List.set_cons_zero, List.set_cons_succ]; (try simp only [i64_w]); (try simp only [i32_w])
                          rfl
                        exact norm_ (by simp only [putAll, Act.put, List.setIfInBounds_toArray, List.set_cons_zero, List.set_cons_succ]) (hCont (gb394) _ ⟨hHeld, (by (with_reducible repeat (first | refine blk_drewN ?_ _ | refine blk_drew ?_ | refine blk_alloc ?_ _)); exact BK374.out), (by (with_reducible repeat (first | refine blk_drewN ?_ _ | refine blk_drew ?_ | refine blk_alloc ?_ _)); exact BK382.out), (by (with_reducible repeat (first | refine blk_drewN ?_ _ | refine blk_drew ?_ | refine blk_alloc ?_ _)); exact BK387.out), (by (with_reducible repeat (first | refine blk_drewN ?_ _ | refine blk_drew ?_ | refine blk_alloc ?_ _)); exact BK394.out), GW394.out, GE394.out, NB374_394.out, NB394_374.out, NB382_394.out, NB394_382.out, NB387_394.out, NB394_387.out, (by repeat (first | (with_reducible first | exact HB.out | apply below_alloc | apply pw_below_drewN | apply below_drew1 | refine below_set ?_ GE374.out | refine below_set ?_ GE382.out | refine below_set ?_ GE387.out | refine below_set ?_ GE394.out) | exact HB.out))⟩)
                    rintro gb394 w404 ⟨hS_, h0_, h1_, h2_, h3_, h4_, h5_, h6_, h7_, h8_, h9_, h10_, h11_, h12_⟩
                    have n0_ : Aside0 (w404.heap[gb374]? = some (.cells #[.bool a1_0, .string a1_1, .int .i64 a1_2] 23 (0, 0))) := ⟨h0_⟩
                    have n1_ : Aside0 (w404.heap[gb382]? = some (.cells #[.bool t378, .string t379, .int .i64 t380] 23 (0, 0))) := ⟨h1_⟩
                    have n2_ : Aside0 (w404.heap[gb387]? = some (.cells #[.bool t383, .string t384, .int .i64 t385] 23 (0, 0))) := ⟨h2_⟩
                    have n3_ : Aside0 (w404.heap[gb394]? = some (.cells #[.bool false, .string (⟨#[]⟩ : ByteArray), .int .i64 0] 23 (0, 0))) := ⟨h3_⟩
                    have n4_ : Aside0 (w.heap.size ≤ gb394) := ⟨h4_⟩
                    have n5_ : Aside0 (w.heap.size ≤ gb394) := ⟨h5_⟩
                    have n6_ : Aside0 (gb374 ≠ gb394) := ⟨h6_⟩
                    have n7_ : Aside0 (gb394 ≠ gb374) := ⟨h7_⟩
                    have n8_ : Aside0 (gb382 ≠ gb394) := ⟨h8_⟩
                    have n9_ : Aside0 (gb394 ≠ gb382) := ⟨h9_⟩
                    have n10_ : Aside0 (gb387 ≠ gb394) := ⟨h10_⟩
                    have n11_ : Aside0 (gb394 ≠ gb387) := ⟨h11_⟩
                    have n12_ : Aside0 (Below w.heap.size w w404) := ⟨h12_⟩
                    clear BK374
                    clear BK382
                    clear BK387
                    clear HB
                    clear h0_ h1_ h2_ h3_ h4_ h5_ h6_ h7_ h8_ h9_ h10_ h11_ h12_
                    have BK374 := n0_
                    have BK382 := n1_
                    have BK387 := n2_
                    have BK394 := n3_
                    have GW394 := n4_
                    have GE394 := n5_
                    have NB374_394 := n6_
                    have NB394_374 := n7_
                    have NB382_394 := n8_
                    have NB394_382 := n9_
                    have NB387_394 := n10_
                    have NB394_387 := n11_
                    have HB := n12_
                    clear n0_ n1_ n2_ n3_ n4_ n5_ n6_ n7_ n8_ n9_ n10_ n11_ n12_
                    have hHeld : w404.cell? ⟨gb382, 0, none⟩ = some (.bool t378) ∧ w404.cell? ⟨gb382, 1, none⟩ = some (.string t379) ∧ w404.cell? ⟨gb382, 2, none⟩ = some (.int .i64 t380) ∧ w404.cell? ⟨gb374, 0, none⟩ = some (.bool a1_0) ∧ w404.cell? ⟨gb374, 1, none⟩ = some (.string a1_1) ∧ w404.cell? ⟨gb374, 2, none⟩ = some (.int .i64 a1_2) := hS_
                    refine norm_ (a' := ?_) ?_ ?_
                    rotate_left
                    · simp only [putAll, Act.put, List.setIfInBounds_toArray, List.set_cons_zero, List.set_cons_succ]
                      rfl
                    refine one_ (i := 5) (N := none) #[true, true, true, true, true, true] rfl rfl (by kernel_rfl) (by decide) (fun K hK => ?_)
                    have hs405 : w404.cell? ⟨gb394, 0, none⟩ = some (.bool false) := (blk_cell BK394.out 0).trans rfl
                    have hfs405 := blk_frozen BK394.out 0
                    have hns405_0 := NB374_394.out
                    have hns405_1 := NB382_394.out
                    have hns405_2 := NB387_394.out
                    have hms405_0 := NB394_374.out
                    have hms405_1 := NB394_382.out
                    have hms405_2 := NB394_387.out
                    have hs406 : w404.cell? ⟨gb394, 1, none⟩ = some (.string (⟨#[]⟩ : ByteArray)) := (blk_cell BK394.out 1).trans rfl
                    have hfs406 := blk_frozen BK394.out 1
                    have hns406_0 := NB374_394.out
                    have hns406_1 := NB382_394.out
                    have hns406_2 := NB387_394.out
                    have hms406_0 := NB394_374.out
                    have hms406_1 := NB394_382.out
                    have hms406_2 := NB394_387.out
                    have hs407 : w404.cell? ⟨gb394, 2, none⟩ = some (.int .i64 0) := (blk_cell BK394.out 2).trans rfl
                    have hfs407 := blk_frozen BK394.out 2
                    have hns407_0 := NB374_394.out
                    have hns407_1 := NB382_394.out
                    have hns407_2 := NB387_394.out
                    have hms407_0 := NB394_374.out
                    have hms407_1 := NB394_382.out
                    have hms407_2 := NB394_387.out
                    refine skip_ (w1 := ?_) (by rfl) rfl ?_ ?_
                    rotate_left
                    · go_simp
                      rfl
                    refine hK.out _ _ ⟨((cell_far (p := ⟨gb394, _, none⟩) NB382_394.out _).trans (((cell_far (p := ⟨gb394, _, none⟩) NB382_394.out _).trans (((cell_far (p := ⟨gb394, _, none⟩) NB382_394.out _).trans (hHeld.1)))))), ((cell_far (p := ⟨gb394, _, none⟩) NB382_394.out _).trans (((cell_far (p := ⟨gb394, _, none⟩) NB382_394.out _).trans (((cell_far (p := ⟨gb394, _, none⟩) NB382_394.out _).trans (hHeld.2.1)))))), ((cell_far (p := ⟨gb394, _, none⟩) NB382_394.out _).trans (((cell_far (p := ⟨gb394, _, none⟩) NB382_394.out _).trans (((cell_far (p := ⟨gb394, _, none⟩) NB382_394.out _).trans (hHeld.2.2.1)))))), ((cell_far (p := ⟨gb394, _, none⟩) NB374_394.out _).trans (((cell_far (p := ⟨gb394, _, none⟩) NB374_394.out _).trans (((cell_far (p := ⟨gb394, _, none⟩) NB374_394.out _).trans (hHeld.2.2.2.1)))))), ((cell_far (p := ⟨gb394, _, none⟩) NB374_394.out _).trans (((cell_far (p := ⟨gb394, _, none⟩) NB374_394.out _).trans (((cell_far (p := ⟨gb394, _, none⟩) NB374_394.out _).trans (hHeld.2.2.2.2.1)))))), ((cell_far (p := ⟨gb394, _, none⟩) NB374_394.out _).trans (((cell_far (p := ⟨gb394, _, none⟩) NB374_394.out _).trans (((cell_far (p := ⟨gb394, _, none⟩) NB374_394.out _).trans (hHeld.2.2.2.2.2))))))⟩ (fun hHeld => ?_)
                    clear hK K
                    refine done_ (by kernel_rfl) ?_
                    have hnb408 := NB394_374.out
                    have hnc408 := NB374_394.out
                    have hnb409 := NB394_382.out
                    have hnc409 := NB382_394.out
                    have hnb410 := NB394_387.out
                    have hnc410 := NB387_394.out
                    have hcz411_0 : w404.cell? ⟨gb394, 0, none⟩ = some (.bool false) := (blk_cell BK394.out 0).trans rfl
                    have hcz411_1 : w404.cell? ⟨gb394, 1, none⟩ = some (.string (⟨#[]⟩ : ByteArray)) := (blk_cell BK394.out 1).trans rfl
                    have hcz411_2 : w404.cell? ⟨gb394, 2, none⟩ = some (.int .i64 0) := (blk_cell BK394.out 2).trans rfl
                    have hfz411_0 := blk_frozen BK394.out 0
                    have hfz411_1 := blk_frozen BK394.out 1
                    have hfz411_2 := blk_frozen BK394.out 2
                    try go_wp2_with (first | ((with_reducible refine gate_dst (N := 14) rfl ?_); refine box_event ?hg (N := 14) ?hd (cs := #[.bool false, .string (⟨#[]⟩ : ByteArray), .int .i64 0]) (t := 23) ?hr ?_; (case hd => rfl); (case hg => rfl); (case hr => first | (go_simp; done) | (go_simp; rfl)); intro gb395 hg w412 hbox hb; have n0_ := Aside0.mk (blk_below (g := gb374) (o := .cells #[.bool a1_0, .string a1_1, .int .i64 a1_2] 23 (0, 0)) (by (with_reducible repeat (first | refine blk_drewN ?_ _ | refine blk_drew ?_ | refine blk_alloc ?_ _)); refine blk_far ?_ NB374_394.out _; (with_reducible repeat (first | refine blk_drewN ?_ _ | refine blk_drew ?_ | refine blk_alloc ?_ _)); refine blk_far ?_ NB374_394.out _; (with_reducible repeat (first | refine blk_drewN ?_ _ | refine blk_drew ?_ | refine blk_alloc ?_ _)); refine blk_far ?_ NB374_394.out _; (with_reducible repeat (first | refine blk_drewN ?_ _ | refine blk_drew ?_ | refine blk_alloc ?_ _)); exact BK374.out) hb); have n1_ := Aside0.mk (blk_below (g := gb382) (o := .cells #[.bool t378, .string t379, .int .i64 t380] 23 (0, 0)) (by (with_reducible repeat (first | refine blk_drewN ?_ _ | refine blk_drew ?_ | refine blk_alloc ?_ _)); refine blk_far ?_ NB382_394.out _; (with_reducible repeat (first | refine blk_drewN ?_ _ | refine blk_drew ?_ | refine blk_alloc ?_ _)); refine blk_far ?_ NB382_394.out _; (with_reducible repeat (first | refine blk_drewN ?_ _ | refine blk_drew ?_ | refine blk_alloc ?_ _)); refine blk_far ?_ NB382_394.out _; (with_reducible repeat (first | refine blk_drewN ?_ _ | refine blk_drew ?_ | refine blk_alloc ?_ _)); exact BK382.out) hb); have n2_ := Aside0.mk (blk_below (g := gb387) (o := .cells #[.bool t383, .string t384, .int .i64 t385] 23 (0, 0)) (by (with_reducible repeat (first | refine blk_drewN ?_ _ | refine blk_drew ?_ | refine blk_alloc ?_ _)); refine blk_far ?_ NB387_394.out _; (with_reducible repeat (first | refine blk_drewN ?_ _ | refine blk_drew ?_ | refine blk_alloc ?_ _)); refine blk_far ?_ NB387_394.out _; (with_reducible repeat (first | refine blk_drewN ?_ _ | refine blk_drew ?_ | refine blk_alloc ?_ _)); refine blk_far ?_ NB387_394.out _; (with_reducible repeat (first | refine blk_drewN ?_ _ | refine blk_drew ?_ | refine blk_alloc ?_ _)); exact BK387.out) hb); have n3_ := Aside0.mk (blk_below (g := gb394) (o := .cells #[.bool t391, .string t392, .int .i64 t393] 23 (0, 0)) (by (with_reducible repeat (first | refine blk_drewN ?_ _ | refine blk_drew ?_ | refine blk_alloc ?_ _)); refine blk_put (cs := #[.bool t391, .string t392, .int .i64 0]) ?_ 2 _ rfl; (with_reducible repeat (first | refine blk_drewN ?_ _ | refine blk_drew ?_ | refine blk_alloc ?_ _)); refine blk_put (cs := #[.bool t391, .string (⟨#[]⟩ : ByteArray), .int .i64 0]) ?_ 1 _ rfl; (with_reducible repeat (first | refine blk_drewN ?_ _ | refine blk_drew ?_ | refine blk_alloc ?_ _)); refine blk_put (cs := #[.bool false, .string (⟨#[]⟩ : ByteArray), .int .i64 0]) ?_ 0 _ rfl; (with_reducible repeat (first | refine blk_drewN ?_ _ | refine blk_drew ?_ | refine blk_alloc ?_ _)); exact BK394.out) hb); have n4_ := Aside0.mk (below_step (by repeat (first | (with_reducible first | exact HB.out | apply below_alloc | apply pw_below_drewN | apply below_drew1 | refine below_set ?_ GE374.out | refine below_set ?_ GE382.out | refine below_set ?_ GE387.out | refine below_set ?_ GE394.out) | exact HB.out)) hb); have n5_ := Aside0.mk (hbox); have n6_ := Aside0.mk ((by rw [hg]; exact (below_size (by repeat (first | (with_reducible first | exact HB.out | apply below_alloc | apply pw_below_drewN | apply below_drew1 | refine below_set ?_ GE374.out | refine below_set ?_ GE382.out | refine below_set ?_ GE387.out | refine below_set ?_ GE394.out) | exact HB.out))) : w.heap.size ≤ gb395)); have n7_ := Aside0.mk ((by rw [hg]; exact (below_size (by repeat (first | (with_reducible first | exact HB.out | apply below_alloc | apply pw_below_drewN | apply below_drew1 | refine below_set ?_ GE374.out | refine below_set ?_ GE382.out | refine below_set ?_ GE387.out | refine below_set ?_ GE394.out) | exact HB.out))) : w.heap.size ≤ gb395)); have n8_ := Aside0.mk ((by rw [hg]; exact Nat.ne_of_lt (blk_lt (g := gb374) (o := .cells #[.bool a1_0, .string a1_1, .int .i64 a1_2] 23 (0, 0)) (by (with_reducible repeat (first | refine blk_drewN ?_ _ | refine blk_drew ?_ | refine blk_alloc ?_ _)); refine blk_far ?_ NB374_394.out _; (with_reducible repeat (first | refine blk_drewN ?_ _ | refine blk_drew ?_ | refine blk_alloc ?_ _)); refine blk_far ?_ NB374_394.out _; (with_reducible repeat (first | refine blk_drewN ?_ _ | refine blk_drew ?_ | refine blk_alloc ?_ _)); refine blk_far ?_ NB374_394.out _; (with_reducible repeat (first | refine blk_drewN ?_ _ | refine blk_drew ?_ | refine blk_alloc ?_ _)); exact BK374.out)) : gb374 ≠ gb395)); have n9_ := Aside0.mk ((by rw [hg]; exact Nat.ne_of_gt (blk_lt (g := gb374) (o := .cells #[.bool a1_0, .string a1_1, .int .i64 a1_2] 23 (0, 0)) (by (with_reducible repeat (first | refine blk_drewN ?_ _ | refine blk_drew ?_ | refine blk_alloc ?_ _)); refine blk_far ?_ NB374_394.out _; (with_reducible repeat (first | refine blk_drewN ?_ _ | refine blk_drew ?_ | refine blk_alloc ?_ _)); refine blk_far ?_ NB374_394.out _; (with_reducible repeat (first | refine blk_drewN ?_ _ | refine blk_drew ?_ | refine blk_alloc ?_ _)); refine blk_far ?_ NB374_394.out _; (with_reducible repeat (first | refine blk_drewN ?_ _ | refine blk_drew ?_ | refine blk_alloc ?_ _)); exact BK374.out)) : gb395 ≠ gb374)); have n10_ := Aside0.mk ((by rw [hg]; exact Nat.ne_of_lt (blk_lt (g := gb382) (o := .cells #[.bool t378, .string t379, .int .i64 t380] 23 (0, 0)) (by (with_reducible repeat (first | refine blk_drewN ?_ _ | refine blk_drew ?_ | refine blk_alloc ?_ _)); refine blk_far ?_ NB382_394.out _; (with_reducible repeat (first | refine blk_drewN ?_ _ | refine blk_drew ?_ | refine blk_alloc ?_ _)); refine blk_far ?_ NB382_394.out _; (with_reducible repeat (first | refine blk_drewN ?_ _ | refine blk_drew ?_ | refine blk_alloc ?_ _)); refine blk_far ?_ NB382_394.out _; (with_reducible repeat (first | refine blk_drewN ?_ _ | refine blk_drew ?_ | refine blk_alloc ?_ _)); exact BK382.out)) : gb382 ≠ gb395)); have n11_ := Aside0.mk ((by rw [hg]; exact Nat.ne_of_gt (blk_lt (g := gb382) (o := .cells #[.bool t378, .string t379, .int .i64 t380] 23 (0, 0)) (by (with_reducible repeat (first | refine blk_drewN ?_ _ | refine blk_drew ?_ | refine blk_alloc ?_ _)); refine blk_far ?_ NB382_394.out _; (with_reducible repeat (first | refine blk_drewN ?_ _ | refine blk_drew ?_ | refine blk_alloc ?_ _)); refine blk_far ?_ NB382_394.out _; (with_reducible repeat (first | refine blk_drewN ?_ _ | refine blk_drew ?_ | refine blk_alloc ?_ _)); refine blk_far ?_ NB382_394.out _; (with_reducible repeat (first | refine blk_drewN ?_ _ | refine blk_drew ?_ | refine blk_alloc ?_ _)); exact BK382.out)) : gb395 ≠ gb382)); have n12_ := Aside0.mk ((by rw [hg]; exact Nat.ne_of_lt (blk_lt (g := gb387) (o := .cells #[.bool t383, .string t384, .int .i64 t385] 23 (0, 0)) (by (with_reducible repeat (first | refine blk_drewN ?_ _ | refine blk_drew ?_ | refine blk_alloc ?_ _)); refine blk_far ?_ NB387_394.out _; (with_reducible repeat (first | refine blk_drewN ?_ _ | refine blk_drew ?_ | refine blk_alloc ?_ _)); refine blk_far ?_ NB387_394.out _; (with_reducible repeat (first | refine blk_drewN ?_ _ | refine blk_drew ?_ | refine blk_alloc ?_ _)); refine blk_far ?_ NB387_394.out _; (with_reducible repeat (first | refine blk_drewN ?_ _ | refine blk_drew ?_ | refine blk_alloc ?_ _)); exact BK387.out)) : gb387 ≠ gb395)); have n13_ := Aside0.mk ((by rw [hg]; exact Nat.ne_of_gt (blk_lt (g := gb387) (o := .cells #[.bool t383, .string t384, .int .i64 t385] 23 (0, 0)) (by (with_reducible repeat (first | refine blk_drewN ?_ _ | refine blk_drew ?_ | refine blk_alloc ?_ _)); refine blk_far ?_ NB387_394.out _; (with_reducible repeat (first | refine blk_drewN ?_ _ | refine blk_drew ?_ | refine blk_alloc ?_ _)); refine blk_far ?_ NB387_394.out _; (with_reducible repeat (first | refine blk_drewN ?_ _ | refine blk_drew ?_ | refine blk_alloc ?_ _)); refine blk_far ?_ NB387_394.out _; (with_reducible repeat (first | refine blk_drewN ?_ _ | refine blk_drew ?_ | refine blk_alloc ?_ _)); exact BK387.out)) : gb395 ≠ gb387)); have n14_ := Aside0.mk ((by rw [hg]; exact Nat.ne_of_lt (blk_lt (g := gb394) (o := .cells #[.bool t391, .string t392, .int .i64 t393] 23 (0, 0)) (by (with_reducible repeat (first | refine blk_drewN ?_ _ | refine blk_drew ?_ | refine blk_alloc ?_ _)); refine blk_put (cs := #[.bool t391, .string t392, .int .i64 0]) ?_ 2 _ rfl; (with_reducible repeat (first | refine blk_drewN ?_ _ | refine blk_drew ?_ | refine blk_alloc ?_ _)); refine blk_put (cs := #[.bool t391, .string (⟨#[]⟩ : ByteArray), .int .i64 0]) ?_ 1 _ rfl; (with_reducible repeat (first | refine blk_drewN ?_ _ | refine blk_drew ?_ | refine blk_alloc ?_ _)); refine blk_put (cs := #[.bool false, .string (⟨#[]⟩ : ByteArray), .int .i64 0]) ?_ 0 _ rfl; (with_reducible repeat (first | refine blk_drewN ?_ _ | refine blk_drew ?_ | refine blk_alloc ?_ _)); exact BK394.out)) : gb394 ≠ gb395)); have n15_ := Aside0.mk ((by rw [hg]; exact Nat.ne_of_gt (blk_lt (g := gb394) (o := .cells #[.bool t391, .string t392, .int .i64 t393] 23 (0, 0)) (by (with_reducible repeat (first | refine blk_drewN ?_ _ | refine blk_drew ?_ | refine blk_alloc ?_ _)); refine blk_put (cs := #[.bool t391, .string t392, .int .i64 0]) ?_ 2 _ rfl; (with_reducible repeat (first | refine blk_drewN ?_ _ | refine blk_drew ?_ | refine blk_alloc ?_ _)); refine blk_put (cs := #[.bool t391, .string (⟨#[]⟩ : ByteArray), .int .i64 0]) ?_ 1 _ rfl; (with_reducible repeat (first | refine blk_drewN ?_ _ | refine blk_drew ?_ | refine blk_alloc ?_ _)); refine blk_put (cs := #[.bool false, .string (⟨#[]⟩ : ByteArray), .int .i64 0]) ?_ 0 _ rfl; (with_reducible repeat (first | refine blk_drewN ?_ _ | refine blk_drew ?_ | refine blk_alloc ?_ _)); exact BK394.out)) : gb395 ≠ gb394)); clear BK374; clear BK382; clear BK387; clear BK394; clear HB; have BK374 := n0_; have BK382 := n1_; have BK387 := n2_; have BK394 := n3_; have HB := n4_; have BK395 := n5_; have GW395 := n6_; have GE395 := n7_; have NB374_395 := n8_; have NB395_374 := n9_; have NB382_395 := n10_; have NB395_382 := n11_; have NB387_395 := n12_; have NB395_387 := n13_; have NB394_395 := n14_; have NB395_394 := n15_; clear n0_ n1_ n2_ n3_ n4_ n5_ n6_ n7_ n8_ n9_ n10_ n11_ n12_ n13_ n14_ n15_; clear hb hbox hg; have hnb413 := NB395_374.out; have hnc413 := NB374_395.out; have hnb414 := NB395_382.out; have hnc414 := NB382_395.out; have hnb415 := NB395_387.out; have hnc415 := NB387_395.out; have hnb416 := NB395_394.out; have hnc416 := NB394_395.out; have hcz417_0 : w412.cell? ⟨gb395, 0, none⟩ = some (.bool false) := (blk_cell BK395.out 0).trans rfl; have hcz417_1 : w412.cell? ⟨gb395, 1, none⟩ = some (.string (⟨#[]⟩ : ByteArray)) := (blk_cell BK395.out 1).trans rfl; have hcz417_2 : w412.cell? ⟨gb395, 2, none⟩ = some (.int .i64 0) := (blk_cell BK395.out 2).trans rfl; have hfz417_0 := blk_frozen BK395.out 0; have hfz417_1 := blk_frozen BK395.out 1; have hfz417_2 := blk_frozen BK395.out 2) | ((with_reducible refine gate_dst (N := 15) rfl ?_); refine box_event ?hg (N := 15) ?hd (cs := #[.bool false, .string (⟨#[]⟩ : ByteArray), .int .i64 0]) (t := 23) ?hr ?_; (case hd => rfl); (case hg => rfl); (case hr => first | (go_simp; done) | (go_simp; rfl)); intro gb396 hg w418 hbox hb; have n0_ := Aside0.mk (blk_below (g := gb374) (o := .cells #[.bool a1_0, .string a1_1, .int .i64 a1_2] 23 (0, 0)) (by (with_reducible repeat (first | refine blk_drewN ?_ _ | refine blk_drew ?_ | refine blk_alloc ?_ _)); refine blk_far ?_ NB374_395.out _; (with_reducible repeat (first | refine blk_drewN ?_ _ | refine blk_drew ?_ | refine blk_alloc ?_ _)); refine blk_far ?_ NB374_395.out _; (with_reducible repeat (first | refine blk_drewN ?_ _ | refine blk_drew ?_ | refine blk_alloc ?_ _)); refine blk_far ?_ NB374_395.out _; (with_reducible repeat (first | refine blk_drewN ?_ _ | refine blk_drew ?_ | refine blk_alloc ?_ _)); refine blk_far ?_ NB374_395.out _; (with_reducible repeat (first | refine blk_drewN ?_ _ | refine blk_drew ?_ | refine blk_alloc ?_ _)); exact BK374.out) hb); have n1_ := Aside0.mk (blk_below (g := gb382) (o := .cells #[.bool t378, .string t379, .int .i64 t380] 23 (0, 0)) (by (with_reducible repeat (first | refine blk_drewN ?_ _ | refine blk_drew ?_ | refine blk_alloc ?_ _)); refine blk_far ?_ NB382_395.out _; (with_reducible repeat (first | refine blk_drewN ?_ _ | refine blk_drew ?_ | refine blk_alloc ?_ _)); refine blk_far ?_ NB382_395.out _; (with_reducible repeat (first | refine blk_drewN ?_ _ | refine blk_drew ?_ | refine blk_alloc ?_ _)); refine blk_far ?_ NB382_395.out _; (with_reducible repeat (first | refine blk_drewN ?_ _ | refine blk_drew ?_ | refine blk_alloc ?_ _)); refine blk_far ?_ NB382_395.out _; (with_reducible repeat (first | refine blk_drewN ?_ _ | refine blk_drew ?_ | refine blk_alloc ?_ _)); exact BK382.out) hb); have n2_ := Aside0.mk (blk_below (g := gb387) (o := .cells #[.bool t383, .string t384, .int .i64 t385] 23 (0, 0)) (by (with_reducible repeat (first | refine blk_drewN ?_ _ | refine blk_drew ?_ | refine blk_alloc ?_ _)); refine blk_far ?_ NB387_395.out _; (with_reducible repeat (first | refine blk_drewN ?_ _ | refine blk_drew ?_ | refine blk_alloc ?_ _)); refine blk_far ?_ NB387_395.out _; (with_reducible repeat (first | refine blk_drewN ?_ _ | refine blk_drew ?_ | refine blk_alloc ?_ _)); refine blk_far ?_ NB387_395.out _; (with_reducible repeat (first | refine blk_drewN ?_ _ | refine blk_drew ?_ | refine blk_alloc ?_ _)); refine blk_far ?_ NB387_395.out _; (with_reducible repeat (first | refine blk_drewN ?_ _ | refine blk_drew ?_ | refine blk_alloc ?_ _)); exact BK387.out) hb); have n3_ := Aside0.mk (blk_below (g := gb394) (o := .cells #[.bool t391, .string t392, .int .i64 t393] 23 (0, 0)) (by (with_reducible repeat (first | refine blk_drewN ?_ _ | refine blk_drew ?_ | refine blk_alloc ?_ _)); refine blk_far ?_ NB394_395.out _; (with_reducible repeat (first | refine blk_drewN ?_ _ | refine blk_drew ?_ | refine blk_alloc ?_ _)); refine blk_far ?_ NB394_395.out _; (with_reducible repeat (first | refine blk_drewN ?_ _ | refine blk_drew ?_ | refine blk_alloc ?_ _)); refine blk_far ?_ NB394_395.out _; (with_reducible repeat (first | refine blk_drewN ?_ _ | refine blk_drew ?_ | refine blk_alloc ?_ _)); refine blk_far ?_ NB394_395.out _; (with_reducible repeat (first | refine blk_drewN ?_ _ | refine blk_drew ?_ | refine blk_alloc ?_ _)); exact BK394.out) hb); have n4_ := Aside0.mk (blk_below (g := gb395) (o := .cells #[.bool false, .string t392, .int .i64 t393] 23 (0, 0)) (by (with_reducible repeat (first | refine blk_drewN ?_ _ | refine blk_drew ?_ | refine blk_alloc ?_ _)); refine blk_put (cs := #[.bool t391, .string t392, .int .i64 t393]) ?_ 0 _ rfl; (with_reducible repeat (first | refine blk_drewN ?_ _ | refine blk_drew ?_ | refine blk_alloc ?_ _)); refine blk_put (cs := #[.bool t391, .string t392, .int .i64 0]) ?_ 2 _ rfl; (with_reducible repeat (first | refine blk_drewN ?_ _ | refine blk_drew ?_ | refine blk_alloc ?_ _)); refine blk_put (cs := #[.bool t391, .string (⟨#[]⟩ : ByteArray), .int .i64 0]) ?_ 1 _ rfl; (with_reducible repeat (first | refine blk_drewN ?_ _ | refine blk_drew ?_ | refine blk_alloc ?_ _)); refine blk_put (cs := #[.bool false, .string (⟨#[]⟩ : ByteArray), .int .i64 0]) ?_ 0 _ rfl; (with_reducible repeat (first | refine blk_drewN ?_ _ | refine blk_drew ?_ | refine blk_alloc ?_ _)); exact BK395.out) hb); have n5_ := Aside0.mk (below_step (by repeat (first | (with_reducible first | exact HB.out | apply below_alloc | apply pw_below_drewN | apply below_drew1 | refine below_set ?_ GE374.out | refine below_set ?_ GE382.out | refine below_set ?_ GE387.out | refine below_set ?_ GE394.out | refine below_set ?_ GE395.out) | exact HB.out)) hb); have n6_ := Aside0.mk (hbox); have n7_ := Aside0.mk ((by rw [hg]; exact (below_size (by repeat (first | (with_reducible first | exact HB.out | apply below_alloc | apply pw_below_drewN | apply below_drew1 | refine below_set ?_ GE374.out | refine below_set ?_ GE382.out | refine below_set ?_ GE387.out | refine below_set ?_ GE394.out | refine below_set ?_ GE395.out) | exact HB.out))) : w.heap.size ≤ gb396)); have n8_ := Aside0.mk ((by rw [hg]; exact (below_size (by repeat (first | (with_reducible first | exact HB.out | apply below_alloc | apply pw_below_drewN | apply below_drew1 | refine below_set ?_ GE374.out | refine below_set ?_ GE382.out | refine below_set ?_ GE387.out | refine below_set ?_ GE394.out | refine below_set ?_ GE395.out) | exact HB.out))) : w.heap.size ≤ gb396)); have n9_ := Aside0.mk ((by rw [hg]; exact Nat.ne_of_lt (blk_lt (g := gb374) (o := .cells #[.bool a1_0, .string a1_1, .int .i64 a1_2] 23 (0, 0)) (by (with_reducible repeat (first | refine blk_drewN ?_ _ | refine blk_drew ?_ | refine blk_alloc ?_ _)); refine blk_far ?_ NB374_395.out _; (with_reducible repeat (first | refine blk_drewN ?_ _ | refine blk_drew ?_ | refine blk_alloc ?_ _)); refine blk_far ?_ NB374_395.out _; (with_reducible repeat (first | refine blk_drewN ?_ _ | refine blk_drew ?_ | refine blk_alloc ?_ _)); refine blk_far ?_ NB374_395.out _; (with_reducible repeat (first | refine blk_drewN ?_ _ | refine blk_drew ?_ | refine blk_alloc ?_ _)); refine blk_far ?_ NB374_395.out _; (with_reducible repeat (first | refine blk_drewN ?_ _ | refine blk_drew ?_ | refine blk_alloc ?_ _)); exact BK374.out)) : gb374 ≠ gb396)); have n10_ := Aside0.mk ((by rw [hg]; exact Nat.ne_of_gt (blk_lt (g := gb374) (o := .cells #[.bool a1_0, .string a1_1, .int .i64 a1_2] 23 (0, 0)) (by (with_reducible repeat (first | refine blk_drewN ?_ _ | refine blk_drew ?_ | refine blk_alloc ?_ _)); refine blk_far ?_ NB374_395.out _; (with_reducible repeat (first | refine blk_drewN ?_ _ | refine blk_drew ?_ | refine blk_alloc ?_ _)); refine blk_far ?_ NB374_395.out _; (with_reducible repeat (first | refine blk_drewN ?_ _ | refine blk_drew ?_ | refine blk_alloc ?_ _)); refine blk_far ?_ NB374_395.out _; (with_reducible repeat (first | refine blk_drewN ?_ _ | refine blk_drew ?_ | refine blk_alloc ?_ _)); refine blk_far ?_ NB374_395.out _; (with_reducible repeat (first | refine blk_drewN ?_ _ | refine blk_drew ?_ | refine blk_alloc ?_ _)); exact BK374.out)) : gb396 ≠ gb374)); have n11_ := Aside0.mk ((by rw [hg]; exact Nat.ne_of_lt (blk_lt (g := gb382) (o := .cells #[.bool t378, .string t379, .int .i64 t380] 23 (0, 0)) (by (with_reducible repeat (first | refine blk_drewN ?_ _ | refine blk_drew ?_ | refine blk_alloc ?_ _)); refine blk_far ?_ NB382_395.out _; (with_reducible repeat (first | refine blk_drewN ?_ _ | refine blk_drew ?_ | refine blk_alloc ?_ _)); refine blk_far ?_ NB382_395.out _; (with_reducible repeat (first | refine blk_drewN ?_ _ | refine blk_drew ?_ | refine blk_alloc ?_ _)); refine blk_far ?_ NB382_395.out _; (with_reducible repeat (first | refine blk_drewN ?_ _ | refine blk_drew ?_ | refine blk_alloc ?_ _)); refine blk_far ?_ NB382_395.out _; (with_reducible repeat (first | refine blk_drewN ?_ _ | refine blk_drew ?_ | refine blk_alloc ?_ _)); exact BK382.out)) : gb382 ≠ gb396)); have n12_ := Aside0.mk ((by rw [hg]; exact Nat.ne_of_gt (blk_lt (g := gb382) (o := .cells #[.bool t378, .string t379, .int .i64 t380] 23 (0, 0)) (by (with_reducible repeat (first | refine blk_drewN ?_ _ | refine blk_drew ?_ | refine blk_alloc ?_ _)); refine blk_far ?_ NB382_395.out _; (with_reducible repeat (first | refine blk_drewN ?_ _ | refine blk_drew ?_ | refine blk_alloc ?_ _)); refine blk_far ?_ NB382_395.out _; (with_reducible repeat (first | refine blk_drewN ?_ _ | refine blk_drew ?_ | refine blk_alloc ?_ _)); refine blk_far ?_ NB382_395.out _; (with_reducible repeat (first | refine blk_drewN ?_ _ | refine blk_drew ?_ | refine blk_alloc ?_ _)); refine blk_far ?_ NB382_395.out _; (with_reducible repeat (first | refine blk_drewN ?_ _ | refine blk_drew ?_ | refine blk_alloc ?_ _)); exact BK382.out)) : gb396 ≠ gb382)); have n13_ := Aside0.mk ((by rw [hg]; exact Nat.ne_of_lt (blk_lt (g := gb387) (o := .cells #[.bool t383, .string t384, .int .i64 t385] 23 (0, 0)) (by (with_reducible repeat (first | refine blk_drewN ?_ _ | refine blk_drew ?_ | refine blk_alloc ?_ _)); refine blk_far ?_ NB387_395.out _; (with_reducible repeat (first | refine blk_drewN ?_ _ | refine blk_drew ?_ | refine blk_alloc ?_ _)); refine blk_far ?_ NB387_395.out _; (with_reducible repeat (first | refine blk_drewN ?_ _ | refine blk_drew ?_ | refine blk_alloc ?_ _)); refine blk_far ?_ NB387_395.out _; (with_reducible repeat (first | refine blk_drewN ?_ _ | refine blk_drew ?_ | refine blk_alloc ?_ _)); refine blk_far ?_ NB387_395.out _; (with_reducible repeat (first | refine blk_drewN ?_ _ | refine blk_drew ?_ | refine blk_alloc ?_ _)); exact BK387.out)) : gb387 ≠ gb396)); have n14_ := Aside0.mk ((by rw [hg]; exact Nat.ne_of_gt (blk_lt (g := gb387) (o := .cells #[.bool t383, .string t384, .int .i64 t385] 23 (0, 0)) (by (with_reducible repeat (first | refine blk_drewN ?_ _ | refine blk_drew ?_ | refine blk_alloc ?_ _)); refine blk_far ?_ NB387_395.out _; (with_reducible repeat (first | refine blk_drewN ?_ _ | refine blk_drew ?_ | refine blk_alloc ?_ _)); refine blk_far ?_ NB387_395.out _; (with_reducible repeat (first | refine blk_drewN ?_ _ | refine blk_drew ?_ | refine blk_alloc ?_ _)); refine blk_far ?_ NB387_395.out _; (with_reducible repeat (first | refine blk_drewN ?_ _ | refine blk_drew ?_ | refine blk_alloc ?_ _)); refine blk_far ?_ NB387_395.out _; (with_reducible repeat (first | refine blk_drewN ?_ _ | refine blk_drew ?_ | refine blk_alloc ?_ _)); exact BK387.out)) : gb396 ≠ gb387)); have n15_ := Aside0.mk ((by rw [hg]; exact Nat.ne_of_lt (blk_lt (g := gb394) (o := .cells #[.bool t391, .string t392, .int .i64 t393] 23 (0, 0)) (by (with_reducible repeat (first | refine blk_drewN ?_ _ | refine blk_drew ?_ | refine blk_alloc ?_ _)); refine blk_far ?_ NB394_395.out _; (with_reducible repeat (first | refine blk_drewN ?_ _ | refine blk_drew ?_ | refine blk_alloc ?_ _)); refine blk_far ?_ NB394_395.out _; (with_reducible repeat (first | refine blk_drewN ?_ _ | refine blk_drew ?_ | refine blk_alloc ?_ _)); refine blk_far ?_ NB394_395.out _; (with_reducible repeat (first | refine blk_drewN ?_ _ | refine blk_drew ?_ | refine blk_alloc ?_ _)); refine blk_far ?_ NB394_395.out _; (with_reducible repeat (first | refine blk_drewN ?_ _ | refine blk_drew ?_ | refine blk_alloc ?_ _)); exact BK394.out)) : gb394 ≠ gb396)); have n16_ := Aside0.mk ((by rw [hg]; exact Nat.ne_of_gt (blk_lt (g := gb394) (o := .cells #[.bool t391, .string t392, .int .i64 t393] 23 (0, 0)) (by (with_reducible repeat (first | refine blk_drewN ?_ _ | refine blk_drew ?_ | refine blk_alloc ?_ _)); refine blk_far ?_ NB394_395.out _; (with_reducible repeat (first | refine blk_drewN ?_ _ | refine blk_drew ?_ | refine blk_alloc ?_ _)); refine blk_far ?_ NB394_395.out _; (with_reducible repeat (first | refine blk_drewN ?_ _ | refine blk_drew ?_ | refine blk_alloc ?_ _)); refine blk_far ?_ NB394_395.out _; (with_reducible repeat (first | refine blk_drewN ?_ _ | refine blk_drew ?_ | refine blk_alloc ?_ _)); refine blk_far ?_ NB394_395.out _; (with_reducible repeat (first | refine blk_drewN ?_ _ | refine blk_drew ?_ | refine blk_alloc ?_ _)); exact BK394.out)) : gb396 ≠ gb394)); have n17_ := Aside0.mk ((by rw [hg]; exact Nat.ne_of_lt (blk_lt (g := gb395) (o := .cells #[.bool false, .string t392, .int .i64 t393] 23 (0, 0)) (by (with_reducible repeat (first | refine blk_drewN ?_ _ | refine blk_drew ?_ | refine blk_alloc ?_ _)); refine blk_put (cs := #[.bool t391, .string t392, .int .i64 t393]) ?_ 0 _ rfl; (with_reducible repeat (first | refine blk_drewN ?_ _ | refine blk_drew ?_ | refine blk_alloc ?_ _)); refine blk_put (cs := #[.bool t391, .string t392, .int .i64 0]) ?_ 2 _ rfl; (with_reducible repeat (first | refine blk_drewN ?_ _ | refine blk_drew ?_ | refine blk_alloc ?_ _)); refine blk_put (cs := #[.bool t391, .string (⟨#[]⟩ : ByteArray), .int .i64 0]) ?_ 1 _ rfl; (with_reducible repeat (first | refine blk_drewN ?_ _ | refine blk_drew ?_ | refine blk_alloc ?_ _)); refine blk_put (cs := #[.bool false, .string (⟨#[]⟩ : ByteArray), .int .i64 0]) ?_ 0 _ rfl; (with_reducible repeat (first | refine blk_drewN ?_ _ | refine blk_drew ?_ | refine blk_alloc ?_ _)); exact BK395.out)) : gb395 ≠ gb396)); have n18_ := Aside0.mk ((by rw [hg]; exact Nat.ne_of_gt (blk_lt (g := gb395) (o := .cells #[.bool false, .string t392, .int .i64 t393] 23 (0, 0)) (by (with_reducible repeat (first | refine blk_drewN ?_ _ | refine blk_drew ?_ | refine blk_alloc ?_ _)); refine blk_put (cs := #[.bool t391, .string t392, .int .i64 t393]) ?_ 0 _ rfl; (with_reducible repeat (first | refine blk_drewN ?_ _ | refine blk_drew ?_ | refine blk_alloc ?_ _)); refine blk_put (cs := #[.bool t391, .string t392, .int .i64 0]) ?_ 2 _ rfl; (with_reducible repeat (first | refine blk_drewN ?_ _ | refine blk_drew ?_ | refine blk_alloc ?_ _)); refine blk_put (cs := #[.bool t391, .string (⟨#[]⟩ : ByteArray), .int .i64 0]) ?_ 1 _ rfl; (with_reducible repeat (first | refine blk_drewN ?_ _ | refine blk_drew ?_ | refine blk_alloc ?_ _)); refine blk_put (cs := #[.bool false, .string (⟨#[]⟩ : ByteArray), .int .i64 0]) ?_ 0 _ rfl; (with_reducible repeat (first | refine blk_drewN ?_ _ | refine blk_drew ?_ | refine blk_alloc ?_ _)); exact BK395.out)) : gb396 ≠ gb395)); clear BK374; clear BK382; clear BK387; clear BK394; clear BK395; clear HB; have BK374 := n0_; have BK382 := n1_; have BK387 := n2_; have BK394 := n3_; have BK395 := n4_; have HB := n5_; have BK396 := n6_; have GW396 := n7_; have GE396 := n8_; have NB374_396 := n9_; have NB396_374 := n10_; have NB382_396 := n11_; have NB396_382 := n12_; have NB387_396 := n13_; have NB396_387 := n14_; have NB394_396 := n15_; have NB396_394 := n16_; have NB395_396 := n17_; have NB396_395 := n18_; clear n0_ n1_ n2_ n3_ n4_ n5_ n6_ n7_ n8_ n9_ n10_ n11_ n12_ n13_ n14_ n15_ n16_ n17_ n18_; clear hb hbox hg; have hnb419 := NB396_374.out; have hnc419 := NB374_396.out; have hnb420 := NB396_382.out; have hnc420 := NB382_396.out; have hnb421 := NB396_387.out; have hnc421 := NB387_396.out; have hnb422 := NB396_394.out; have hnc422 := NB394_396.out; have hnb423 := NB396_395.out; have hnc423 := NB395_396.out; have hcz424_0 : w418.cell? ⟨gb396, 0, none⟩ = some (.bool false) := (blk_cell BK396.out 0).trans rfl; have hcz424_1 : w418.cell? ⟨gb396, 1, none⟩ = some (.string (⟨#[]⟩ : ByteArray)) := (blk_cell BK396.out 1).trans rfl; have hcz424_2 : w418.cell? ⟨gb396, 2, none⟩ = some (.int .i64 0) := (blk_cell BK396.out 2).trans rfl; have hfz424_0 := blk_frozen BK396.out 0; have hfz424_1 := blk_frozen BK396.out 1; have hfz424_2 := blk_frozen BK396.out 2))
                    have n0_ : Aside0 ((((w418.setCell ⟨gb396, 0, none⟩ (.bool false)).setCell ⟨gb396, 1, none⟩ (.string a2)).setCell ⟨gb396, 2, none⟩ (.int .i64 a3)).heap[gb374]? = some (.cells #[.bool a1_0, .string a1_1, .int .i64 a1_2] 23 (0, 0))) := ⟨by (with_reducible repeat (first | refine blk_drewN ?_ _ | refine blk_drew ?_ | refine blk_alloc ?_ _)); refine blk_far ?_ NB374_396.out _; (with_reducible repeat (first | refine blk_drewN ?_ _ | refine blk_drew ?_ | refine blk_alloc ?_ _)); refine blk_far ?_ NB374_396.out _; (with_reducible repeat (first | refine blk_drewN ?_ _ | refine blk_drew ?_ | refine blk_alloc ?_ _)); refine blk_far ?_ NB374_396.out _; (with_reducible repeat (first | refine blk_drewN ?_ _ | refine blk_drew ?_ | refine blk_alloc ?_ _)); exact BK374.out⟩
                    have n1_ : Aside0 ((((w418.setCell ⟨gb396, 0, none⟩ (.bool false)).setCell ⟨gb396, 1, none⟩ (.string a2)).setCell ⟨gb396, 2, none⟩ (.int .i64 a3)).heap[gb382]? = some (.cells #[.bool t378, .string t379, .int .i64 t380] 23 (0, 0))) := ⟨by (with_reducible repeat (first | refine blk_drewN ?_ _ | refine blk_drew ?_ | refine blk_alloc ?_ _)); refine blk_far ?_ NB382_396.out _; (with_reducible repeat (first | refine blk_drewN ?_ _ | refine blk_drew ?_ | refine blk_alloc ?_ _)); refine blk_far ?_ NB382_396.out _; (with_reducible repeat (first | refine blk_drewN ?_ _ | refine blk_drew ?_ | refine blk_alloc ?_ _)); refine blk_far ?_ NB382_396.out _; (with_reducible repeat (first | refine blk_drewN ?_ _ | refine blk_drew ?_ | refine blk_alloc ?_ _)); exact BK382.out⟩
                    have n2_ : Aside0 ((((w418.setCell ⟨gb396, 0, none⟩ (.bool false)).setCell ⟨gb396, 1, none⟩ (.string a2)).setCell ⟨gb396, 2, none⟩ (.int .i64 a3)).heap[gb387]? = some (.cells #[.bool t383, .string t384, .int .i64 t385] 23 (0, 0))) := ⟨by (with_reducible repeat (first | refine blk_drewN ?_ _ | refine blk_drew ?_ | refine blk_alloc ?_ _)); refine blk_far ?_ NB387_396.out _; (with_reducible repeat (first | refine blk_drewN ?_ _ | refine blk_drew ?_ | refine blk_alloc ?_ _)); refine blk_far ?_ NB387_396.out _; (with_reducible repeat (first | refine blk_drewN ?_ _ | refine blk_drew ?_ | refine blk_alloc ?_ _)); refine blk_far ?_ NB387_396.out _; (with_reducible repeat (first | refine blk_drewN ?_ _ | refine blk_drew ?_ | refine blk_alloc ?_ _)); exact BK387.out⟩
                    have n3_ : Aside0 ((((w418.setCell ⟨gb396, 0, none⟩ (.bool false)).setCell ⟨gb396, 1, none⟩ (.string a2)).setCell ⟨gb396, 2, none⟩ (.int .i64 a3)).heap[gb394]? = some (.cells #[.bool t391, .string t392, .int .i64 t393] 23 (0, 0))) := ⟨by (with_reducible repeat (first | refine blk_drewN ?_ _ | refine blk_drew ?_ | refine blk_alloc ?_ _)); refine blk_far ?_ NB394_396.out _; (with_reducible repeat (first | refine blk_drewN ?_ _ | refine blk_drew ?_ | refine blk_alloc ?_ _)); refine blk_far ?_ NB394_396.out _; (with_reducible repeat (first | refine blk_drewN ?_ _ | refine blk_drew ?_ | refine blk_alloc ?_ _)); refine blk_far ?_ NB394_396.out _; (with_reducible repeat (first | refine blk_drewN ?_ _ | refine blk_drew ?_ | refine blk_alloc ?_ _)); exact BK394.out⟩
                    have n4_ : Aside0 ((((w418.setCell ⟨gb396, 0, none⟩ (.bool false)).setCell ⟨gb396, 1, none⟩ (.string a2)).setCell ⟨gb396, 2, none⟩ (.int .i64 a3)).heap[gb395]? = some (.cells #[.bool false, .string t392, .int .i64 t393] 23 (0, 0))) := ⟨by (with_reducible repeat (first | refine blk_drewN ?_ _ | refine blk_drew ?_ | refine blk_alloc ?_ _)); refine blk_far ?_ NB395_396.out _; (with_reducible repeat (first | refine blk_drewN ?_ _ | refine blk_drew ?_ | refine blk_alloc ?_ _)); refine blk_far ?_ NB395_396.out _; (with_reducible repeat (first | refine blk_drewN ?_ _ | refine blk_drew ?_ | refine blk_alloc ?_ _)); refine blk_far ?_ NB395_396.out _; (with_reducible repeat (first | refine blk_drewN ?_ _ | refine blk_drew ?_ | refine blk_alloc ?_ _)); exact BK395.out⟩
                    have n5_ : Aside0 ((((w418.setCell ⟨gb396, 0, none⟩ (.bool false)).setCell ⟨gb396, 1, none⟩ (.string a2)).setCell ⟨gb396, 2, none⟩ (.int .i64 a3)).heap[gb396]? = some (.cells #[.bool false, .string a2, .int .i64 a3] 23 (0, 0))) := ⟨by (with_reducible repeat (first | refine blk_drewN ?_ _ | refine blk_drew ?_ | refine blk_alloc ?_ _)); refine blk_put (cs := #[.bool false, .string a2, .int .i64 0]) ?_ 2 _ rfl; (with_reducible repeat (first | refine blk_drewN ?_ _ | refine blk_drew ?_ | refine blk_alloc ?_ _)); refine blk_put (cs := #[.bool false, .string (⟨#[]⟩ : ByteArray), .int .i64 0]) ?_ 1 _ rfl; (with_reducible repeat (first | refine blk_drewN ?_ _ | refine blk_drew ?_ | refine blk_alloc ?_ _)); refine blk_put (cs := #[.bool false, .string (⟨#[]⟩ : ByteArray), .int .i64 0]) ?_ 0 _ rfl; (with_reducible repeat (first | refine blk_drewN ?_ _ | refine blk_drew ?_ | refine blk_alloc ?_ _)); exact BK396.out⟩
                    have n6_ : Aside0 (Below w.heap.size w (((w418.setCell ⟨gb396, 0, none⟩ (.bool false)).setCell ⟨gb396, 1, none⟩ (.string a2)).setCell ⟨gb396, 2, none⟩ (.int .i64 a3))) := ⟨by repeat (first | (with_reducible first | exact HB.out | apply below_alloc | apply pw_below_drewN | apply below_drew1 | refine below_set ?_ GE374.out | refine below_set ?_ GE382.out | refine below_set ?_ GE387.out | refine below_set ?_ GE394.out | refine below_set ?_ GE395.out | refine below_set ?_ GE396.out) | exact HB.out)⟩
                    (try clear BK374)
                    (try clear BK382)
                    (try clear BK387)
                    (try clear BK394)
                    (try clear BK395)
                    (try clear BK396)
                    (try clear HB)
                    generalize (((w418.setCell ⟨gb396, 0, none⟩ (.bool false)).setCell ⟨gb396, 1, none⟩ (.string a2)).setCell ⟨gb396, 2, none⟩ (.int .i64 a3)) = w425 at n0_ n1_ n2_ n3_ n4_ n5_ n6_ ⊢
                    have BK374 := n0_
                    have BK382 := n1_
                    have BK387 := n2_
                    have BK394 := n3_
                    have BK395 := n4_
                    have BK396 := n5_
                    have HB := n6_
                    clear n0_ n1_ n2_ n3_ n4_ n5_ n6_
                    (try (rw [drewN_self w425]; generalize hq_ : World.drewN w425 _ = w425; have n0_ : Aside0 (w425.heap[gb374]? = some (.cells #[.bool a1_0, .string a1_1, .int .i64 a1_2] 23 (0, 0))) := ⟨by rw [← hq_]; exact (by (with_reducible repeat (first | refine blk_drewN ?_ _ | refine blk_drew ?_ | refine blk_alloc ?_ _)); exact BK374.out)⟩; have n1_ : Aside0 (w425.heap[gb382]? = some (.cells #[.bool t378, .string t379, .int .i64 t380] 23 (0, 0))) := ⟨by rw [← hq_]; exact (by (with_reducible repeat (first | refine blk_drewN ?_ _ | refine blk_drew ?_ | refine blk_alloc ?_ _)); exact BK382.out)⟩; have n2_ : Aside0 (w425.heap[gb387]? = some (.cells #[.bool t383, .string t384, .int .i64 t385] 23 (0, 0))) := ⟨by rw [← hq_]; exact (by (with_reducible repeat (first | refine blk_drewN ?_ _ | refine blk_drew ?_ | refine blk_alloc ?_ _)); exact BK387.out)⟩; have n3_ : Aside0 (w425.heap[gb394]? = some (.cells #[.bool t391, .string t392, .int .i64 t393] 23 (0, 0))) := ⟨by rw [← hq_]; exact (by (with_reducible repeat (first | refine blk_drewN ?_ _ | refine blk_drew ?_ | refine blk_alloc ?_ _)); exact BK394.out)⟩; have n4_ : Aside0 (w425.heap[gb395]? = some (.cells #[.bool false, .string t392, .int .i64 t393] 23 (0, 0))) := ⟨by rw [← hq_]; exact (by (with_reducible repeat (first | refine blk_drewN ?_ _ | refine blk_drew ?_ | refine blk_alloc ?_ _)); exact BK395.out)⟩; have n5_ : Aside0 (w425.heap[gb396]? = some (.cells #[.bool false, .string a2, .int .i64 a3] 23 (0, 0))) := ⟨by rw [← hq_]; exact (by (with_reducible repeat (first | refine blk_drewN ?_ _ | refine blk_drew ?_ | refine blk_alloc ?_ _)); exact BK396.out)⟩; have n6_ : Aside0 (Below w.heap.size w w425) := ⟨by rw [← hq_]; exact (by repeat (first | (with_reducible first | exact HB.out | apply below_alloc | apply pw_below_drewN | apply below_drew1 | refine below_set ?_ GE374.out | refine below_set ?_ GE382.out | refine below_set ?_ GE387.out | refine below_set ?_ GE394.out | refine below_set ?_ GE395.out | refine below_set ?_ GE396.out) | exact HB.out))⟩; clear BK374 BK382 BK387 BK394 BK395 BK396 HB hq_; have BK374 := n0_; have BK382 := n1_; have BK387 := n2_; have BK394 := n3_; have BK395 := n4_; have BK396 := n5_; have HB := n6_; clear n0_ n1_ n2_ n3_ n4_ n5_ n6_))
                    have n0_ := Aside0.mk (blk_drew BK374.out)
                    have n1_ := Aside0.mk (blk_drew BK382.out)
                    have n2_ := Aside0.mk (blk_drew BK387.out)
                    have n3_ := Aside0.mk (blk_drew BK394.out)
                    have n4_ := Aside0.mk (blk_drew BK395.out)
                    have n5_ := Aside0.mk (blk_drew BK396.out)
                    have n6_ := Aside0.mk (below_drew1 HB.out)
                    clear BK374
                    clear BK382
                    clear BK387
                    clear BK394
                    clear BK395
                    clear BK396
                    clear HB
                    have BK374 := n0_
                    have BK382 := n1_
                    have BK387 := n2_
                    have BK394 := n3_
                    have BK395 := n4_
                    have BK396 := n5_
                    have HB := n6_
                    clear n0_ n1_ n2_ n3_ n4_ n5_ n6_
                    refine start_ (n := 29) (S := fun w' => w'.cell? ⟨gb387, 0, none⟩ = some (.bool t383) ∧ w'.cell? ⟨gb387, 1, none⟩ = some (.string t384) ∧ w'.cell? ⟨gb387, 2, none⟩ = some (.int .i64 t385) ∧ w'.cell? ⟨gb382, 0, none⟩ = some (.bool t378) ∧ w'.cell? ⟨gb382, 1, none⟩ = some (.string t379) ∧ w'.cell? ⟨gb382, 2, none⟩ = some (.int .i64 t380) ∧ w'.cell? ⟨gb395, 0, none⟩ = some (.bool false) ∧ w'.cell? ⟨gb395, 1, none⟩ = some (.string t392) ∧ w'.cell? ⟨gb395, 2, none⟩ = some (.int .i64 t393) ∧ w'.cell? ⟨gb396, 0, none⟩ = some (.bool false) ∧ w'.cell? ⟨gb396, 1, none⟩ = some (.string a2) ∧ w'.cell? ⟨gb396, 2, none⟩ = some (.int .i64 a3)) (ds := []) #[false, false, false, false, false, false, false, false, false, false, false, false, false, false, false, false, false, false, false, false, false, false, false, false, false, false, false, false, false] (by kernel_rfl) rfl rfl ⟨(blk_cell BK387.out 0).trans rfl, (blk_cell BK387.out 1).trans rfl, (blk_cell BK387.out 2).trans rfl, (blk_cell BK382.out 0).trans rfl, (blk_cell BK382.out 1).trans rfl, (blk_cell BK382.out 2).trans rfl, (blk_cell BK395.out 0).trans rfl, (blk_cell BK395.out 1).trans rfl, (blk_cell BK395.out 2).trans rfl, (blk_cell BK396.out 0).trans rfl, (blk_cell BK396.out 1).trans rfl, (blk_cell BK396.out 2).trans rfl⟩ (fun hHeld => ?_); refine with_tabW figureheadlaw10_IncNear.tab9 figureheadlaw10_IncNear.bits9 (fun HT_ HW_ => ?_)
                    generalize w425.drew = w426 at BK374 BK382 BK387 BK394 BK395 BK396 HB hHeld ⊢
                    refine pure_ (i := 0) (N := some 58) (v := ?_) (a' := ?_) #[true, false, false, false, false, false, false, false, false, false, false, false, false, false, false, false, false, false, false, false, false, false, false, false, false, false, false, false, false] rfl rfl (any_of HT_.out (by kernel_rfl)) (fun _ _ _ h => h) (Or.inl ⟨by rfl, ?_⟩) ?_ ?_
                    rotate_left
                    · intro w'
                      go_simp
                      with_reducible rfl
                    rotate_left
                    · simp only [Act.put, List.setIfInBounds_toArray, List.set_cons_zero, List.set_cons_succ]; (try simp only [i64_w]); (try simp only [i32_w])
                      rfl
                    refine pure_ (i := 1) (N := some 59) (v := ?_) (a' := ?_) #[true, true, false, false, false, false, false, false, false, false, false, false, false, false, false, false, false, false, false, false, false, false, false, false, false, false, false, false, false] rfl rfl (any_of HT_.out (by kernel_rfl)) (fun _ _ _ h => h) (Or.inl ⟨by rfl, ?_⟩) ?_ ?_
                    rotate_left
                    · intro w'
                      go_simp
                      with_reducible rfl
                    rotate_left
                    · simp only [Act.put, List.setIfInBounds_toArray, List.set_cons_zero, List.set_cons_succ]; (try simp only [i64_w]); (try simp only [i32_w])
                      rfl
                    refine pure_ (i := 2) (N := some 60) (v := ?_) (a' := ?_) #[true, true, true, false, false, false, false, false, false, false, false, false, false, false, false, false, false, false, false, false, false, false, false, false, false, false, false, false, false] rfl rfl (any_of HT_.out (by kernel_rfl)) (fun _ _ _ h => h) (Or.inl ⟨by rfl, ?_⟩) ?_ ?_
                    rotate_left
                    · intro w'
                      go_simp
                      with_reducible rfl
                    rotate_left
                    · simp only [Act.put, List.setIfInBounds_toArray, List.set_cons_zero, List.set_cons_succ]; (try simp only [i64_w]); (try simp only [i32_w])
                      rfl
                    refine pure_ (i := 3) (N := some 61) (v := ?_) (a' := ?_) #[true, true, true, true, false, false, false, false, false, false, false, false, false, false, false, false, false, false, false, false, false, false, false, false, false, false, false, false, false] rfl rfl (any_of HT_.out (by kernel_rfl)) (fun _ _ _ h => h) (Or.inl ⟨by rfl, ?_⟩) ?_ ?_
                    rotate_left
                    · intro w'
                      go_simp
                      with_reducible rfl
                    rotate_left
                    · simp only [Act.put, List.setIfInBounds_toArray, List.set_cons_zero, List.set_cons_succ]; (try simp only [i64_w]); (try simp only [i32_w])
                      rfl
                    refine pure_ (i := 4) (N := some 62) (v := ?_) (a' := ?_) #[true, true, true, true, true, false, false, false, false, false, false, false, false, false, false, false, false, false, false, false, false, false, false, false, false, false, false, false, false] rfl rfl (any_of HT_.out (by kernel_rfl)) (fun _ _ _ h => h) (Or.inl ⟨by rfl, ?_⟩) ?_ ?_
                    rotate_left
                    · intro w'
                      go_simp
                      with_reducible rfl
                    rotate_left
                    · simp only [Act.put, List.setIfInBounds_toArray, List.set_cons_zero, List.set_cons_succ]; (try simp only [i64_w]); (try simp only [i32_w])
                      rfl
                    refine pure_ (i := 5) (N := some 63) (v := ?_) (a' := ?_) #[true, true, true, true, true, true, false, false, false, false, false, false, false, false, false, false, false, false, false, false, false, false, false, false, false, false, false, false, false] rfl rfl (any_of HT_.out (by kernel_rfl)) (fun _ _ _ h => h) (Or.inl ⟨by rfl, ?_⟩) ?_ ?_
                    rotate_left
                    · intro w'
                      go_simp
                      with_reducible rfl
                    rotate_left
                    · simp only [Act.put, List.setIfInBounds_toArray, List.set_cons_zero, List.set_cons_succ]; (try simp only [i64_w]); (try simp only [i32_w])
                      rfl
                    refine pure_ (i := 6) (N := some 64) (v := ?_) (a' := ?_) #[true, true, true, true, true, true, true, false, false, false, false, false, false, false, false, false, false, false, false, false, false, false, false, false, false, false, false, false, false] rfl rfl (any_of HT_.out (by kernel_rfl)) (fun _ _ _ h => h) (Or.inl ⟨by rfl, ?_⟩) ?_ ?_
                    rotate_left
                    · intro w'
                      go_simp
                      with_reducible rfl
                    rotate_left
                    · simp only [Act.put, List.setIfInBounds_toArray, List.set_cons_zero, List.set_cons_succ]; (try simp only [i64_w]); (try simp only [i32_w])
                      rfl
                    refine take_ (i := 7) (N := some 65) (v := ?_) (a' := ?_) #[true, true, true, true, true, true, true, true, false, false, false, false, false, false, false, false, false, false, false, false, false, false, false, false, false, false, false, false, false] rfl rfl (take_ofW HT_.out HW_.out (by kernel_rfl)) (fun _ _ _ h => h) (Or.inl ⟨by rfl, ?_⟩) hHeld ?_ ?_
                    rotate_left
                    · rintro w' ⟨s0, s1, s2, s3, s4, s5, s6, s7, s8, s9, s10, s11⟩
                      go_simp
                      with_reducible rfl
                    rotate_left
                    · simp only [Act.put, List.setIfInBounds_toArray, List.set_cons_zero, List.set_cons_succ]; (try simp only [i64_w]); (try simp only [i32_w])
                      rfl
                    refine take_ (i := 8) (N := some 66) (v := ?_) (a' := ?_) #[true, true, true, true, true, true, true, true, true, false, false, false, false, false, false, false, false, false, false, false, false, false, false, false, false, false, false, false, false] rfl rfl (take_ofW HT_.out HW_.out (by kernel_rfl)) (fun _ _ _ h => h) (Or.inl ⟨by rfl, ?_⟩) hHeld ?_ ?_
                    rotate_left
                    · rintro w' ⟨s0, s1, s2, s3, s4, s5, s6, s7, s8, s9, s10, s11⟩
                      go_simp
                      with_reducible rfl
                    rotate_left
                    · simp only [Act.put, List.setIfInBounds_toArray, List.set_cons_zero, List.set_cons_succ]; (try simp only [i64_w]); (try simp only [i32_w])
                      rfl
                    refine pure_ (i := 9) (N := some 67) (v := ?_) (a' := ?_) #[true, true, true, true, true, true, true, true, true, true, false, false, false, false, false, false, false, false, false, false, false, false, false, false, false, false, false, false, false] rfl rfl (any_of HT_.out (by kernel_rfl)) (fun _ _ _ h => h) (Or.inl ⟨by rfl, ?_⟩) ?_ ?_
                    rotate_left
                    · intro w'
                      go_simp
                      with_reducible rfl
                    rotate_left
                    · simp only [Act.put, List.setIfInBounds_toArray, List.set_cons_zero, List.set_cons_succ]; (try simp only [i64_w]); (try simp only [i32_w])
                      rfl
                    refine pure_ (i := 10) (N := some 68) (v := ?_) (a' := ?_) #[true, true, true, true, true, true, true, true, true, true, true, false, false, false, false, false, false, false, false, false, false, false, false, false, false, false, false, false, false] rfl rfl (any_of HT_.out (by kernel_rfl)) (fun _ _ _ h => h) (Or.inl ⟨by rfl, ?_⟩) ?_ ?_
                    rotate_left
                    · intro w'
                      go_simp
                      with_reducible rfl
                    rotate_left
                    · simp only [Act.put, List.setIfInBounds_toArray, List.set_cons_zero, List.set_cons_succ]; (try simp only [i64_w]); (try simp only [i32_w])
                      rfl
                    refine pure_ (i := 11) (N := some 69) (v := ?_) (a' := ?_) #[true, true, true, true, true, true, true, true, true, true, true, true, false, false, false, false, false, false, false, false, false, false, false, false, false, false, false, false, false] rfl rfl (any_of HT_.out (by kernel_rfl)) (fun _ _ _ h => h) (Or.inl ⟨by rfl, ?_⟩) ?_ ?_
                    rotate_left
                    · intro w'
                      go_simp
                      with_reducible rfl
                    rotate_left
                    · simp only [Act.put, List.setIfInBounds_toArray, List.set_cons_zero, List.set_cons_succ]; (try simp only [i64_w]); (try simp only [i32_w])
                      rfl
                    refine take_ (i := 12) (N := some 70) (v := ?_) (a' := ?_) #[true, true, true, true, true, true, true, true, true, true, true, true, true, false, false, false, false, false, false, false, false, false, false, false, false, false, false, false, false] rfl rfl (take_ofW HT_.out HW_.out (by kernel_rfl)) (fun _ _ _ h => h) (Or.inl ⟨by rfl, ?_⟩) hHeld ?_ ?_
                    rotate_left
                    · rintro w' ⟨s0, s1, s2, s3, s4, s5, s6, s7, s8, s9, s10, s11⟩
                      go_simp
                      with_reducible rfl
                    rotate_left
                    · simp only [Act.put, List.setIfInBounds_toArray, List.set_cons_zero, List.set_cons_succ]; (try simp only [i64_w]); (try simp only [i32_w])
                      rfl
                    refine take_ (i := 13) (N := some 71) (v := ?_) (a' := ?_) #[true, true, true, true, true, true, true, true, true, true, true, true, true, true, false, false, false, false, false, false, false, false, false, false, false, false, false, false, false] rfl rfl (take_ofW HT_.out HW_.out (by kernel_rfl)) (fun _ _ _ h => h) (Or.inl ⟨by rfl, ?_⟩) hHeld ?_ ?_
                    rotate_left
                    · rintro w' ⟨s0, s1, s2, s3, s4, s5, s6, s7, s8, s9, s10, s11⟩
                      go_simp
                      with_reducible rfl
                    rotate_left
                    · simp only [Act.put, List.setIfInBounds_toArray, List.set_cons_zero, List.set_cons_succ]; (try simp only [i64_w]); (try simp only [i32_w])
                      rfl
                    refine one_ (i := 14) (N := some 72) #[true, true, true, true, true, true, true, true, true, true, true, true, true, true, true, false, false, false, false, false, false, false, false, false, false, false, false, false, false] rfl rfl (one_of HT_.out (by kernel_rfl)) (by decide) (fun K hK => ?_)
                    refine goes_ Tryd.func15 (by kernel_rfl) rfl #[.agg #[.bool false, .string t392, .int .i64 t393], .agg #[.bool false, .string a2, .int .i64 a3]] (by rfl) rfl rfl (by (try simp only [List.map_toArray]); (try simp only [List.map_cons]); (try simp only [List.map_nil]); first | done | rfl | (simp only [List.length_drop, List.length_take]; rfl)) ?_
                    with_reducible refine (figureheadref05_Cmp.calls kj4 false t392 t393 false a2 a3 t397 _ A30.out).mono ?_
                    rintro e w427 ⟨rfl, hb⟩
                    refine ⟨_, rfl, ?_⟩
                    have n0_ := Aside0.mk (blk_below (g := gb374) (o := .cells #[.bool a1_0, .string a1_1, .int .i64 a1_2] 23 (0, 0)) (by (with_reducible repeat (first | refine blk_drewN ?_ _ | refine blk_drew ?_ | refine blk_alloc ?_ _)); exact BK374.out) hb)
                    have n1_ := Aside0.mk (blk_below (g := gb382) (o := .cells #[.bool t378, .string t379, .int .i64 t380] 23 (0, 0)) (by (with_reducible repeat (first | refine blk_drewN ?_ _ | refine blk_drew ?_ | refine blk_alloc ?_ _)); exact BK382.out) hb)
                    have n2_ := Aside0.mk (blk_below (g := gb387) (o := .cells #[.bool t383, .string t384, .int .i64 t385] 23 (0, 0)) (by (with_reducible repeat (first | refine blk_drewN ?_ _ | refine blk_drew ?_ | refine blk_alloc ?_ _)); exact BK387.out) hb)
                    have n3_ := Aside0.mk (blk_below (g := gb394) (o := .cells #[.bool t391, .string t392, .int .i64 t393] 23 (0, 0)) (by (with_reducible repeat (first | refine blk_drewN ?_ _ | refine blk_drew ?_ | refine blk_alloc ?_ _)); exact BK394.out) hb)
                    have n4_ := Aside0.mk (blk_below (g := gb395) (o := .cells #[.bool false, .string t392, .int .i64 t393] 23 (0, 0)) (by (with_reducible repeat (first | refine blk_drewN ?_ _ | refine blk_drew ?_ | refine blk_alloc ?_ _)); exact BK395.out) hb)
                    have n5_ := Aside0.mk (blk_below (g := gb396) (o := .cells #[.bool false, .string a2, .int .i64 a3] 23 (0, 0)) (by (with_reducible repeat (first | refine blk_drewN ?_ _ | refine blk_drew ?_ | refine blk_alloc ?_ _)); exact BK396.out) hb)
                    have n6_ := Aside0.mk (below_step (by repeat (first | (with_reducible first | exact HB.out | apply below_alloc | apply pw_below_drewN | apply below_drew1 | refine below_set ?_ GE374.out | refine below_set ?_ GE382.out | refine below_set ?_ GE387.out | refine below_set ?_ GE394.out | refine below_set ?_ GE395.out | refine below_set ?_ GE396.out) | exact HB.out)) hb)
                    clear BK374
                    clear BK382
                    clear BK387
                    clear BK394
                    clear BK395
                    clear BK396
                    clear HB
                    have BK374 := n0_
                    have BK382 := n1_
                    have BK387 := n2_
                    have BK394 := n3_
                    have BK395 := n4_
                    have BK396 := n5_
                    have HB := n6_
                    clear n0_ n1_ n2_ n3_ n4_ n5_ n6_
                    (try clear hb)
                    (try clear hb2)
                    (try clear hk)
                    (try clear hi)
                    refine hK.out _ _ ⟨(blk_cell BK387.out 0).trans rfl, (blk_cell BK387.out 1).trans rfl, (blk_cell BK387.out 2).trans rfl, (blk_cell BK382.out 0).trans rfl, (blk_cell BK382.out 1).trans rfl, (blk_cell BK382.out 2).trans rfl, (blk_cell BK395.out 0).trans rfl, (blk_cell BK395.out 1).trans rfl, (blk_cell BK395.out 2).trans rfl, (blk_cell BK396.out 0).trans rfl, (blk_cell BK396.out 1).trans rfl, (blk_cell BK396.out 2).trans rfl⟩ (fun hHeld => ?_)
                    clear hK K
                    refine norm_ (a' := ?_) ?_ ?_
                    rotate_left
                    · show Act.put _ (some 72) _ = _
                      simp only [Act.put, List.setIfInBounds_toArray, List.set_cons_zero, List.set_cons_succ]; (try simp only [i64_w]); (try simp only [i32_w])
                      rfl
                    refine pure_ (i := 15) (N := some 73) (v := ?_) (a' := ?_) #[true, true, true, true, true, true, true, true, true, true, true, true, true, true, true, true, false, false, false, false, false, false, false, false, false, false, false, false, false] rfl rfl (any_of HT_.out (by kernel_rfl)) (fun _ _ _ h => h) (Or.inl ⟨by rfl, ?_⟩) ?_ ?_
                    rotate_left
                    · intro w'
                      go_simp
                      with_reducible rfl
                    rotate_left
                    · simp only [Act.put, List.setIfInBounds_toArray, List.set_cons_zero, List.set_cons_succ]; (try simp only [i64_w]); (try simp only [i32_w])
                      rfl
                    refine pure_ (i := 16) (N := some 74) (v := ?_) (a' := ?_) #[true, true, true, true, true, true, true, true, true, true, true, true, true, true, true, true, true, false, false, false, false, false, false, false, false, false, false, false, false] rfl rfl (any_of HT_.out (by kernel_rfl)) (fun _ _ _ h => h) (Or.inl ⟨by rfl, ?_⟩) ?_ ?_
                    rotate_left
                    · intro w'
                      go_simp
                      with_reducible rfl
                    rotate_left
                    · simp only [Act.put, List.setIfInBounds_toArray, List.set_cons_zero, List.set_cons_succ]; (try simp only [i64_w]); (try simp only [i32_w])
                      rfl
                    refine pure_ (i := 17) (N := some 75) (v := ?_) (a' := ?_) #[true, true, true, true, true, true, true, true, true, true, true, true, true, true, true, true, true, true, false, false, false, false, false, false, false, false, false, false, false] rfl rfl (any_of HT_.out (by kernel_rfl)) (fun _ _ _ h => h) (Or.inl ⟨by rfl, ?_⟩) ?_ ?_
                    rotate_left
                    · intro w'
                      go_simp
                      with_reducible rfl
                    rotate_left
                    · simp only [Act.put, List.setIfInBounds_toArray, List.set_cons_zero, List.set_cons_succ]; (try simp only [i64_w]); (try simp only [i32_w])
                      rfl
                    refine pure_ (i := 18) (N := some 76) (v := ?_) (a' := ?_) #[true, true, true, true, true, true, true, true, true, true, true, true, true, true, true, true, true, true, true, false, false, false, false, false, false, false, false, false, false] rfl rfl (any_of HT_.out (by kernel_rfl)) (fun _ _ _ h => h) (Or.inl ⟨by rfl, ?_⟩) ?_ ?_
                    rotate_left
                    · intro w'
                      go_simp
                      with_reducible rfl
                    rotate_left
                    · simp only [Act.put, List.setIfInBounds_toArray, List.set_cons_zero, List.set_cons_succ]; (try simp only [i64_w]); (try simp only [i32_w])
                      rfl
                    refine pure_ (i := 19) (N := some 77) (v := ?_) (a' := ?_) #[true, true, true, true, true, true, true, true, true, true, true, true, true, true, true, true, true, true, true, true, false, false, false, false, false, false, false, false, false] rfl rfl (any_of HT_.out (by kernel_rfl)) (fun _ _ _ h => h) (Or.inl ⟨by rfl, ?_⟩) ?_ ?_
                    rotate_left
                    · intro w'
                      go_simp
                      with_reducible rfl
                    rotate_left
                    · simp only [Act.put, List.setIfInBounds_toArray, List.set_cons_zero, List.set_cons_succ]; (try simp only [i64_w]); (try simp only [i32_w])
                      rfl
                    refine pure_ (i := 20) (N := some 78) (v := ?_) (a' := ?_) #[true, true, true, true, true, true, true, true, true, true, true, true, true, true, true, true, true, true, true, true, true, false, false, false, false, false, false, false, false] rfl rfl (any_of HT_.out (by kernel_rfl)) (fun _ _ _ h => h) (Or.inl ⟨by rfl, ?_⟩) ?_ ?_
                    rotate_left
                    · intro w'
                      go_simp
                      with_reducible rfl
                    rotate_left
                    · simp only [Act.put, List.setIfInBounds_toArray, List.set_cons_zero, List.set_cons_succ]; (try simp only [i64_w]); (try simp only [i32_w])
                      rfl
                    refine pure_ (i := 21) (N := some 79) (v := undef) (a' := ?_) #[true, true, true, true, true, true, true, true, true, true, true, true, true, true, true, true, true, true, true, true, true, true, false, false, false, false, false, false, false] rfl rfl (any_of HT_.out (by kernel_rfl)) (fun _ _ _ h => h) (Or.inr ⟨by rfl, rfl⟩) ?_ ?_
                    rotate_left
                    · simp only [Act.put, List.setIfInBounds_toArray, List.set_cons_zero, List.set_cons_succ]; (try simp only [i64_w]); (try simp only [i32_w])
                      rfl
                    refine pure_ (i := 22) (N := some 80) (v := undef) (a' := ?_) #[true, true, true, true, true, true, true, true, true, true, true, true, true, true, true, true, true, true, true, true, true, true, true, false, false, false, false, false, false] rfl rfl (any_of HT_.out (by kernel_rfl)) (fun _ _ _ h => h) (Or.inr ⟨by rfl, rfl⟩) ?_ ?_
                    rotate_left
                    · simp only [Act.put, List.setIfInBounds_toArray, List.set_cons_zero, List.set_cons_succ]; (try simp only [i64_w]); (try simp only [i32_w])
                      rfl
                    refine pure_ (i := 23) (N := some 81) (v := undef) (a' := ?_) #[true, true, true, true, true, true, true, true, true, true, true, true, true, true, true, true, true, true, true, true, true, true, true, true, false, false, false, false, false] rfl rfl (any_of HT_.out (by kernel_rfl)) (fun _ _ _ h => h) (Or.inr ⟨by rfl, rfl⟩) ?_ ?_
                    rotate_left
                    · simp only [Act.put, List.setIfInBounds_toArray, List.set_cons_zero, List.set_cons_succ]; (try simp only [i64_w]); (try simp only [i32_w])
                      rfl
                    refine pure_ (i := 24) (N := some 82) (v := undef) (a' := ?_) #[true, true, true, true, true, true, true, true, true, true, true, true, true, true, true, true, true, true, true, true, true, true, true, true, true, false, false, false, false] rfl rfl (any_of HT_.out (by kernel_rfl)) (fun _ _ _ h => h) (Or.inr ⟨by rfl, rfl⟩) ?_ ?_
                    rotate_left
                    · simp only [Act.put, List.setIfInBounds_toArray, List.set_cons_zero, List.set_cons_succ]; (try simp only [i64_w]); (try simp only [i32_w])
                      rfl
                    refine pure_ (i := 25) (N := some 83) (v := undef) (a' := ?_) #[true, true, true, true, true, true, true, true, true, true, true, true, true, true, true, true, true, true, true, true, true, true, true, true, true, true, false, false, false] rfl rfl (any_of HT_.out (by kernel_rfl)) (fun _ _ _ h => h) (Or.inr ⟨by rfl, rfl⟩) ?_ ?_
                    rotate_left
                    · simp only [Act.put, List.setIfInBounds_toArray, List.set_cons_zero, List.set_cons_succ]; (try simp only [i64_w]); (try simp only [i32_w])
                      rfl
                    refine pure_ (i := 26) (N := some 84) (v := undef) (a' := ?_) #[true, true, true, true, true, true, true, true, true, true, true, true, true, true, true, true, true, true, true, true, true, true, true, true, true, true, true, false, false] rfl rfl (any_of HT_.out (by kernel_rfl)) (fun _ _ _ h => h) (Or.inr ⟨by rfl, rfl⟩) ?_ ?_
                    rotate_left
                    · simp only [Act.put, List.setIfInBounds_toArray, List.set_cons_zero, List.set_cons_succ]; (try simp only [i64_w]); (try simp only [i32_w])
                      rfl
                    refine pure_ (i := 27) (N := some 85) (v := ?_) (a' := ?_) #[true, true, true, true, true, true, true, true, true, true, true, true, true, true, true, true, true, true, true, true, true, true, true, true, true, true, true, true, false] rfl rfl (any_of HT_.out (by kernel_rfl)) (fun _ _ _ h => h) (Or.inl ⟨by rfl, ?_⟩) ?_ ?_
                    rotate_left
                    · intro w'
                      go_simp
                      with_reducible rfl
                    rotate_left
                    · simp only [Act.put, List.setIfInBounds_toArray, List.set_cons_zero, List.set_cons_succ]; (try simp only [i64_w]); (try simp only [i32_w])
                      rfl
                    refine pure_ (i := 28) (N := some 86) (v := ?_) (a' := ?_) #[true, true, true, true, true, true, true, true, true, true, true, true, true, true, true, true, true, true, true, true, true, true, true, true, true, true, true, true, true] rfl rfl (any_of HT_.out (by kernel_rfl)) (fun _ _ _ h => h) (Or.inl ⟨by rfl, ?_⟩) ?_ ?_
                    rotate_left
                    · intro w'
                      go_simp
                      with_reducible rfl
                    rotate_left
                    · simp only [Act.put, List.setIfInBounds_toArray, List.set_cons_zero, List.set_cons_succ]; (try simp only [i64_w]); (try simp only [i32_w])
                      rfl
                    refine done_ (done_of HT_.out (by kernel_rfl)) ?_
                    try go_wp2_with (first | ((with_reducible refine gate_callee (f := 9) rfl ?_); refine goesL_ (some 87) rfl rfl Tryd.func9 (by kernel_rfl) rfl #[] rfl (by (try simp only [List.map_toArray]); (try simp only [List.map_cons]); (try simp only [List.map_nil]); first | done | rfl | (simp only [List.length_drop, List.length_take]; rfl)) ?_; (with_reducible refine (figureheadlaw10_answers.calls kj4  true _ ?side1 ?side2 A258.out).mono ?_); (case side1 => exact Fig.Glob.below HG.out (by repeat (first | (with_reducible first | exact HB.out | apply below_alloc | apply pw_below_drewN | apply below_drew1 | refine below_set ?_ GE374.out | refine below_set ?_ GE382.out | refine below_set ?_ GE387.out | refine below_set ?_ GE394.out | refine below_set ?_ GE395.out | refine below_set ?_ GE396.out) | exact HB.out))); (case side2 => exact ⟨by first | rfl | exact HT.out⟩); rintro e w428 ⟨rfl, hb⟩; refine ⟨_, rfl, ?_⟩; have n0_ := Aside0.mk (blk_below (g := gb374) (o := .cells #[.bool a1_0, .string a1_1, .int .i64 a1_2] 23 (0, 0)) (by (with_reducible repeat (first | refine blk_drewN ?_ _ | refine blk_drew ?_ | refine blk_alloc ?_ _)); exact BK374.out) hb); have n1_ := Aside0.mk (blk_below (g := gb382) (o := .cells #[.bool t378, .string t379, .int .i64 t380] 23 (0, 0)) (by (with_reducible repeat (first | refine blk_drewN ?_ _ | refine blk_drew ?_ | refine blk_alloc ?_ _)); exact BK382.out) hb); have n2_ := Aside0.mk (blk_below (g := gb387) (o := .cells #[.bool t383, .string t384, .int .i64 t385] 23 (0, 0)) (by (with_reducible repeat (first | refine blk_drewN ?_ _ | refine blk_drew ?_ | refine blk_alloc ?_ _)); exact BK387.out) hb); have n3_ := Aside0.mk (blk_below (g := gb394) (o := .cells #[.bool t391, .string t392, .int .i64 t393] 23 (0, 0)) (by (with_reducible repeat (first | refine blk_drewN ?_ _ | refine blk_drew ?_ | refine blk_alloc ?_ _)); exact BK394.out) hb); have n4_ := Aside0.mk (blk_below (g := gb395) (o := .cells #[.bool false, .string t392, .int .i64 t393] 23 (0, 0)) (by (with_reducible repeat (first | refine blk_drewN ?_ _ | refine blk_drew ?_ | refine blk_alloc ?_ _)); exact BK395.out) hb); have n5_ := Aside0.mk (blk_below (g := gb396) (o := .cells #[.bool false, .string a2, .int .i64 a3] 23 (0, 0)) (by (with_reducible repeat (first | refine blk_drewN ?_ _ | refine blk_drew ?_ | refine blk_alloc ?_ _)); exact BK396.out) hb); have n6_ := Aside0.mk (below_step (by repeat (first | (with_reducible first | exact HB.out | apply below_alloc | apply pw_below_drewN | apply below_drew1 | refine below_set ?_ GE374.out | refine below_set ?_ GE382.out | refine below_set ?_ GE387.out | refine below_set ?_ GE394.out | refine below_set ?_ GE395.out | refine below_set ?_ GE396.out) | exact HB.out)) hb); clear BK374; clear BK382; clear BK387; clear BK394; clear BK395; clear BK396; clear HB; have BK374 := n0_; have BK382 := n1_; have BK387 := n2_; have BK394 := n3_; have BK395 := n4_; have BK396 := n5_; have HB := n6_; clear n0_ n1_ n2_ n3_ n4_ n5_ n6_; (try clear hb); (try clear hb2); (try clear hk); (try clear hi); have hcz429_0 : w428.cell? ⟨gb394, 0, none⟩ = some (.bool t391) := (blk_cell BK394.out 0).trans rfl; have hcz429_1 : w428.cell? ⟨gb394, 1, none⟩ = some (.string t392) := (blk_cell BK394.out 1).trans rfl; have hcz429_2 : w428.cell? ⟨gb394, 2, none⟩ = some (.int .i64 t393) := (blk_cell BK394.out 2).trans rfl; have hfz429_0 := blk_frozen BK394.out 0; have hfz429_1 := blk_frozen BK394.out 1; have hfz429_2 := blk_frozen BK394.out 2))
                    all_goals go_ret
                    all_goals refine ⟨?_, by repeat (first | (with_reducible first | exact HB.out | apply below_alloc | apply pw_below_drewN | apply below_drew1 | refine below_set ?_ GE374.out | refine below_set ?_ GE382.out | refine below_set ?_ GE387.out | refine below_set ?_ GE394.out | refine below_set ?_ GE395.out | refine below_set ?_ GE396.out) | exact HB.out)⟩
                    all_goals (first | rfl | (have f0_ := F0_.out; have f1_ := F1_.out; clear F0_ F1_; simp_all; done) | (have f0_ := F0_.out; have f1_ := F1_.out; simp_all <;> omega))
                  · replace c259 := Bool.eq_false_iff.mpr c259
                    subst c259
                    have H1 : (some false) = some r := by rw [if_neg (show ¬ (false = true) by decide)] at H; exact H
                    clear H
                    have H := H1
                    clear H1
                    exact absurd ((Option.some.inj H).trans HT.out) (by decide)
          · rw [if_neg c28] at H
            have c28b0 : (t386 == 0) = false := beq_eq_false_iff_ne.mpr c28
            have c28b1 : (t386 != 0) = true := bne_iff_ne.mpr c28
            exact absurd ((Option.some.inj H).trans HT.out) (by decide)
        · rw [if_neg c27] at H
          have c27b0 : (t381 == 0) = false := beq_eq_false_iff_ne.mpr c27
          have c27b1 : (t381 != 0) = true := bne_iff_ne.mpr c27
          exact absurd ((Option.some.inj H).trans HT.out) (by decide)
end Go.Proofs.YtekkpmoppihlaaaDoor.Px
end
section
namespace Go.Proofs.YtekkpmoppihlaaaDoor.Px
open Fig Go.RowKit Go.Proofs.YtekkpmoppihlaaaDoorW.PrintWords Go.Proofs.YtekkpmoppihlaaaDoorW.PrintLast Go.Proofs.YtekkpmoppihlaaaDoorW.PrintMore
attribute [local go_sem] max2_int min2_int max_two min_two max_three min_three max_four min_four   -- for this text's walks alone
attribute [local go_sem] fieldA23_0 fieldA23_1 fieldA23_2
set_option maxRecDepth 100000 in
theorem figureheadlaw10_IncNear.calls (k : Nat) (a0 : Int) (a1_0 : Bool) (a1_1 : ByteArray) (a1_2 : Int) (a2 : ByteArray) (a3 : Int) (r : Bool) (w : World) (hG : Fig.Glob w) (HT : Aside0 (r = true)) (h : figureheadlaw10_IncNear.f k a0 a1_0 a1_1 a1_2 a2 a3 = some r) :
    Calls Tryd.prog 4 #[.int .i64 a0, .agg #[.bool a1_0, .string a1_1, .int .i64 a1_2], .string a2, .int .i64 a3] w fun e w' => e = .returned (.bool r) ∧ Below w.heap.size w w' := by
  by_cases hz0_ : 4 ≤ a0
  · exact figureheadlaw10_IncNear.callsA k a0 a1_0 a1_1 a1_2 a2 a3 r w hG HT (Aside0.mk hz0_) h
  · exact figureheadlaw10_IncNear.callsB k a0 a1_0 a1_1 a1_2 a2 a3 r w hG HT (Aside0.mk (by omega)) h
end Go.Proofs.YtekkpmoppihlaaaDoor.Px
end
section
namespace Go.Proofs.YtekkpmoppihlaaaDoor.Px
open Fig Go.RowKit Go.Proofs.YtekkpmoppihlaaaDoorW.PrintWords Go.Proofs.YtekkpmoppihlaaaDoorW.PrintLast Go.Proofs.YtekkpmoppihlaaaDoorW.PrintMore
attribute [local go_sem] max2_int min2_int max_two min_two max_three min_three max_four min_four   -- for this text's walks alone
attribute [local go_sem] fieldA23_0 fieldA23_1 fieldA23_2
theorem Digits_loop (s : ByteArray) (hs : s.size ≤ 4611686018427387904) : ∀ (d n : Nat), s.size - n = d → n ≤ s.size → Ev (fun k => figureheadref05_Digits.l0 k s (n : Int)) (digL (s.data.toList.drop n) && decide (s.size ≠ 0))
  | 0, n, hd, hn => by
    refine evDone (r' := (s.toList != ([] : List UInt8))) (fun k => ?_) ?_
    · simp only [figureheadref05_Digits.l0]; rw [if_neg (by omega)]
    · rw [List.drop_of_length_le (by rw [← size_eq]; omega), bne_nil, ByteArray.toList_eq, size_eq]
      cases s.data.toList <;> simp [digL]
  | d + 1, n, hd, hn => by
    have hlt : n < s.size := by omega
    have hbt := bt_get hlt
    have hc := List.drop_eq_getElem_cons (l := s.data.toList) (i := n) (by rw [← size_eq]; exact hlt)
    rw [hc]
    generalize hx : s.data.toList[n]'(by rw [← size_eq]; exact hlt) = c at hbt
    by_cases h1 : c.toNat < 48
    · refine evDone (r' := false) (fun k => ?_) ?_
      · simp only [figureheadref05_Digits.l0]; rw [if_pos (by omega), if_pos (by omega), hbt, if_pos (by omega)]
      · have : isD c = false := by unfold isD; simp; omega
        simp [digL, this]
    · by_cases h2 : c.toNat > 57
      · refine evDone (r' := false) (fun k => ?_) ?_
        · simp only [figureheadref05_Digits.l0]; rw [if_pos (by omega), if_pos (by omega), hbt, if_neg (by omega), if_pos (by omega)]
        · have : isD c = false := by unfold isD; simp; omega
          simp [digL, this]
      · have hd1 : isD c = true := isD_iff.2 ⟨by omega, by omega⟩
        refine evIs (Ev.step (f := fun k => figureheadref05_Digits.l0 k s ((n + 1 : Nat) : Int)) (fun k => ?_) (Digits_loop s hs d (n + 1) (by omega) (by omega))) ?_
        · simp only [figureheadref05_Digits.l0]; rw [if_pos (by omega), if_pos (by omega), hbt, if_neg (by omega), if_neg (by omega), succ64 _ (by omega)]
        · simp [digL, hd1]
theorem Digits05_ev {s : ByteArray} (hs : s.size ≤ 4611686018427387904) : Ev (fun k => figureheadref05_Digits.f k s) (dB s && decide (s.size ≠ 0)) := by
  have := Digits_loop s hs s.size 0 (by omega) (by omega)
  rw [List.drop_zero] at this
  exact this
end Go.Proofs.YtekkpmoppihlaaaDoor.Px
end
section
namespace Go.Proofs.YtekkpmoppihlaaaDoor.Px
open Fig Go.RowKit Go.Proofs.YtekkpmoppihlaaaDoorW.PrintWords Go.Proofs.YtekkpmoppihlaaaDoorW.PrintLast Go.Proofs.YtekkpmoppihlaaaDoorW.PrintMore
attribute [local go_sem] max2_int min2_int max_two min_two max_three min_three max_four min_four   -- for this text's walks alone
attribute [local go_sem] fieldA23_0 fieldA23_1 fieldA23_2
theorem Good05_ev {b : Bool} {s : ByteArray} {e : Int} (hs : s.size ≤ 4611686018427387904) : Ev (fun k => figureheadref05_Good.f k b s e) (goodD s e) := by
  unfold figureheadref05_Good.f
  refine Ev.bind (Digits05_ev hs) ?_
  unfold goodD
  cases hd : (dB s && decide (s.size ≠ 0))
  · simp only [Bool.false_eq_true, if_false, Bool.false_and]
    exact Ev.now _
  · simp only [if_true, Bool.true_and]
    by_cases h1 : s.size ≤ 1000
    · have h1' : (s.size : Int) ≤ 1000 := by omega
      simp only [h1', h1, if_true, decide_true, Bool.true_and]
      by_cases h2 : e ≥ -1000
      · have h2' : -1000 ≤ e := h2
        simp only [h2, h2', if_true, decide_true, Bool.true_and]
        exact Ev.now _
      · have h2' : ¬ -1000 ≤ e := h2
        simp only [h2, h2', if_false, decide_false, Bool.false_and]
        exact Ev.now _
    · have h1' : ¬ (s.size : Int) ≤ 1000 := by omega
      simp only [h1', h1, if_false, decide_false, Bool.false_and]
      exact Ev.now _
end Go.Proofs.YtekkpmoppihlaaaDoor.Px
end
section
namespace Go.Proofs.YtekkpmoppihlaaaDoor.Px
open Fig Go.RowKit Go.Proofs.YtekkpmoppihlaaaDoorW.PrintWords Go.Proofs.YtekkpmoppihlaaaDoorW.PrintLast Go.Proofs.YtekkpmoppihlaaaDoorW.PrintMore
attribute [local go_sem] max2_int min2_int max_two min_two max_three min_three max_four min_four   -- for this text's walks alone
attribute [local go_sem] fieldA23_0 fieldA23_1 fieldA23_2
def goodP10 (s : ByteArray) (e p : Int) : Bool := goodD s e && decide (s.size ≤ 60) && decide (-100 ≤ p) && decide (p ≤ 100) && decide (-100 ≤ e) && decide (e ≤ 100)
theorem goodP10_iff {s : ByteArray} {e p : Int} : goodP10 s e p = true ↔ goodD s e = true ∧ s.size ≤ 60 ∧ -100 ≤ p ∧ p ≤ 100 ∧ -100 ≤ e ∧ e ≤ 100 := by
  unfold goodP10; simp only [Bool.and_eq_true, decide_eq_true_eq, and_assoc]
theorem good10_ev {b : Bool} {s : ByteArray} {e p : Int} (hs : s.size ≤ 4611686018427387904) : Ev (fun k => figureheadlaw10_good.f k b s e p) (goodP10 s e p) := by
  unfold figureheadlaw10_good.f
  refine Ev.bind (Good05_ev hs) ?_
  unfold goodP10
  cases goodD s e
  · exact evF (by decide) (evIs (Ev.now _) (by simp))
  refine evT rfl ?_
  by_cases h1 : s.size ≤ 60
  · refine evT (by omega) ?_
    by_cases h2 : p ≥ -100
    · refine evT h2 ?_
      by_cases h3 : p ≤ 100
      · refine evT h3 ?_
        by_cases h4 : e ≥ -100
        · have h2' : -100 ≤ p := h2
          have h4' : -100 ≤ e := h4
          exact evT h4 (evIs (Ev.now _) (by simp [h1, h2', h3, h4']))
        · have h4' : ¬ -100 ≤ e := h4
          exact evF h4 (evIs (Ev.now _) (by simp [h4']))
      · exact evF h3 (evIs (Ev.now _) (by simp [h3]))
    · have h2' : ¬ -100 ≤ p := h2
      exact evF h2 (evIs (Ev.now _) (by simp [h2']))
  · exact evF (by omega) (evIs (Ev.now _) (by simp [h1]))
theorem goodP10_ok {s : ByteArray} {e p : Int} (h : goodP10 s e p = true) : OkS s e ∧ (digB (vB s)).size ≤ 60 ∧ -100 ≤ p ∧ p ≤ 100 ∧ -100 ≤ e ∧ e ≤ 100 := by
  obtain ⟨a, b, c, d, f, g⟩ := goodP10_iff.1 h
  have ok := OkS.of_good a
  have := ok.ok.val
  exact ⟨ok, by have := digs_size_lt (vB_lt ok.d); omega, c, d, f, g⟩
theorem inc_rv0_size {m : Int} {neg : Bool} {n st x y : Nat} {e p k : Int} (hn : (digB n).size ≤ x) (hs : (digB st).size ≤ y) (hs0 : st ≠ 0) (h1 : k ≤ e) (h2 : k ≤ p) : (digB (rv0 m neg n e st p k)).size ≤ max (x + (e - k).toNat) (y + (p - k).toNat) + 1 := by
  have a := size_vZ neg (n := n) (p := x) e k hn
  have b := size_vZ neg (n := st) (p := y) p k hs
  rw [vZ_natAbs] at a b
  have hB := atE_pos hs0 p k
  have h3 := (rq_near (m := m) (neg := neg) (N := atE n e k) hB).1
  refine digB_mono (n := atE n e k + atE st p k) (by unfold rv0; omega) ?_
  exact digB_add_le (digB_mono (Nat.le_refl _) (by omega)) (digB_mono (Nat.le_refl _) (by omega))
theorem inc_rv0_ok {m : Int} {neg : Bool} {n st : Nat} {e p k : Int} (hn : (digB n).size ≤ 700) (hs : (digB st).size ≤ 700) (hs0 : st ≠ 0) (h1 : k ≤ e) (h2 : k ≤ p) (h3 : -2000 ≤ k) (h4 : k ≤ 2000) (h5 : e ≤ k + 1500) (h6 : p ≤ k + 2500) : OkS (nD (rv0 m neg n e st p k)) (nE (rv0 m neg n e st p k) k) := by
  have := inc_rv0_size (m := m) (neg := neg) (x := 700) (y := 700) hn hs hs0 h1 h2
  exact OkS.norm (by omega) (by omega) (by omega)
end Go.Proofs.YtekkpmoppihlaaaDoor.Px
end
section
namespace Go.Proofs.YtekkpmoppihlaaaDoor.Px
open Fig Go.RowKit Go.Proofs.YtekkpmoppihlaaaDoorW.PrintWords Go.Proofs.YtekkpmoppihlaaaDoorW.PrintLast Go.Proofs.YtekkpmoppihlaaaDoorW.PrintMore
attribute [local go_sem] max2_int min2_int max_two min_two max_three min_three max_four min_four   -- for this text's walks alone
attribute [local go_sem] fieldA23_0 fieldA23_1 fieldA23_2
theorem modeP (m : Int) : mode_Good.f m = some (decide (0 ≤ m ∧ m < 8)) := by
  unfold mode_Good.f
  by_cases h : m ≥ 0
  · rw [if_pos h]; congr 1; rw [decide_eq_decide]; omega
  · rw [if_neg h]; congr 1; symm; rw [decide_eq_false_iff_not]; omega
end Go.Proofs.YtekkpmoppihlaaaDoor.Px
end
section
namespace Go.Proofs.YtekkpmoppihlaaaDoor.Px
open Fig Go.RowKit Go.Proofs.YtekkpmoppihlaaaDoorW.PrintWords Go.Proofs.YtekkpmoppihlaaaDoorW.PrintLast Go.Proofs.YtekkpmoppihlaaaDoorW.PrintMore
attribute [local go_sem] max2_int min2_int max_two min_two max_three min_three max_four min_four   -- for this text's walks alone
attribute [local go_sem] fieldA23_0 fieldA23_1 fieldA23_2
theorem guess_mid (p q : Nat) (hp : p ≤ 1000000000) (hq : q ≤ 1000000000) : (((p : Int) + (q : Int)) % 4294967296) / 2 = (((p + q) / 2 : Nat) : Int) := by omega
theorem guess_loop (r b : List Int) (gr : goodL r = true) (gb : goodL b = true) (lr : r.length ≤ 1000001) (lb : b.length ≤ 1000000) : ∀ (d p q : Nat), q - p = d → p < q → q ≤ 1000000000 → valL b * p ≤ valL r → valL r < valL b * q →
    Ev (fun k => div_guess.l0 k r b (p : Int) (q : Int)) (((valL r / valL b : Nat) : Int), limbs (valL r % valL b)) := by
  intro d
  induction d using Nat.strongRecOn with
  | _ d ih =>
  intro p q hd hpq hq h1 h2
  by_cases hs : 1 < q - p
  · have hm1 : p < (p + q) / 2 := by omega
    have hm2 : (p + q) / 2 < q := by omega
    have lm : (limbs (valL b * ((p + q) / 2) + 0)).length ≤ 1000001 := by
      have := valL_lt gb
      have h3 : valL b * ((p + q) / 2) < 1000000000 ^ b.length * 1000000000 := Nat.mul_lt_mul'' this (by omega)
      rw [← Nat.pow_succ] at h3
      exact limbs_pow9 h3 (by omega)
    refine Ev.step (f := fun k => (mul_Small.f k b (((p + q) / 2 : Nat) : Int) ((0 : Nat) : Int)).bind fun t => (nat_Cmp.f t r).bind fun t2 => if t2 ≤ 0 then div_guess.l0 k r b (((p + q) / 2 : Nat) : Int) (q : Int) else div_guess.l0 k r b (p : Int) (((p + q) / 2 : Nat) : Int)) (fun k => ?_) (Ev.bind (Small_ev gb lb (by omega) (by omega)) (Ev.bind (evSome fun _ => cmpF_eq (limbs_good _) gr (by omega) (by omega)) ?_))
    · simp only [div_guess.l0]
      rw [if_pos (by omega), guess_mid p q (by omega) hq]; rfl
    · rw [limbs_val, Nat.add_zero]
      by_cases hc : valL b * ((p + q) / 2) ≤ valL r
      · have c0 : cmpN (valL b * ((p + q) / 2)) (valL r) ≤ 0 := by
          unfold cmpN
          split
          · omega
          · rw [if_neg (by omega)]; omega
        simp only [c0, if_true]
        exact ih _ (by omega) _ _ rfl hm2 hq hc h2
      · have c0 : ¬ cmpN (valL b * ((p + q) / 2)) (valL r) ≤ 0 := by unfold cmpN; rw [if_neg (by omega), if_pos (by omega)]; omega
        simp only [c0, if_false]
        exact ih _ (by omega) _ _ rfl hm1 (by omega) h1 (by omega)
  · have hq1 : q = p + 1 := by omega
    subst hq1
    have hb0 : 0 < valL b := by
      rcases Nat.eq_zero_or_pos (valL b) with h0 | h0
      · rw [h0] at h2; omega
      · exact h0
    have e1 : valL r / valL b = p := by
      rw [Nat.mul_add] at h2
      exact Nat.div_eq_of_lt_le (by rw [Nat.mul_comm]; exact h1) (by rw [Nat.add_mul, Nat.mul_comm p]; omega)
    have e2 : valL r % valL b = valL r - valL b * p := by
      have := Nat.div_add_mod (valL r) (valL b)
      rw [e1] at this; omega
    have lm : (limbs (valL b * p + 0)).length ≤ 1000001 := by
      exact limbs_pow9 (Nat.lt_of_le_of_lt h1 (valL_lt gr)) lr
    refine Ev.step (f := fun k => (mul_Small.f k b ((p : Nat) : Int) ((0 : Nat) : Int)).bind fun t => (nat_Sub.f r t).bind fun t2 => some (((p : Nat) : Int), t2.1)) (fun k => ?_) (Ev.bind (Small_ev gb lb (by omega) (by omega)) (Ev.bind (evSome fun _ => subF_ge gr (limbs_good _) (by omega) (by omega) (by rw [limbs_val]; omega)) ?_))
    · simp only [div_guess.l0]
      rw [if_neg (by omega)]; rfl
    · rw [limbs_val, Nat.add_zero, e1, e2]; exact Ev.now _
theorem guess_ev {r b : List Int} (gr : goodL r = true) (gb : goodL b = true) (lr : r.length ≤ 1000001) (lb : b.length ≤ 1000000) (h : valL r < 1000000000 * valL b) : Ev (fun k => div_guess.f k r b) (((valL r / valL b : Nat) : Int), limbs (valL r % valL b)) := by
  have := guess_loop r b gr gb lr lb _ 0 1000000000 rfl (by omega) (by omega) (by omega) (by rw [Nat.mul_comm]; exact h)
  exact this
end Go.Proofs.YtekkpmoppihlaaaDoor.Px
end
section
namespace Go.Proofs.YtekkpmoppihlaaaDoor.Px
open Fig Go.RowKit Go.Proofs.YtekkpmoppihlaaaDoorW.PrintWords Go.Proofs.YtekkpmoppihlaaaDoorW.PrintLast Go.Proofs.YtekkpmoppihlaaaDoorW.PrintMore
attribute [local go_sem] max2_int min2_int max_two min_two max_three min_three max_four min_four   -- for this text's walks alone
attribute [local go_sem] fieldA23_0 fieldA23_1 fieldA23_2
def div_Small.l0 : Nat → List Int → Int → List Int → Int → Int → Option (List Int × Int × Bool)
  | 0, _, _, _, _, _ => none
  | k + 1, x0, x1, x4, x7, x8 => if x8 ≥ 0 then (if 0 ≤ x8 then (if x8 < (x0.length : Int) then (if (IntKind.u64.wrap (x1)) = 0 then (none) else (if x8 < (x4.length : Int) then (div_Small.l0 k x0 x1 (x4.set (x8 : Int).toNat ((IntKind.u64.wrap (Int.tdiv (IntKind.u64.wrap ((IntKind.u64.wrap (x7 * 1000000000)) + (IntKind.u64.wrap (rd x0 x8)))) (IntKind.u64.wrap (x1)))) % 4294967296)) (Int.tmod (IntKind.u64.wrap ((IntKind.u64.wrap (x7 * 1000000000)) + (IntKind.u64.wrap (rd x0 x8)))) (IntKind.u64.wrap (x1))) (wrap64 (x8 - 1))) else (none))) else (none)) else (none)) else ((nat_Trim.f x4).bind fun t443 => (some (t443, (x7) % 4294967296, true)))
def div_Small.f (k : Nat) (l0 : List Int) (a1 : Int) : Option (List Int × Int × Bool) := if a1 = 0 then (some (([] : List Int), 0, false)) else (if 0 ≤ (l0.length : Int) then (if ((l0.length : Int) : Int).toNat ≤ 70368744177664 then (div_Small.l0 k l0 a1 (List.replicate ((l0.length : Int) : Int).toNat 0) 0 (wrap64 ((l0.length : Int) - 1))) else (none)) else (none))
theorem div_Small.mono_l : ∀ k, (∀ y0 y1 y2 y3 y4, LeO (div_Small.l0 k y0 y1 y2 y3 y4) (div_Small.l0 (k + 1) y0 y1 y2 y3 y4))
  | 0 => fun _ _ _ _ _ r h => by simp [div_Small.l0] at h
  | k + 1 => by
    have ih0 := div_Small.mono_l k
    · intro y0 y1 y2 y3 y4
      unfold div_Small.l0
      repeat' first
      | (with_reducible exact ih0 _ _ _ _ _)
      | (with_reducible exact LeO.refl _)
      | (with_reducible exact LeO.none _)
      | (with_reducible refine LeO.ite ?_ ?_)
      | (with_reducible refine LeO.bind ?_ (fun _ => ?_))
      | exact ih0 _ _ _ _ _
      | exact LeO.none _
      | refine LeO.ite ?_ ?_
      | refine LeO.bind ?_ (fun _ => ?_)
theorem div_Small.mono : ∀ a0 a1 k, LeO (div_Small.f k a0 a1) (div_Small.f (k + 1) a0 a1) := by
  intro a0 a1 k
  have ih0 := div_Small.mono_l k
  unfold div_Small.f
  repeat' first
      | (with_reducible exact ih0 _ _ _ _ _)
      | (with_reducible exact LeO.refl _)
      | (with_reducible exact LeO.none _)
      | (with_reducible refine LeO.ite ?_ ?_)
      | (with_reducible refine LeO.bind ?_ (fun _ => ?_))
      | exact ih0 _ _ _ _ _
      | exact LeO.none _
      | refine LeO.ite ?_ ?_
      | refine LeO.bind ?_ (fun _ => ?_)
set_option maxHeartbeats 8000000 in
set_option maxRecDepth 100000 in
theorem div_Small.calls (k : Nat) (A0 : Option Addr) (c0 : Nat) (l0 : List Int) (a1 : Int) (r1 : List Int) (r2 : Int) (r3 : Bool) (w : World) (hr0 : Kd.C (Kd.int .u32) w A0 l0.length l0) (hc0 : l0.length ≤ c0) (h : div_Small.f k l0 a1 = some (r1, r2, r3)) :
    Calls Tryd.prog 72 #[.slice A0 l0.length c0, .int .u32 a1] w fun e w' => ∃ v0_ : Value, e = .returned (.tuple #[v0_, .int .u32 r2, .bool r3]) ∧ Kd.R (Kd.int .u32) 48 w' w.heap.size (fun _ => True) v0_ r1 ∧ Below w.heap.size w w' := by
  have HR0 := Aside0.mk hr0
  have HC0 := Aside0.mk hc0
  clear hr0 hc0
  have HB := Aside0.mk (Below.refl w.heap.size w)
  have H : (if a1 = 0 then (some (([] : List Int), 0, false)) else (if 0 ≤ (l0.length : Int) then (if ((l0.length : Int) : Int).toNat ≤ 70368744177664 then (div_Small.l0 k l0 a1 (List.replicate ((l0.length : Int) : Int).toNat 0) 0 (wrap64 ((l0.length : Int) - 1))) else (none)) else (none))) = some (r1, r2, r3) := h
  clear h
  by_cases c3 : a1 = 0
  · rw [if_pos c3] at H
    have c3b0 : (a1 == 0) = true := beq_iff_eq.mpr c3
    have c3b1 : (a1 != 0) = false := bne_eq_false_iff_eq.mpr c3
    clear c3
    simp only [Option.some.injEq, Prod.mk.injEq] at H
    obtain ⟨rfl, rfl, rfl⟩ := H
    go_enter Tryd.func72, Tryd.ntmps72
    go_wp2
    go_ret3
    exact ⟨_, ER, by first | exact Kd.R_nil _ _ _ _ _ | exact Kd.N_nil _ _ _ _ _ | exact Kd.V_nil _ _ _ _ _ | exact Kd.Q_nil _ _ _ _ _ | exact Kd.S_nil _ _ _ _ _, BL HB⟩
  rw [if_neg c3] at H
  have c3b0 : (a1 == 0) = false := beq_eq_false_iff_ne.mpr c3
  have c3b1 : (a1 != 0) = true := bne_iff_ne.mpr c3
  by_cases c4 : 0 ≤ (l0.length : Int)
  · rw [if_pos c4] at H
    have c4b0 := eq_true c4
    have c4b1 : decide (0 ≤ (l0.length : Int)) = true := decide_eq_true c4
    clear c4
    by_cases c5 : ((l0.length : Int) : Int).toNat ≤ 70368744177664
    · rw [if_pos c5] at H
      have c5b0 := eq_true c5
      have c5b1 : decide (((l0.length : Int) : Int).toNat ≤ 70368744177664) = true := decide_eq_true c5
      clear c5
      obtain ⟨y438, hy438⟩ : ∃ y_ : List Int, y_ = (List.replicate ((l0.length : Int) : Int).toNat 0) := ⟨_, rfl⟩
      replace H : (div_Small.l0 k l0 a1 y438 0 (wrap64 ((l0.length : Int) - 1))) = some (r1, r2, r3) := by first | (rw [hy438]; with_reducible exact H) | (have H2_ := (Option.bind_some _ _).symm.trans H; rw [hy438]; with_reducible exact H2_) | (have H2_ := (Option.bind_some _ _).symm.trans H; with_reducible exact H2_) | with_reducible exact H | (rw [hy438]; exact H) | exact H
      have Ny438 := Aside0.mk hy438
      clear hy438
      have H' := Aside0.mk H
      clear H
      go_enter Tryd.func72, Tryd.ntmps72
      go_wp2_with (first | ((with_reducible refine gate_dst (N := 13) rfl ?_); refine Kd.R_make (Kd.int .u32) _ 48 rfl (N := 13) rfl 39 _ _ rfl (l0.length : Int) rfl rfl Tryd.underlying39 (.int .u32 0) 4 info48 rfl (by decide) (by omega) 0 (ok := fun _ => True) (okp := fun _ => True) rfl (fun _ hk => hk) trivial (of_decide_eq_true (by first | (with_reducible assumption) | assumption)) (Nat.le_trans (Nat.mul_le_mul_right _ (of_decide_eq_true (by first | (with_reducible assumption) | assumption) : (l0.length : Int).toNat ≤ 70368744177664)) (by omega)) (Below.refl _ _) (Nat.le_refl _) ?_; intro v439 w6 ho7 hb hg_ hnew_; clear hg_ hnew_; (first | rw [← Ny438.out] at ho7 | (simp only [Int.reduceToNat] at ho7; rw [← Ny438.out] at ho7)); have HO440 := Aside0.mk (Kd.R_lower ho7 (below_size (BL HB))); replace HB := hbs_ HB hb; clear hb ho7))
      go_loopg [7, 8] k (fun kq v7 v8 w' => ∃ (x4_1 : List Int) (x7_1 : Int) (x8_1 : Int), v7 = .int .u64 x7_1 ∧ v8 = .int .i64 x8_1 ∧ Aside0 (div_Small.l0 kq l0 a1 x4_1 x7_1 x8_1 = some (r1, r2, r3)) ∧ Aside0 (kq ≤ k) ∧ Aside0 (Kd.R (Kd.int .u32) 48 w' w.heap.size (fun _ => True) v439 x4_1) ∧ Aside0 (Below w.heap.size w w'))
      case atStart => exact ⟨(y438), (0), (wrap64 ((l0.length : Int) - 1)), (by first | rfl | (simp; done) | (simp [*]; done) | (simp [*, Fig.bne_nil]; done)), (by first | rfl | (simp; done) | (simp [*]; done) | (simp [*, Fig.bne_nil]; done)), H', ⟨Nat.le_refl _⟩, ⟨by (with_reducible repeat (first | apply Kd.R_alloc | apply Kd.R_drewN | apply Kd.R_drew)); exact HO440.out⟩, ⟨BL HB⟩⟩
      case round =>
        clear H'
        try clear c3
        try clear c3b0
        try clear c3b1
        try clear c4
        try clear c4b0
        try clear c4b1
        try clear c5
        try clear c5b0
        try clear c5b1
        obtain ⟨x4_1, x7_1, x8_1, rfl, rfl, HA, HK1, HO_4, HB⟩ := hrel
        obtain _ | k1 := gk
        · exact absurd HA.out (by simp [div_Small.l0])
        have H := HA.out
        clear HA
        simp only [div_Small.l0] at H
        by_cases c8 : x8_1 ≥ 0
        · rw [if_pos c8] at H
          have c8b0 : decide (0 ≤ x8_1) = true := decide_eq_true c8
          clear c8
          by_cases c9 : 0 ≤ x8_1
          · rw [if_pos c9] at H
            have c9b0 : decide (0 ≤ x8_1) = true := decide_eq_true c9
            clear c9
            by_cases c10 : x8_1 < (l0.length : Int)
            · rw [if_pos c10] at H
              have c10b0 : decide (x8_1 < (l0.length : Int)) = true := decide_eq_true c10
              clear c10
              by_cases c11 : (IntKind.u64.wrap (a1)) = 0
              · rw [if_pos c11] at H
                exact absurd H (by simp)
              rw [if_neg c11] at H
              have c11b0 : ((IntKind.u64.wrap (a1)) == 0) = false := beq_eq_false_iff_ne.mpr c11
              have c11b1 : ((IntKind.u64.wrap (a1)) != 0) = true := bne_iff_ne.mpr c11
              by_cases c12 : x8_1 < (x4_1.length : Int)
              · rw [if_pos c12] at H
                have c12b0 : decide (x8_1 < (x4_1.length : Int)) = true := decide_eq_true c12
                clear c12
                obtain ⟨y442, hy442⟩ : ∃ y_ : List Int, y_ = (x4_1.set (x8_1 : Int).toNat ((IntKind.u64.wrap (Int.tdiv (IntKind.u64.wrap ((IntKind.u64.wrap (x7_1 * 1000000000)) + (IntKind.u64.wrap (rd l0 x8_1)))) (IntKind.u64.wrap (a1)))) % 4294967296)) := ⟨_, rfl⟩
                replace H : (div_Small.l0 k1 l0 a1 y442 (Int.tmod (IntKind.u64.wrap ((IntKind.u64.wrap (x7_1 * 1000000000)) + (IntKind.u64.wrap (rd l0 x8_1)))) (IntKind.u64.wrap (a1))) (wrap64 (x8_1 - 1))) = some (r1, r2, r3) := by first | (rw [hy442]; with_reducible exact H) | (have H2_ := (Option.bind_some _ _).symm.trans H; rw [hy442]; with_reducible exact H2_) | (have H2_ := (Option.bind_some _ _).symm.trans H; with_reducible exact H2_) | with_reducible exact H | (rw [hy442]; exact H) | exact H
                have Ny442 := Aside0.mk hy442
                clear hy442
                have H' := Aside0.mk H
                clear H
                have p441 : 0 ≤ (x8_1 : Int) := of_decide_eq_true (by first | (with_reducible assumption) | assumption)
                have q441 : x8_1 < (l0.length : Int) := of_decide_eq_true (by first | (with_reducible assumption) | assumption)
                obtain ⟨ad441, e441, hx441_0⟩ := Kd.at_int HR0.out x8_1 p441 q441
                cases e441
                replace hx441_0 := (HB.out.cell (World.block_lt_of_cell? w _ hx441_0)).trans hx441_0
                replace p441 := eq_true p441
                replace q441 := eq_true q441
                have p13 : 0 ≤ (x8_1 : Int) := of_decide_eq_true (by first | (with_reducible assumption) | assumption)
                have q13 : (x8_1 : Int) < ((x4_1.length : Int) : Int) := of_decide_eq_true (by first | (with_reducible assumption) | assumption)
                obtain ⟨go13, co13, eo13, gb13, gl13, cl13, HG13⟩ := Kd.R_form HO_4.out (by omega)
                (first | cases eo13 | (injection eo13 with ea_ en_ ec_; (first | subst ea_ | (injection ea_ with ea_; subst ea_)); subst ec_; clear en_))
                have GB13 := Aside0.mk gb13
                have GG13 := Aside0.mk HG13
                clear gb13 gl13 HG13
                obtain ⟨hx13_0, hf13_0⟩ := Kd.R_celln 0 HO_4.out (x8_1 : Int) p13 q13
                replace p13 := eq_true p13
                replace q13 := eq_true q13
                have HP14 := Kd.R_putg HO_4.out (x8_1 : Int) ((IntKind.u64.wrap (Int.tdiv (IntKind.u64.wrap ((IntKind.u64.wrap (x7_1 * 1000000000)) + (IntKind.u64.wrap (rd l0 x8_1)))) (IntKind.u64.wrap (a1)))) % 4294967296)
                go_wp2_with (first | ((with_reducible refine gate_store (t := 48) (p := 36) rfl ?_); refine store_event (t := 48) (p := 36) (v := ?vo_w15) (w1 := (wr.setCell ⟨go13, (x8_1 : Int).toNat, none⟩ (.int .u32 ((IntKind.u64.wrap (Int.tdiv (IntKind.u64.wrap ((IntKind.u64.wrap (x7_1 * 1000000000)) + (IntKind.u64.wrap (rd l0 x8_1)))) (IntKind.u64.wrap (a1)))) % 4294967296)))) ?hg ?ho ?hn ?hr ?_; (case ho => rfl); (case hg => rfl); (case hn => rfl); (case hr => first | (go_simp; done) | (go_simp; rfl)); intro w15 hw; have hg : wr.grownBy w15 (some go13) := (by rw [hw]; exact HP14.2); have hp_ : Kd.R (Kd.int .u32) 48 w15 w.heap.size (fun _ => True) (.slice (some ⟨go13, 0, none⟩) x4_1.length co13) y442 := (by rw [hw, Ny442.out]; exact HP14.1); clear HP14; replace HO_4 := Aside0.mk (hp_); replace HB := Aside0.mk ((by rw [hw]; exact below_set (HB.out) GB13.out : Below w.heap.size w w15)); clear hg hw hp_))
                go_roundg k1
                case measure => have := HK1.out; omega
                case rel => exact ⟨(y442), (Int.tmod (IntKind.u64.wrap ((IntKind.u64.wrap (x7_1 * 1000000000)) + (IntKind.u64.wrap (rd l0 x8_1)))) (IntKind.u64.wrap (a1))), (wrap64 (x8_1 - 1)), (by first | rfl | (simp; done) | (simp [*]; done) | (simp [*, Fig.bne_nil]; done)), (by first | rfl | (simp; done) | (simp [*]; done) | (simp [*, Fig.bne_nil]; done)), H', ⟨by have := HK1.out; omega⟩, ⟨by (with_reducible repeat (first | apply Kd.R_alloc | apply Kd.R_drewN | apply Kd.R_drew)); exact HO_4.out⟩, ⟨BL HB⟩⟩
              rw [if_neg c12] at H
              exact absurd H (by simp)
            rw [if_neg c10] at H
            exact absurd H (by simp)
          rw [if_neg c9] at H
          exact absurd H (by simp)
        rw [if_neg c8] at H
        have c8b0 : decide (0 ≤ x8_1) = false := decide_eq_false c8
        clear c8
        obtain ⟨t443, A160, H⟩ := Option.bind_eq_some_iff.mp H
        (try dsimp -simprocs only at H)
        have A16 := Aside0.mk A160
        clear A160
        simp only [Option.some.injEq, Prod.mk.injEq] at H
        obtain ⟨rfl, rfl, rfl⟩ := H
        obtain ⟨Ao17, co17, eo17⟩ := Kd.R_slice HO_4.out
        subst eo17
        go_wp2_with (first | ((with_reducible refine gate_callee (f := 44) rfl ?_); refine goesL_ (some 42) rfl rfl Tryd.func44 (by kernel_rfl) rfl #[.slice Ao17 x4_1.length co17] rfl MP ?_; (with_reducible refine (nat_Trim.calls _ _ x4_1 t443 _ ?side1 ?side2 A16.out).mono ?_); (case side1 => repeat (first | exact (Kd.R_reads' HO_4.out).2.2 | (with_reducible refine Kd.C_alloc ?_ _) | (with_reducible refine Kd.C_drewN ?_ _) | (with_reducible refine Kd.C_drew ?_))); (case side2 => exact (Kd.R_reads' HO_4.out).2.1); rintro e w18 ⟨v444, rfl, ho0, hb⟩; refine ⟨_, rfl, ?_⟩; have n0_ := Aside0.mk (Kd.R_elder' (by (with_reducible repeat (first | apply Kd.R_alloc | apply Kd.R_drewN | apply Kd.R_drew)); exact HO_4.out) (Kd.R_base ho0) hb); have n1_ := Aside0.mk (Kd.R_lower (Kd.R_new' ho0 (Kd.R_lt (by (with_reducible repeat (first | apply Kd.R_alloc | apply Kd.R_drewN | apply Kd.R_drew)); exact HO_4.out))) (below_size (BL HB))); have n2_ := hbs_ HB hb; clear HO_4; clear HB; have HO_4 := n0_; have HO445 := n1_; have HB := n2_; clear n0_ n1_ n2_; (try clear hb); (try clear hb2); (try clear hk); (try clear hi); (try clear ho0)))
        go_ret3
        exact ⟨_, ER, by (with_reducible repeat (first | apply Kd.R_alloc | apply Kd.R_drewN | apply Kd.R_drew)); exact Kd.R_mono HO445.out (fun _ hk => trivial), BL HB⟩
    rw [if_neg c5] at H
    exact absurd H (by simp)
  rw [if_neg c4] at H
  exact absurd H (by simp)
end Go.Proofs.YtekkpmoppihlaaaDoor.Px
end
section
namespace Go.Proofs.YtekkpmoppihlaaaDoor.Px
open Fig Go.RowKit Go.Proofs.YtekkpmoppihlaaaDoorW.PrintWords Go.Proofs.YtekkpmoppihlaaaDoorW.PrintLast Go.Proofs.YtekkpmoppihlaaaDoorW.PrintMore
attribute [local go_sem] max2_int min2_int max_two min_two max_three min_three max_four min_four   -- for this text's walks alone
attribute [local go_sem] fieldA23_0 fieldA23_1 fieldA23_2
theorem cast_bd {x : Nat} (h : x < 1000000000) : (0 : Int) ≤ (x : Int) ∧ (x : Int) < 1000000000 := by omega
theorem drop_set_self : ∀ (q : List Int) (n : Nat) (v : Int), n < q.length → (q.set n v).drop n = v :: q.drop (n + 1)
  | x :: q, 0, v, h => rfl
  | x :: q, n + 1, v, h => by simpa using drop_set_self q n v (by simpa using h)
end Go.Proofs.YtekkpmoppihlaaaDoor.Px
end
section
namespace Go.Proofs.YtekkpmoppihlaaaDoor.Px
open Fig Go.RowKit Go.Proofs.YtekkpmoppihlaaaDoorW.PrintWords Go.Proofs.YtekkpmoppihlaaaDoorW.PrintLast Go.Proofs.YtekkpmoppihlaaaDoorW.PrintMore
attribute [local go_sem] max2_int min2_int max_two min_two max_three min_three max_four min_four   -- for this text's walks alone
attribute [local go_sem] fieldA23_0 fieldA23_1 fieldA23_2
theorem divm_val (A V y p r X Q R : Nat) (h : X * y + r = V) (hq : Q = (p + 1000000000 * r) / y) (hr : R = (p + 1000000000 * r) % y) : (Q + 1000000000 * X) * y + R = p + 1000000000 * V := by
  have := Nat.div_add_mod (p + 1000000000 * r) y
  rw [← hq, ← hr] at this
  rw [Nat.add_mul, Nat.mul_assoc, Nat.mul_comm _ y, ← h, Nat.mul_add]; omega
theorem DivMod_loop (a b : List Int) (ga : goodL a = true) (gb : goodL b = true) (la : a.length ≤ 1000000) (lb : b.length ≤ 1000000) (hb : 0 < valL b) : ∀ (n : Nat) (q r : List Int), n ≤ a.length → q.length = a.length → goodL q = true → goodL r = true → r.length ≤ 1000000 → valL r < valL b → valL (q.drop n) * valL b + valL r = valL (a.drop n) →
    Ev (fun k => div_DivMod.l0 k a b q r ((n : Int) - 1)) (limbs (valL a / valL b), limbs (valL a % valL b), true)
  | 0, q, r, hn, hq, gq, gr, lr, hr, hv => by
    rw [List.drop_zero, List.drop_zero] at hv
    have e1 : valL q = valL a / valL b := by rw [← hv, Nat.mul_comm, Nat.mul_add_div hb, Nat.div_eq_of_lt hr]; rfl
    have e2 : valL r = valL a % valL b := by rw [← hv, Nat.mul_comm, Nat.mul_add_mod, Nat.mod_eq_of_lt hr]
    refine evIs (Ev.step (f := fun _ => (nat_Trim.f q).bind fun t => (nat_Trim.f r).bind fun t2 => some (t, t2, true)) (fun k => ?_) (Ev.bind (evSome fun _ => trimF_eq gq (by omega)) (Ev.bind (evSome fun _ => trimF_eq gr (by omega)) (Ev.now _)))) ?_
    · simp only [div_DivMod.l0]; rw [if_neg (by omega)]
    · rw [e1, e2]
  | n + 1, q, r, hn, hq, gq, gr, lr, hr, hv => by
    have hna : n < a.length := by omega
    have hnq : n < q.length := by omega
    have pa := goodL_iff.1 ga _ (List.getElem_mem hna)
    obtain ⟨p, hp⟩ : ∃ v : Nat, a[n] = (v : Int) := ⟨a[n].toNat, by omega⟩
    have hp9 : p < 1000000000 := by omega
    have gpr : goodL ([(p : Int)] ++ r) = true := goodL_append.2 ⟨goodL_cons.2 ⟨by omega, rfl⟩, gr⟩
    have vpr : valL ([(p : Int)] ++ r) = p + 1000000000 * valL r := by simp [valL]
    have hlt : p + 1000000000 * valL r < 1000000000 * valL b := by omega
    have hqb : (p + 1000000000 * valL r) / valL b < 1000000000 := by rw [Nat.div_lt_iff_lt_mul hb]; exact hlt
    have hmod := Nat.mod_lt (p + 1000000000 * valL r) hb
    have lt2 : (limbs (p + 1000000000 * valL r)).length ≤ 1000001 := by
      rw [← vpr]
      exact Nat.le_trans (limbs_len_le (valL_lt gpr)) (by simp; omega)
    have lm : (limbs ((p + 1000000000 * valL r) % valL b)).length ≤ 1000000 := by
      have := valL_lt gb
      exact limbs_pow9 (Nat.lt_trans hmod this) lb
    have ex : (((n + 1 : Nat) : Int) - 1) = (n : Int) := by omega
    refine Ev.step (f := fun k => (nat_Trim.f ([(p : Int)] ++ r)).bind fun t => (div_guess.f k t b).bind fun t2 => div_DivMod.l0 k a b (q.set n t2.1) t2.2 ((n : Int) - 1)) (fun k => ?_) (Ev.bind (evSome fun _ => trimF_eq gpr (by simp; omega)) ?_)
    · simp only [ex, div_DivMod.l0, Option.bind_some]
      rw [if_pos (by omega), if_pos (by omega), if_pos (by omega), rd_get hna, hp, if_pos (by simp; omega)]
      have c1 : (n : Int) < (q.length : Int) := by omega
      simp only [c1, if_true, Int.toNat_natCast, w64 (x := (n : Int) - 1) (by omega) (by omega)]
    · rw [vpr]
      refine Ev.bind (guess_ev (limbs_good _) gb (by omega) lb (by rw [limbs_val]; exact hlt)) ?_
      rw [limbs_val]
      refine DivMod_loop a b ga gb la lb hb n _ _ (by omega) (by simpa using hq) (goodL_set gq n (cast_bd hqb)) (limbs_good _) lm (by rw [limbs_val]; exact hmod) ?_
      rw [limbs_val, drop_set_self q n _ hnq, List.drop_eq_getElem_cons hna, hp]
      exact divm_val 0 _ _ p _ _ _ _ hv rfl rfl
theorem DivMod_ev {a b : List Int} (ga : goodL a = true) (gb : goodL b = true) (la : a.length ≤ 1000000) (lb : b.length ≤ 1000000) (hb : 0 < valL b) : Ev (fun k => div_DivMod.f k a b) (limbs (valL a / valL b), limbs (valL a % valL b), true) := by
  unfold div_DivMod.f
  refine Ev.bind (evSome fun _ => trimF_eq gb (by omega)) ?_
  have lb2 : (limbs (valL b)).length ≤ 1000000 := Nat.le_trans (limbs_len_le (valL_lt gb)) lb
  have h0 : ¬ ((limbs (valL b)).length : Int) = 0 := by
    intro h
    have : limbs (valL b) = [] := List.eq_nil_of_length_eq_zero (by omega)
    have := limbs_nil_iff.1 this; omega
  have h1 : (0 : Int) ≤ (a.length : Int) := by omega
  have h2 : a.length ≤ 70368744177664 := by omega
  simp only [h0, h1, if_true, if_false, Int.toNat_natCast, h2]
  rw [w64 (by omega) (by omega)]
  have := DivMod_loop a (limbs (valL b)) ga (limbs_good _) la lb2 (by rw [limbs_val]; exact hb) a.length (List.replicate a.length 0) [] (Nat.le_refl _) (by simp) (goodL_replicate _) rfl (by simp) (by rw [limbs_val]; exact hb) (by
    rw [List.drop_of_length_le (by simp), List.drop_of_length_le (Nat.le_refl _)]; simp [valL])
  rwa [limbs_val] at this
end Go.Proofs.YtekkpmoppihlaaaDoor.Px
end
section
namespace Go.Proofs.YtekkpmoppihlaaaDoor.Px
open Fig Go.RowKit Go.Proofs.YtekkpmoppihlaaaDoorW.PrintWords Go.Proofs.YtekkpmoppihlaaaDoorW.PrintLast Go.Proofs.YtekkpmoppihlaaaDoorW.PrintMore
attribute [local go_sem] max2_int min2_int max_two min_two max_three min_three max_four min_four   -- for this text's walks alone
attribute [local go_sem] fieldA23_0 fieldA23_1 fieldA23_2
theorem numP {s : ByteArray} (h : dB s = true) (hne : s.size ≠ 0) (hs : s.size ≤ 140737488351232) : ten_Number.f s = some (limbs (vB s), true) := by
  unfold ten_Number.f; rw [if_pos hs, if_pos ⟨h, hne⟩]
end Go.Proofs.YtekkpmoppihlaaaDoor.Px
end
section
namespace Go.Proofs.YtekkpmoppihlaaaDoor.Px
open Fig Go.RowKit Go.Proofs.YtekkpmoppihlaaaDoorW.PrintWords Go.Proofs.YtekkpmoppihlaaaDoorW.PrintLast Go.Proofs.YtekkpmoppihlaaaDoorW.PrintMore
attribute [local go_sem] max2_int min2_int max_two min_two max_three min_three max_four min_four   -- for this text's walks alone
attribute [local go_sem] fieldA23_0 fieldA23_1 fieldA23_2
theorem coefP {b : Bool} {s : ByteArray} {e : Int} (h : OkD s e) : dec_Coef.f b s e = some (limbs (vB s)) := by
  have := h.sz
  unfold dec_Coef.f; rw [numP h.d h.ne (by omega)]; rfl
theorem coef_len {s : ByteArray} {e : Int} (h : OkD s e) : (limbs (vB s)).length ≤ 100000 := by
  have := limbs_len_digB (vB s)
  have := h.val
  have := h.sz
  omega
theorem shiftP {l : List Int} {n : Int} (g : goodL l = true) (hl : l.length ≤ 500000) (hn : n ≤ 1000000) : ten_Shift.f l n = some (limbs (valL l * 10 ^ n.toNat)) := by unfold ten_Shift.f; rw [if_pos ⟨g, hl, hn⟩]
end Go.Proofs.YtekkpmoppihlaaaDoor.Px
end
section
namespace Go.Proofs.YtekkpmoppihlaaaDoor.Px
open Fig Go.RowKit Go.Proofs.YtekkpmoppihlaaaDoorW.PrintWords Go.Proofs.YtekkpmoppihlaaaDoorW.PrintLast Go.Proofs.YtekkpmoppihlaaaDoorW.PrintMore
attribute [local go_sem] max2_int min2_int max_two min_two max_three min_three max_four min_four   -- for this text's walks alone
attribute [local go_sem] fieldA23_0 fieldA23_1 fieldA23_2
theorem w_add (e : Int) (p : Nat) (h1 : -1000000 ≤ e) (h2 : e ≤ 1000000) (hp : p ≤ 1000000) : wrap64 (e + (p : Int)) = e + (p : Int) := w64 (by omega) (by omega)
theorem w_norm (e : Int) (p q : Nat) (h1 : -1000000 ≤ e) (h2 : e ≤ 1000000) (hp : p ≤ 1000000) (hq : q ≤ 1000000) : wrap64 (wrap64 (e + (p : Int)) - (q : Int)) = e + (p : Int) - (q : Int) := by rw [w_add e p h1 h2 hp, w64 (by omega) (by omega)]
theorem normP {b : Bool} {s : ByteArray} {e : Int} (h : OkD s e) : dec_Norm.f b s e = some (b, nD (vB s), nE (vB s) e) := by
  have hz := h.val
  have h1 := h.sz
  have h2 := h.lo
  have h3 := h.hi
  unfold dec_Norm.f
  rw [show strings_TrimLeft.f s (⟨#[48]⟩ : ByteArray) = some (digB (vB s)) by unfold strings_TrimLeft.f; rw [if_pos rfl, stripB_eq h.d]]
  simp only [Option.bind_some]
  by_cases h0 : vB s = 0
  · rw [if_pos (digB_toList_nil.2 h0), h0]; rfl
  · rw [if_neg (fun hh => h0 (digB_toList_nil.1 hh))]
    have hl := digB_len_core h0
    have ht : strings_TrimRight.f (digB (vB s)) (⟨#[48]⟩ : ByteArray) = some (digB (core (vB s))) := by
      unfold strings_TrimRight.f
      rw [if_pos ⟨rfl, by omega⟩]
      show some (⟨(Lib.trimRightB (digs (vB s)) 48).toArray⟩ : ByteArray) = _
      unfold Lib.trimRightB; rw [trimR_digs h0]; rfl
    rw [ht]
    simp only [Option.bind_some]
    rw [w_norm e _ _ (by omega) (by omega) (by omega) (by omega)]
    unfold nD nE
    rw [if_neg h0, if_neg h0, show e + ((digB (vB s)).size : Int) - ((digB (core (vB s))).size : Int) = e + (tz (vB s) : Int) by omega]
end Go.Proofs.YtekkpmoppihlaaaDoor.Px
end
section
namespace Go.Proofs.YtekkpmoppihlaaaDoor.Px
open Fig Go.RowKit Go.Proofs.YtekkpmoppihlaaaDoorW.PrintWords Go.Proofs.YtekkpmoppihlaaaDoorW.PrintLast Go.Proofs.YtekkpmoppihlaaaDoorW.PrintMore
attribute [local go_sem] max2_int min2_int max_two min_two max_three min_three max_four min_four   -- for this text's walks alone
attribute [local go_sem] fieldA23_0 fieldA23_1 fieldA23_2
theorem away_up (m : Int) (neg odd : Bool) (half : Int) : mode_Away.f m neg odd half = some (upB m neg odd half) := rfl
end Go.Proofs.YtekkpmoppihlaaaDoor.Px
end
section
namespace Go.Proofs.YtekkpmoppihlaaaDoor.Px
open Fig Go.RowKit Go.Proofs.YtekkpmoppihlaaaDoorW.PrintWords Go.Proofs.YtekkpmoppihlaaaDoorW.PrintLast Go.Proofs.YtekkpmoppihlaaaDoorW.PrintMore
attribute [local go_sem] max2_int min2_int max_two min_two max_three min_three max_four min_four   -- for this text's walks alone
attribute [local go_sem] fieldA23_0 fieldA23_1 fieldA23_2
theorem Mul_loop (a b : List Int) (ga : goodL a = true) (gb : goodL b = true) (la : a.length ≤ 1000000) (lb : b.length ≤ 1000000) : ∀ (d n : Nat) (x : List Int), b.length - n = d → n ≤ b.length → goodL x = true → x.length = a.length + b.length + 1 → valL x = valL a * valL (b.take n) →
    Ev (fun k => mul_Mul.l0 k a x b (b.length : Int) (n : Int)) (limbs (valL a * valL b))
  | 0, n, x, h1, h2, gx, hx, hv => by
    refine evDone (r' := limbs (valL x)) (fun k => ?_) ?_
    · simp only [mul_Mul.l0, nat_Trim.f]; rw [if_neg (by omega), trimF_eq gx (by omega)]; rfl
    · rw [hv, List.take_of_length_le (by omega)]
  | d + 1, n, x, h1, h2, gx, hx, hv => by
    have hnb : n < b.length := by omega
    have pb := goodL_iff.1 gb _ (List.getElem_mem hnb)
    obtain ⟨y, hy⟩ : ∃ v : Nat, b[n] = (v : Int) := ⟨b[n].toNat, by omega⟩
    have e : valL (b.take (n + 1)) = valL (b.take n) + 1000000000 ^ n * y := by
      rw [List.take_succ_eq_append_getElem hnb, valL_snoc, hy, Int.toNat_natCast, List.length_take, Nat.min_eq_left (by omega)]
    have key : valL x + 1000000000 ^ n * (valL a * y) = valL a * valL (b.take (n + 1)) := by
      rw [hv, e, Nat.mul_add, Nat.mul_left_comm (1000000000 ^ n)]
    have hlt : valL x + 1000000000 ^ n * (valL a * y) < 1000000000 ^ x.length := by
      rw [key, hx]
      have va := valL_lt ga
      have vb := valL_lt (goodL_take gb (n + 1))
      have h3 := Nat.mul_lt_mul'' va vb
      rw [← Nat.pow_add] at h3
      exact Nat.lt_of_lt_of_le h3 (Nat.pow_le_pow_right (by omega) (by rw [List.length_take]; omega))
    obtain ⟨r, hr, g1, g2, g3⟩ := row_ev (p := n) gx ga (show y < 1000000000 by omega) (by omega) (by omega) hlt
    refine Ev.step (f := fun k => (mul_row.f k x a (y : Int) (n : Int)).bind fun t => mul_Mul.l0 k a t b (b.length : Int) ((n + 1 : Nat) : Int)) (fun k => ?_) (Ev.bind hr (Mul_loop a b ga gb la lb d (n + 1) r (by omega) (by omega) g1 (by omega) (by rw [g3, key])))
    simp only [mul_Mul.l0]; rw [if_pos (by omega), if_pos (by omega), if_pos (by omega), rd_get hnb, hy, succ64 _ (by omega)]
theorem Mul_ev {a b : List Int} (ga : goodL a = true) (gb : goodL b = true) (la : a.length ≤ 1000000) (lb : b.length ≤ 1000000) : Ev (fun k => mul_Mul.f k a b) (limbs (valL a * valL b)) := by
  unfold mul_Mul.f
  rw [times_len _ _ la lb]
  have c1 : (0 : Int) ≤ ((a.length + b.length + 1 : Nat) : Int) := by omega
  have c2 : a.length + b.length + 1 ≤ 70368744177664 := by omega
  simp only [Int.toNat_natCast, c1, c2, if_true]
  exact Mul_loop a b ga gb la lb b.length 0 _ rfl (by omega) (goodL_replicate _) (by simp) (by rw [valL_replicate]; simp [valL])
end Go.Proofs.YtekkpmoppihlaaaDoor.Px
end
section
namespace Go.Proofs.YtekkpmoppihlaaaDoor.Px
open Fig Go.RowKit Go.Proofs.YtekkpmoppihlaaaDoorW.PrintWords Go.Proofs.YtekkpmoppihlaaaDoorW.PrintLast Go.Proofs.YtekkpmoppihlaaaDoorW.PrintMore
attribute [local go_sem] max2_int min2_int max_two min_two max_three min_three max_four min_four   -- for this text's walks alone
attribute [local go_sem] fieldA23_0 fieldA23_1 fieldA23_2
theorem mnP (a b : Int) : mn a b = min b a := by unfold mn; split <;> omega
theorem inc_head {q : Nat} (h : q ≠ 0) : (limbs q).length > 0 ∧ rd (limbs q) 0 = ((q % 1000000000 : Nat) : Int) := by
  have hv := limbs_val q
  have hg := limbs_good q
  rcases hl : limbs q with _ | ⟨x, l⟩
  · exact absurd (limbs_nil_iff.1 hl) h
  · rw [hl] at hv hg
    obtain ⟨hx, _⟩ := goodL_cons.1 hg
    simp only [valL] at hv
    refine ⟨by simp, ?_⟩
    show x = _
    omega
theorem inc_zeroB (v : Nat) : dB (zeroB v) = true ∧ (zeroB v).size ≠ 0 ∧ vB (zeroB v) = v := by
  unfold zeroB
  by_cases h : v = 0
  · rw [if_pos h, h]; exact ⟨rfl, by decide, rfl⟩
  · rw [if_neg h]; exact ⟨dB_digB v, fun e => h (digB_empty_iff.1 e), vB_digB v⟩
theorem inc_zeroB_size {v k : Nat} (h : (digB v).size ≤ k) (hk : 1 ≤ k) : (zeroB v).size ≤ k := by
  unfold zeroB
  by_cases h0 : v = 0
  · rw [if_pos h0]; exact hk
  · rw [if_neg h0]; exact h
theorem inc_digits {v k : Nat} (h : (digB v).size ≤ k) (hk : k ≤ 1000000) : ten_Digits.f (limbs v) = some (zeroB v) := by
  have := limbs_len_digB v
  unfold ten_Digits.f; rw [if_pos ⟨limbs_good v, by omega⟩, limbs_val]
theorem inc_end {b : Bool} {v : Nat} {p : Int} (hz : (digB v).size ≤ 100000) (h1 : -100000 ≤ p) (h2 : p ≤ 100000) : ((ten_Digits.f (limbs v)).bind fun t => (dec_Norm.f b t p).bind fun u => some (u.1, u.2.1, u.2.2, (0 : Int))) = some (b, nD v, nE v p, 0) := by
  obtain ⟨d1, d2, d3⟩ := inc_zeroB v
  have d4 := inc_zeroB_size (k := 100000) hz (by decide)
  rw [inc_digits hz (by decide)]
  simp only [Option.bind_some]
  rw [normP ⟨d1, d2, by omega, h1, h2⟩, d3]; rfl
theorem inc_add {q : Nat} (h : (digB q).size ≤ 1000000) : nat_Add.f (limbs q) ([1] : List Int) = some (limbs (q + 1)) := by
  have hl := limbs_len_digB q
  have h1 : ([1] : List Int).length ≤ 1000000000000 := by show 1 ≤ 1000000000000; omega
  have := addF_eq (limbs_good q) (b := [1]) (by decide) (by omega) h1
  rwa [limbs_val, show valL [1] = 1 from rfl] at this
theorem inc_j1 {b : Bool} {s : ByteArray} {e E : Int} {q B : Nat} {u : Bool} (hz : (digB q).size ≤ 40000) (hB : (digB B).size ≤ 40000) (h1 : -100000 ≤ E) (h2 : E ≤ 100000) : Ev (fun k => inc_Round.j1 k (limbs B) E (limbs q) u b s e) (b, nD ((q + if u = true then 1 else 0) * B), nE ((q + if u = true then 1 else 0) * B) E, 0) := by
  have lB := limbs_len_digB B
  cases u
  · have lq := limbs_len_digB q
    have hm := digB_mul_le hz hB
    have := Mul_ev (limbs_good q) (limbs_good B) (by omega) (by omega)
    rw [limbs_val, limbs_val] at this
    refine Ev.step (fun k => by simp only [inc_Round.j1, Bool.false_eq_true, if_false]; rfl) (Ev.bind this (evSome fun _ => ?_))
    simp only [Bool.false_eq_true, if_false, Nat.add_zero]
    exact inc_end (by omega) h1 h2
  · have ha := inc_add (q := q) (by omega)
    have h3 := digB_add_le (m := q) (n := 1) (p := 40000) hz (by rw [digB_one_size]; omega)
    have lq := limbs_len_digB (q + 1)
    have hm := digB_mul_le h3 hB
    have := Mul_ev (limbs_good (q + 1)) (limbs_good B) (by omega) (by omega)
    rw [limbs_val, limbs_val] at this
    refine Ev.step (fun k => by simp only [inc_Round.j1, if_true]; rfl) (evE ha (Ev.bind this (evSome fun _ => ?_)))
    simp only [if_true]
    exact inc_end (by omega) h1 h2
theorem inc_err (m p : Int) (l : List Int) (b : Bool) (s : ByteArray) (e : Int) : Ev (fun k => inc_Round.j0 k m p l true b s e) (false, (⟨#[]⟩ : ByteArray), 0, 1) :=
  evDone (r' := (false, (⟨#[]⟩ : ByteArray), 0, 1)) (fun k => by simp only [inc_Round.j0, if_true]) rfl
theorem inc_j0 {m : Int} {b : Bool} {s : ByteArray} {e p : Int} {S : Nat} (h : OkS s e) (hS0 : S ≠ 0) (hS : (digB S).size ≤ 1000) (h1 : -10000 ≤ p) (h2 : p ≤ 10000) : Ev (fun k => inc_Round.j0 k m p (limbs S) false b s e) (roundD m b (vB s) e S p) := by
  have hv := h.ok.val
  have hz := h.sz
  have hlo := h.lo
  have hhi := h.hi
  have hc := coef_len h.ok
  have lS := limbs_len_digB S
  obtain ⟨E, hE⟩ : ∃ E, E = mn e p := ⟨_, rfl⟩
  have hE2 : E = min e p := by rw [hE, mnP]; omega
  have sB : ten_Shift.f (limbs S) (wrap64 (p - E)) = some (limbs (atE S p E)) := by
    rw [w64 (x := p - E) (by omega) (by omega), shiftP (limbs_good _) (by omega) (by omega), limbs_val]; rfl
  have sN : ten_Shift.f (limbs (vB s)) (wrap64 (e - E)) = some (limbs (atE (vB s) e E)) := by
    rw [w64 (x := e - E) (by omega) (by omega), shiftP (limbs_good _) (by omega) (by omega), limbs_val]; rfl
  have zB : (digB (atE S p E)).size ≤ 30000 := by
    unfold atE; rw [digB_len_pow hS0]; omega
  have zN := size_vZ b (n := vB s) (p := 10000) e E (by omega)
  rw [vZ_natAbs] at zN
  have hB0 := atE_pos hS0 p E
  refine Ev.step (fun k => by simp only [inc_Round.j0, Bool.false_eq_true, if_false, ← hE]; rfl) ?_
  refine evE sB (evE (coefP h.ok) (evE sN ?_))
  obtain ⟨N, hN⟩ : ∃ N, N = atE (vB s) e E := ⟨_, rfl⟩
  obtain ⟨B, hBB⟩ : ∃ B, B = atE S p E := ⟨_, rfl⟩
  rw [← hN, ← hBB]
  rw [← hN] at zN
  rw [← hBB] at zB hB0
  have zN2 : (digB N).size ≤ 30000 := by omega
  have zr := digB_mono (Nat.mod_le N B) zN2
  have zq := digB_mono (Nat.div_le_self N B) zN2
  have lN := limbs_len_digB N
  have lB := limbs_len_digB B
  have lr := limbs_len_digB (N % B)
  have z2 := digB_add_le zr zr
  have l2 := limbs_len_digB (N % B + N % B)
  have hd := DivMod_ev (limbs_good N) (limbs_good B) (by omega) (by omega) (by rw [limbs_val]; exact hB0)
  rw [limbs_val, limbs_val] at hd
  refine Ev.bind hd ?_
  dsimp only
  by_cases hf : N % B = 0
  · have hf2 : atE (vB s) e (min e p) % atE S p (min e p) = 0 := by rw [← hE2, ← hN, ← hBB]; exact hf
    rw [roundD_fit hf2]
    exact evT (by rw [hf, limbs_zero]; rfl) (evE (normP h.ok) (Ev.now _))
  have hf2 : ¬ atE (vB s) e (min e p) % atE S p (min e p) = 0 := by rw [← hE2, ← hN, ← hBB]; exact hf
  refine evF (fun hh => hf (limbs_nil_iff.1 (List.eq_nil_of_length_eq_zero (by omega)))) ?_
  by_cases h7 : m = 7
  · subst h7
    rw [roundD_exact hf2]
    exact evT rfl (Ev.now _)
  refine evF h7 ?_
  have ha : nat_Add.f (limbs (N % B)) (limbs (N % B)) = some (limbs (N % B + N % B)) := by
    have := addF_eq (limbs_good (N % B)) (limbs_good (N % B)) (by omega) (by omega)
    rwa [limbs_val] at this
  have hcm : nat_Cmp.f (limbs (N % B + N % B)) (limbs B) = some (cmpN (N % B + N % B) B) := by
    have := cmpF_eq (limbs_good (N % B + N % B)) (limbs_good B) (by omega) (by omega)
    rwa [limbs_val, limbs_val] at this
  have hres : roundD m b (vB s) e S p = (b, nD ((N / B + if upB m b (N / B % 2 == 1) (cmpN (N % B + N % B) B) = true then 1 else 0) * B), nE ((N / B + if upB m b (N / B % 2 == 1) (cmpN (N % B + N % B) B) = true then 1 else 0) * B) E, 0) := by
    rw [roundD_ok h7, ← hE2]
    unfold rv0
    rw [← hN, ← hBB]
    have hq : rq m b N B = N / B + if upB m b (N / B % 2 == 1) (cmpN (N % B + N % B) B) = true then 1 else 0 := by
      unfold rq; simp only [ne_eq, hf, not_false_eq_true, true_and]
    rw [hq]
  rw [hres]
  by_cases hq0 : N / B = 0
  · refine evF (by rw [hq0, limbs_zero]; decide) (evE ha (evE hcm (evE (away_up _ _ _ _) ?_)))
    have : (N / B % 2 == 1) = false := by rw [hq0]; rfl
    rw [this]
    exact inc_j1 (by omega) (by omega) (by omega) (by omega)
  · obtain ⟨g1, g2⟩ := inc_head hq0
    refine evT (by omega) (evT (by omega) (evE ha (evE hcm ?_)))
    have : (Int.tmod (rd (limbs (N / B)) 0) 2 == 1) = (N / B % 2 == 1) := by
      rw [g2, Int.tmod_eq_emod_of_nonneg (by omega), Bool.eq_iff_iff, beq_iff_eq, beq_iff_eq]; omega
    rw [this]
    refine evE (away_up _ _ _ _) ?_
    exact inc_j1 (by omega) (by omega) (by omega) (by omega)
theorem inc_num {st : ByteArray} (hst : st.size ≤ 140737488351232) : ten_Number.f st = some (if dB st = true ∧ st.size ≠ 0 then (limbs (vB st), true) else ([], false)) := by unfold ten_Number.f; rw [if_pos hst]
theorem incRound_bad {m : Int} {b : Bool} {s st : ByteArray} {e p : Int} (hst : st.size ≤ 140737488351232) (h : m < 0 ∨ 7 < m ∨ ¬ (dB st = true ∧ st.size ≠ 0) ∨ 40 < st.size ∨ vB st = 0) : Ev (fun k => inc_Round.f k m b s e st p) (false, (⟨#[]⟩ : ByteArray), 0, 1) := by
  unfold inc_Round.f
  refine evE (inc_num hst) (evE (modeP m) ?_)
  by_cases hg : 0 ≤ m ∧ m < 8
  · refine evT (decide_eq_true hg) ?_
    by_cases hd : dB st = true ∧ st.size ≠ 0
    · rw [if_pos hd]
      refine evT rfl ?_
      by_cases hz : (st.size : Int) > 40
      · exact evT hz (inc_err _ _ _ _ _ _)
      · refine evF hz ?_
        have hv : vB st = 0 := by
          rcases h with h | h | h | h | h
          · omega
          · omega
          · exact absurd hd h
          · omega
          · exact h
        have : (((limbs (vB st)).length : Int) == 0) = true := by rw [hv, limbs_zero]; rfl
        dsimp only
        rw [this]; exact inc_err _ _ _ _ _ _
    · rw [if_neg hd]
      exact evF (by decide) (inc_err _ _ _ _ _ _)
  · exact evF (by simpa using hg) (inc_err _ _ _ _ _ _)
theorem incRound_ev {m : Int} {b : Bool} {s st : ByteArray} {e p : Int} (hm : 0 ≤ m) (hm7 : m ≤ 7) (h : OkS s e) (hd : dB st = true) (hs0 : vB st ≠ 0) (hsz : st.size ≤ 40) (h1 : -10000 ≤ p) (h2 : p ≤ 10000) : Ev (fun k => inc_Round.f k m b s e st p) (roundD m b (vB s) e (vB st) p) := by
  have hn0 : st.size ≠ 0 := by
    intro h0
    rw [ByteArray.size_eq_zero_iff.1 h0] at hs0; exact hs0 rfl
  have hst := digs_size_lt (vB_lt hd)
  unfold inc_Round.f
  refine evE (inc_num (by omega)) (evE (modeP m) (evT (by simp; omega) ?_))
  rw [if_pos ⟨hd, hn0⟩]
  refine evT rfl (evF (by omega) ?_)
  have : (((limbs (vB st)).length : Int) == 0) = false := by
    rw [beq_eq_false_iff_ne]
    intro hh
    exact hs0 (limbs_nil_iff.1 (List.eq_nil_of_length_eq_zero (by omega)))
  dsimp only
  rw [this]
  exact inc_j0 h hs0 (by omega) h1 h2
end Go.Proofs.YtekkpmoppihlaaaDoor.Px
end
section
namespace Go.Proofs.YtekkpmoppihlaaaDoor.Px
open Fig Go.RowKit Go.Proofs.YtekkpmoppihlaaaDoorW.PrintWords Go.Proofs.YtekkpmoppihlaaaDoorW.PrintLast Go.Proofs.YtekkpmoppihlaaaDoorW.PrintMore
attribute [local go_sem] max2_int min2_int max_two min_two max_three min_three max_four min_four   -- for this text's walks alone
attribute [local go_sem] fieldA23_0 fieldA23_1 fieldA23_2
theorem nD_lit10 {n m k : Nat} {s : ByteArray} (h : n = m * 10 ^ k) (hm : m % 10 ≠ 0) (hd : dB s = true) (hv : vB s = m) (hs : stripB s = s) : nD n = s := by
  rw [h, nD_pow, nD_of hm, ← hv, ← stripB_eq hd, hs]
theorem nE_lit10 {n m k : Nat} {e : Int} (h : n = m * 10 ^ k) (hm : m % 10 ≠ 0) : nE n e = e + (k : Int) := by rw [h, nE_pow, nE_of hm]
theorem answers10_ev : Ev (fun k => figureheadlaw10_answers.f k) true := by
  have ok1 : OkS (⟨#[52]⟩ : ByteArray) (-1) := OkS.of_good (by decide)
  have v1 : vB (⟨#[52]⟩ : ByteArray) = 4 := by decide
  have v2 : vB (⟨#[50, 53]⟩ : ByteArray) = 25 := by decide
  have n50 : nD 50 = (⟨#[53]⟩ : ByteArray) := nD_lit10 (m := 5) (k := 1) (by decide) (by decide) (by decide) (by decide) (by decide)
  have e50 : nE 50 (-2) = -1 := by rw [nE_lit10 (m := 5) (k := 1) (by decide) (by decide)]; decide
  have r1 : roundD 5 false 4 (-1) 25 (-2) = (false, (⟨#[53]⟩ : ByteArray), -1, 0) := by
    rw [roundD_ok (by decide), show rv0 5 false 4 (-1) 25 (-2) (min (-1) (-2)) = 50 by decide, n50, show min (-1 : Int) (-2) = -2 by decide, e50]
  unfold figureheadlaw10_answers.f
  refine Ev.bind (incRound_ev (by decide) (by decide) ok1 (by decide) (by decide) (by decide) (by decide) (by decide)) ?_
  rw [v1, v2, r1]
  refine Ev.bind (incRound_bad (by decide) (.inr (.inr (.inr (.inr (by decide)))))) ?_
  exact evT rfl (evT (by simp [ByteArray.toList_eq]) (evIs (Ev.now _) (by decide)))
end Go.Proofs.YtekkpmoppihlaaaDoor.Px
end
section
namespace Go.Proofs.YtekkpmoppihlaaaDoor.Px
open Fig Go.RowKit Go.Proofs.YtekkpmoppihlaaaDoorW.PrintWords Go.Proofs.YtekkpmoppihlaaaDoorW.PrintLast Go.Proofs.YtekkpmoppihlaaaDoorW.PrintMore
attribute [local go_sem] max2_int min2_int max_two min_two max_three min_three max_four min_four   -- for this text's walks alone
attribute [local go_sem] fieldA23_0 fieldA23_1 fieldA23_2
theorem over_rv (l : List UInt8) : l.any (fun c => decide (48 < c.toNat)) = decide (rv l ≠ 0) := by
  induction l with
  | nil => rfl
  | cons c l ih =>
    rw [List.any_cons, ih, Bool.eq_iff_iff]
    rw [Bool.or_eq_true, decide_eq_true_eq, decide_eq_true_eq, decide_eq_true_eq]
    show _ ↔ c.toNat - 48 + 10 * rv l ≠ 0
    omega
theorem over_vB (s : ByteArray) : s.data.toList.any (fun c => decide (48 < c.toNat)) = decide (vB s ≠ 0) := by
  unfold vB; rw [← over_rv, List.any_reverse]
def mayB (s : ByteArray) : Bool := dB s && decide (vB s ≠ 0) && decide (s.size ≤ 40)
theorem mayB_iff {s : ByteArray} : mayB s = true ↔ dB s = true ∧ vB s ≠ 0 ∧ s.size ≤ 40 := by
  unfold mayB; simp only [Bool.and_eq_true, decide_eq_true_eq, and_assoc]
theorem may_loop (s : ByteArray) (hs : s.size ≤ 4611686018427387904) : ∀ (d n : Nat) (o : Bool), s.size - n = d → n ≤ s.size → Ev (fun k => figureheadlaw10_may.l0 k s o (n : Int)) (digL (s.data.toList.drop n) && (o || (s.data.toList.drop n).any (fun c => decide (48 < c.toNat))) && decide (s.size ≤ 40))
  | 0, n, o, hd, hn => by
    rw [List.drop_of_length_le (by rw [← size_eq]; omega)]
    refine evDone (r' := o && decide (s.size ≤ 40)) (fun k => ?_) (by simp [digL])
    simp only [figureheadlaw10_may.l0]; rw [if_neg (by omega)]
    cases o
    · rfl
    · simp only [if_true, Bool.true_and, Option.some.injEq]
      rw [decide_eq_decide]; omega
  | d + 1, n, o, hd, hn => by
    have hlt : n < s.size := by omega
    have hbt := bt_get hlt
    have hc := List.drop_eq_getElem_cons (l := s.data.toList) (i := n) (by rw [← size_eq]; exact hlt)
    rw [hc]
    generalize hx : s.data.toList[n]'(by rw [← size_eq]; exact hlt) = c at hbt
    by_cases h1 : c.toNat < 48
    · refine evDone (r' := false) (fun k => ?_) ?_
      · simp only [figureheadlaw10_may.l0]; rw [if_pos (by omega), if_pos (by omega), hbt, if_pos (by omega)]
      · have : isD c = false := by unfold isD; simp; omega
        simp [digL, this]
    · by_cases h2 : c.toNat > 57
      · refine evDone (r' := false) (fun k => ?_) ?_
        · simp only [figureheadlaw10_may.l0]; rw [if_pos (by omega), if_pos (by omega), hbt, if_neg (by omega), if_pos (by omega)]
        · have : isD c = false := by unfold isD; simp; omega
          simp [digL, this]
      · have hd1 : isD c = true := isD_iff.2 ⟨by omega, by omega⟩
        refine evIs (Ev.step (f := fun k => figureheadlaw10_may.l0 k s (o || decide (48 < c.toNat)) ((n + 1 : Nat) : Int)) (fun k => ?_) (may_loop s hs d (n + 1) _ (by omega) (by omega))) ?_
        · simp only [figureheadlaw10_may.l0]; rw [if_pos (by omega), if_pos (by omega), hbt, if_neg (by omega), if_neg (by omega), succ64 _ (by omega)]
          cases o
          · rw [if_neg (by decide), show decide ((c.toNat : Int) > 48) = (false || decide (48 < c.toNat)) by rw [Bool.false_or, decide_eq_decide]; show ((48 : Nat) : Int) < _ ↔ _; rw [Int.ofNat_lt]]
          · rw [if_pos rfl, Bool.true_or]
        · simp [digL, hd1, Bool.or_assoc]
theorem may_ev {s : ByteArray} (hs : s.size ≤ 4611686018427387904) : Ev (fun k => figureheadlaw10_may.f k s) (mayB s) := by
  have := may_loop s hs s.size 0 false (by omega) (by omega)
  rw [List.drop_zero, Bool.false_or, over_vB] at this
  exact this
end Go.Proofs.YtekkpmoppihlaaaDoor.Px
end
section
namespace Go.Proofs.YtekkpmoppihlaaaDoor.Px
open Fig Go.RowKit Go.Proofs.YtekkpmoppihlaaaDoorW.PrintWords Go.Proofs.YtekkpmoppihlaaaDoorW.PrintLast Go.Proofs.YtekkpmoppihlaaaDoorW.PrintMore
attribute [local go_sem] max2_int min2_int max_two min_two max_three min_three max_four min_four   -- for this text's walks alone
attribute [local go_sem] fieldA23_0 fieldA23_1 fieldA23_2
theorem Less_eq (m n : Nat) : figureheadref01_Less.f (digB m) (digB n) = some (decide (m < n)) := by
  unfold figureheadref01_Less.f
  rw [digB_size, digB_size]
  by_cases h : (digs m).length = (digs n).length
  · rw [if_pos (by omega)]
    rw [ByteArray.toList_eq, ByteArray.toList_eq, digB_list, digB_list, less_same (digs_dig m) (digs_dig n) h, digs_val, digs_val]
  · rw [if_neg (by omega)]
    congr 1
    rw [decide_eq_decide]
    constructor
    · intro h1; exact digs_len_lt (by omega)
    · intro h1
      rcases Nat.lt_or_ge (digs m).length (digs n).length with h2 | h2
      · omega
      · have := digs_len_lt (m := n) (n := m) (by omega); omega
end Go.Proofs.YtekkpmoppihlaaaDoor.Px
end
section
namespace Go.Proofs.YtekkpmoppihlaaaDoor.Px
open Fig Go.RowKit Go.Proofs.YtekkpmoppihlaaaDoorW.PrintWords Go.Proofs.YtekkpmoppihlaaaDoorW.PrintLast Go.Proofs.YtekkpmoppihlaaaDoorW.PrintMore
attribute [local go_sem] max2_int min2_int max_two min_two max_three min_three max_four min_four   -- for this text's walks alone
attribute [local go_sem] fieldA23_0 fieldA23_1 fieldA23_2
theorem sub_step (p q c : Nat) (hp : p ≤ 9) (hq : q ≤ 9) (hc : c ≤ 1) : wrap64 (wrap64 ((p : Int) - (q : Int)) - (c : Int)) = (p : Int) - (q : Int) - (c : Int) := by
  rw [w64 (x := (p : Int) - (q : Int)) (by omega) (by omega), w64 (by omega) (by omega)]
theorem sub_neg (p q c : Nat) (hp : p ≤ 9) (hq : q ≤ 9) (hc : c ≤ 1) (h : p < q + c) : (wrap64 (48 + wrap64 ((p : Int) - (q : Int) - (c : Int) + 10))) % 256 = ((48 + (p + 10 - q - c) : Nat) : Int) := by
  rw [w64 (x := (p : Int) - (q : Int) - (c : Int) + 10) (by omega) (by omega), w64 (by omega) (by omega)]; omega
theorem sub_pos (p q c : Nat) (hp : p ≤ 9) (hq : q ≤ 9) (hc : c ≤ 1) (h : q + c ≤ p) : (wrap64 (48 + ((p : Int) - (q : Int) - (c : Int)))) % 256 = ((48 + (p - q - c) : Nat) : Int) := by
  rw [w64 (by omega) (by omega)]; omega
theorem Minus_loop (a b : ByteArray) (ha : dB a = true) (hb : dB b = true) (la : a.size ≤ 100000000000) (lb : b.size ≤ 100000000000) : ∀ (d k : Nat) (x : List Int) (c : Nat), a.size - k = d → k ≤ a.size → c ≤ 1 → x.length = k → digL (ob x) = true → c + rv ((rs b).drop k) ≤ rv ((rs a).drop k) →
    Ev (fun j => figureheadref01_Minus.l0 j a b x (c : Int) (k : Int)) (digB (rv (ob x) + 10 ^ k * (rv ((rs a).drop k) - rv ((rs b).drop k) - c)))
  | 0, k, x, c, h1, h2, hc, hx, hd, hle => by
    refine evIs (Ev.step (fun j => ?_) (turnedStrip_ev (l := x) (by omega) hd)) ?_
    · simp only [figureheadref01_Minus.l0]; rw [if_neg (by omega)]
    · rw [rv_rest_end (s := a) (by omega)]; simp
  | d + 1, k, x, c, h1, h2, hc, hx, hd, hle => by
    have da := dg_le ha k
    have db := dg_le hb k
    rw [rv_rest a k, rv_rest b k] at hle ⊢
    by_cases hneg : dg a k < dg b k + c
    · obtain ⟨o1, o2⟩ := ob_snoc x (c := dg a k + 10 - dg b k - c) (by omega) hd
      refine Ev.step (f := fun j => figureheadref01_Minus.l0 j a b (x ++ [((48 + (dg a k + 10 - dg b k - c) : Nat) : Int)]) ((1 : Nat) : Int) ((k + 1 : Nat) : Int)) (fun j => ?_) ?_
      · simp only [figureheadref01_Minus.l0]
        rw [if_pos (by omega), digit_eq ha (by omega) (by omega), digit_eq hb (by omega) (by omega)]
        simp only [Option.bind_some]
        rw [sub_step _ _ _ da db hc, if_pos (by omega), if_pos (by omega), sub_neg _ _ _ da db hc hneg, w64 (by omega) (by omega)]; rfl
      · refine evIs (Minus_loop a b ha hb la lb d (k + 1) _ 1 (by omega) (by omega) (by omega) (by simp [hx]) o1 (by omega)) ?_
        rw [o2, hx, Nat.pow_succ, Nat.mul_assoc, Nat.add_assoc, ← Nat.mul_add]
        congr 2; congr 1; omega
    · obtain ⟨o1, o2⟩ := ob_snoc x (c := dg a k - dg b k - c) (by omega) hd
      refine Ev.step (f := fun j => figureheadref01_Minus.l0 j a b (x ++ [((48 + (dg a k - dg b k - c) : Nat) : Int)]) ((0 : Nat) : Int) ((k + 1 : Nat) : Int)) (fun j => ?_) ?_
      · simp only [figureheadref01_Minus.l0]
        rw [if_pos (by omega), digit_eq ha (by omega) (by omega), digit_eq hb (by omega) (by omega)]
        simp only [Option.bind_some]
        rw [sub_step _ _ _ da db hc, if_neg (by omega), if_pos (by omega), sub_pos _ _ _ da db hc (by omega), w64 (by omega) (by omega)]; rfl
      · refine evIs (Minus_loop a b ha hb la lb d (k + 1) _ 0 (by omega) (by omega) (by omega) (by simp [hx]) o1 (by omega)) ?_
        rw [o2, hx, Nat.pow_succ, Nat.mul_assoc, Nat.add_assoc, ← Nat.mul_add]
        congr 2; congr 1; omega
theorem Minus_ev {a b : ByteArray} (ha : dB a = true) (hb : dB b = true) (la : a.size ≤ 100000000000) (lb : b.size ≤ 100000000000) (hle : vB b ≤ vB a) : Ev (fun k => figureheadref01_Minus.f k a b) (digB (vB a - vB b)) := by
  refine evIs (Minus_loop a b ha hb la lb a.size 0 [] 0 (by omega) (by omega) (by omega) rfl rfl (by simpa [rs, vB] using hle)) ?_
  simp [ob, rv, vB, rs]
end Go.Proofs.YtekkpmoppihlaaaDoor.Px
end
section
namespace Go.Proofs.YtekkpmoppihlaaaDoor.Px
open Fig Go.RowKit Go.Proofs.YtekkpmoppihlaaaDoorW.PrintWords Go.Proofs.YtekkpmoppihlaaaDoorW.PrintLast Go.Proofs.YtekkpmoppihlaaaDoorW.PrintMore
attribute [local go_sem] max2_int min2_int max_two min_two max_three min_three max_four min_four   -- for this text's walks alone
attribute [local go_sem] fieldA23_0 fieldA23_1 fieldA23_2
theorem Zeros_loop (m : Nat) (hm : m ≤ 1000000) : ∀ (d n : Nat), m - n = d → n ≤ m → Ev (fun k => figureheadref01_Zeros.l0 k (m : Int) (List.replicate n 48) (n : Int)) (strOfNums (List.replicate m 48))
  | 0, n, hd, hn => by
    obtain rfl : n = m := by omega
    refine evDone (r' := strOfNums (List.replicate n 48)) (fun k => ?_) rfl
    simp only [figureheadref01_Zeros.l0]; rw [if_neg (by omega)]
  | d + 1, n, hd, hn => by
    refine Ev.step (f := fun k => figureheadref01_Zeros.l0 k (m : Int) (List.replicate (n + 1) 48) ((n + 1 : Nat) : Int)) (fun k => ?_) (Zeros_loop m hm d (n + 1) (by omega) (by omega))
    simp only [figureheadref01_Zeros.l0]
    rw [if_pos (by omega), if_pos (by rw [List.length_replicate]; omega), List.replicate_succ', w64 (by omega) (by omega)]; rfl
def zerosB (m : Nat) : ByteArray := strOfNums (List.replicate m 48)
theorem Zeros_ev {m : Nat} (hm : m ≤ 1000000) : Ev (fun k => figureheadref01_Zeros.f k (m : Int)) (zerosB m) := Zeros_loop m hm m 0 (by omega) (by omega)
theorem zerosB_list (m : Nat) : (zerosB m).data.toList = List.replicate m 48 := by rw [zerosB, B_nums, List.map_replicate]; rfl
theorem zerosB_size (m : Nat) : (zerosB m).size = m := by rw [size_eq, zerosB_list, List.length_replicate]
end Go.Proofs.YtekkpmoppihlaaaDoor.Px
end
section
namespace Go.Proofs.YtekkpmoppihlaaaDoor.Px
open Fig Go.RowKit Go.Proofs.YtekkpmoppihlaaaDoorW.PrintWords Go.Proofs.YtekkpmoppihlaaaDoorW.PrintLast Go.Proofs.YtekkpmoppihlaaaDoorW.PrintMore
attribute [local go_sem] max2_int min2_int max_two min_two max_three min_three max_four min_four   -- for this text's walks alone
attribute [local go_sem] fieldA23_0 fieldA23_1 fieldA23_2
theorem At05_ev {b : Bool} {s : ByteArray} {e x : Int} (h : OkD s e) (h1 : x ≤ e) (h2 : -100000 ≤ x) : Ev (fun k => figureheadref05_At.f k b s e x) (digB (atE (vB s) e x)) := by
  have hs := h.sz
  have hl := h.lo
  have hh := h.hi
  have hz := h.val
  unfold figureheadref05_At.f
  refine Ev.bind (StripD_ev (by omega) h.d) ?_
  by_cases h0 : vB s = 0
  · simp only [digB_toList_nil.2 h0, if_true]
    rw [h0, atE_zero, digB_zero]
    exact Ev.now _
  · have h3 : ¬ (digB (vB s)).toList = ([] : List UInt8) := fun hh => h0 (digB_toList_nil.1 hh)
    obtain ⟨m, hm⟩ : ∃ m : Nat, m = (e - x).toNat := ⟨_, rfl⟩
    have hw : wrap64 (e - x) = (m : Int) := by rw [w64 (by omega) (by omega)]; omega
    simp only [h3, if_false, hw]
    refine Ev.bind (Zeros_ev (by omega)) ?_
    have hc : (digB (vB s)).size + (zerosB m).size ≤ 9223372036854775807 := by rw [zerosB_size]; omega
    simp only [hc, if_true]
    refine evIs (Ev.now _) ?_
    apply B_ext
    rw [B_append, digB_list, digB_list, zerosB_list]
    unfold atE
    rw [digs_pow h0, ← hm]
end Go.Proofs.YtekkpmoppihlaaaDoor.Px
end
section
namespace Go.Proofs.YtekkpmoppihlaaaDoor.Px
open Fig Go.RowKit Go.Proofs.YtekkpmoppihlaaaDoorW.PrintWords Go.Proofs.YtekkpmoppihlaaaDoorW.PrintLast Go.Proofs.YtekkpmoppihlaaaDoorW.PrintMore
attribute [local go_sem] max2_int min2_int max_two min_two max_three min_three max_four min_four   -- for this text's walks alone
attribute [local go_sem] fieldA23_0 fieldA23_1 fieldA23_2
theorem digB_bt {n : Nat} (h : n ≠ 0) : bt (digB n) (((digB n).size : Int) - 1) = ((48 + n % 10 : Nat) : Int) := by
  have hs := digB_ten_size h
  have hl := digB_ten_last h
  have hlt : (digB (n / 10)).size < (digB n).size := by omega
  rw [show ((digB n).size : Int) - 1 = ((digB (n / 10)).size : Int) by omega, bt_get hlt]
  have hg := List.getElem?_eq_getElem (l := (digB n).data.toList) (i := (digB (n / 10)).size) (by rw [← size_eq]; exact hlt)
  rw [hl] at hg
  rw [← Option.some.inj hg, dig_toNat]
theorem Norm05_loop (b b2 : Bool) (s2 : ByteArray) (e2 : Int) : ∀ (d n : Nat) (e : Int), n ≠ 0 → n < d → (digB n).size ≤ 1000000 → -1000000 ≤ e → e + ((digB n).size : Int) ≤ 2000000 → Ev (fun k => figureheadref05_Norm.l0 k (digB n) e b s2 e2) (b, nD n, nE n e)
  | 0, n, e, h0, hd, hz, h1, h2 => absurd hd (by omega)
  | d + 1, n, e, h0, hd, hz, h1, h2 => by
    have hs := digB_ten_size h0
    have hb := digB_bt h0
    have hw : wrap64 (((digB n).size : Int) - 1) = ((digB n).size : Int) - 1 := w64 (by omega) (by omega)
    by_cases hm : n % 10 = 0
    · have h3 : n / 10 ≠ 0 := by omega
      have h4 : n / 10 < d := by have := div10_lt h0; omega
      have e1 : nD n = nD (n / 10) := by
        conv => lhs; rw [show n = n / 10 * 10 ^ 1 by omega]
        exact nD_pow _ _
      have e2' : nE n e = nE (n / 10) (e + 1) := by
        conv => lhs; rw [show n = n / 10 * 10 ^ 1 by omega]
        exact nE_pow _ _ _
      rw [e1, e2']
      refine Ev.step (f := fun k => figureheadref05_Norm.l0 k (digB (n / 10)) (e + 1) b s2 e2) (fun k => ?_) (Norm05_loop b b2 s2 e2 d (n / 10) (e + 1) h3 h4 (by omega) (by omega) (by omega))
      simp only [figureheadref05_Norm.l0]
      rw [hw, if_pos (by omega), if_pos (by omega), hb, if_pos (by omega), if_pos (by omega), w64 (x := e + 1) (by omega) (by omega)]
      rw [show (((digB n).size : Int) - 1).toNat = (digB (n / 10)).size by omega, digB_ten_init h0]
    · rw [nD_of hm, nE_of hm]
      refine evDone (r' := (b, digB n, e)) (fun k => ?_) rfl
      simp only [figureheadref05_Norm.l0]
      rw [hw, if_pos (by omega), if_pos (by omega), hb, if_neg (by omega)]
theorem Norm05_any {b : Bool} {s : ByteArray} {e : Int} (hd : dB s = true) (hz : s.size ≤ 1000000) (h1 : -1000000 ≤ e) (h2 : e ≤ 1000000) : Ev (fun k => figureheadref05_Norm.f k b s e) (b, nD (vB s), nE (vB s) e) := by
  have hv : (digB (vB s)).size ≤ s.size := digs_size_lt (vB_lt hd)
  unfold figureheadref05_Norm.f
  refine Ev.bind (StripD_ev (by omega) hd) ?_
  by_cases h0 : vB s = 0
  · simp only [digB_toList_nil.2 h0, if_true]
    rw [h0]
    exact Ev.now _
  · have h3 : ¬ (digB (vB s)).toList = ([] : List UInt8) := fun hh => h0 (digB_toList_nil.1 hh)
    simp only [h3, if_false]
    exact Norm05_loop b b s e (vB s + 1) (vB s) e h0 (by omega) (by omega) (by omega) (by omega)
end Go.Proofs.YtekkpmoppihlaaaDoor.Px
end
section
namespace Go.Proofs.YtekkpmoppihlaaaDoor.Px
open Fig Go.RowKit Go.Proofs.YtekkpmoppihlaaaDoorW.PrintWords Go.Proofs.YtekkpmoppihlaaaDoorW.PrintLast Go.Proofs.YtekkpmoppihlaaaDoorW.PrintMore
attribute [local go_sem] max2_int min2_int max_two min_two max_three min_three max_four min_four   -- for this text's walks alone
attribute [local go_sem] fieldA23_0 fieldA23_1 fieldA23_2
theorem vB_nought_append (s : ByteArray) : vB ((⟨#[48]⟩ : ByteArray) ++ s) = vB s := by
  rw [vB_append, show vB (⟨#[48]⟩ : ByteArray) = 0 from rfl, Nat.zero_mul, Nat.zero_add]
theorem Make_ev {b : Bool} {s : ByteArray} {e : Int} (hd : dB s = true) (hz : s.size ≤ 900000) (h1 : -1000000 ≤ e) (h2 : e ≤ 1000000) : Ev (fun k => figureheadref05_Make.f k b s e) (b, nD (vB s), nE (vB s) e) := by
  unfold figureheadref05_Make.f
  refine evT (by omega) ?_
  have hs : ((⟨#[48]⟩ : ByteArray) ++ s).size = 1 + s.size := by rw [ByteArray.size_append]; rfl
  have := Norm05_any (b := b) (s := (⟨#[48]⟩ : ByteArray) ++ s) (e := e) (dB_append.2 ⟨rfl, hd⟩) (by omega) h1 h2
  rw [vB_nought_append] at this
  exact Ev.bind this (Ev.now _)
theorem MakeD_ev {b : Bool} {n : Nat} {e : Int} (hz : (digB n).size ≤ 900000) (h1 : -1000000 ≤ e) (h2 : e ≤ 1000000) : Ev (fun k => figureheadref05_Make.f k b (digB n) e) (b, nD n, nE n e) := by
  have := Make_ev (b := b) (s := digB n) (e := e) (dB_digB n) hz h1 h2
  rwa [vB_digB] at this
end Go.Proofs.YtekkpmoppihlaaaDoor.Px
end
section
namespace Go.Proofs.YtekkpmoppihlaaaDoor.Px
open Fig Go.RowKit Go.Proofs.YtekkpmoppihlaaaDoorW.PrintWords Go.Proofs.YtekkpmoppihlaaaDoorW.PrintLast Go.Proofs.YtekkpmoppihlaaaDoorW.PrintMore
attribute [local go_sem] max2_int min2_int max_two min_two max_three min_three max_four min_four   -- for this text's walks alone
attribute [local go_sem] fieldA23_0 fieldA23_1 fieldA23_2
theorem nD_nought_list (n : Nat) : (nD n).toList = ([48] : List UInt8) ↔ n = 0 := by
  rw [← nD_nought_iff]
  constructor
  · intro h; apply B_ext; rw [← ByteArray.toList_eq, h]; rfl
  · intro h; rw [h, ByteArray.toList_eq]; rfl
theorem plainP (b : Bool) (n : Nat) (x : Int) : figureheadref05_plain.f b (nD n) x = some (b && decide (n ≠ 0), nD n, x) := by
  unfold figureheadref05_plain.f
  by_cases h : n = 0
  · rw [if_pos ((nD_nought_list n).2 h)]; simp [h]
  · rw [if_neg (fun hh => h ((nD_nought_list n).1 hh))]; simp [h]
end Go.Proofs.YtekkpmoppihlaaaDoor.Px
end
section
namespace Go.Proofs.YtekkpmoppihlaaaDoor.Px
open Fig Go.RowKit Go.Proofs.YtekkpmoppihlaaaDoorW.PrintWords Go.Proofs.YtekkpmoppihlaaaDoorW.PrintLast Go.Proofs.YtekkpmoppihlaaaDoorW.PrintMore
attribute [local go_sem] max2_int min2_int max_two min_two max_three min_three max_four min_four   -- for this text's walks alone
attribute [local go_sem] fieldA23_0 fieldA23_1 fieldA23_2
theorem Sum05_end {b : Bool} {v : Nat} {m : Int} (hz : (digB v).size ≤ 900000) (h1 : -1000000 ≤ m) (h2 : m ≤ 1000000) : Ev (fun k => (figureheadref05_Make.f k b (digB v) m).bind fun t => (figureheadref05_plain.f t.1 t.2.1 t.2.2).bind fun u => some (u.1, u.2.1, u.2.2)) (resD (sg b v) m) := by
  refine Ev.bind (MakeD_ev hz h1 h2) (evE (plainP b v _) ?_)
  rw [resD_sg]; exact Ev.now _
theorem Sum05_j0 {a b : Bool} {s t : ByteArray} {e f m : Int} (h : OkS s e) (g : OkS t f) (h1 : m ≤ e) (h2 : m ≤ f) (h3 : -10000 ≤ m) : Ev (fun k => figureheadref05_Sum.j0 k m a s e b t f) (sumD a (vB s) e b (vB t) f) := by
  rw [sumD_at h1 h2]
  have hs := h.ok.val
  have hsz := h.sz
  have hhi := h.hi
  have gs := g.ok.val
  have gsz := g.sz
  have ghi := g.hi
  have x1 := size_vZ a (n := vB s) (p := 10000) e m (by omega)
  have y1 := size_vZ b (n := vB t) (p := 10000) f m (by omega)
  rw [vZ_natAbs] at x1 y1
  unfold vZ
  refine Ev.step (fun k => by simp only [figureheadref05_Sum.j0]; rfl) ?_
  refine Ev.bind (At05_ev h.ok h1 (by omega)) (Ev.bind (At05_ev g.ok h2 (by omega)) ?_)
  obtain ⟨x, hx⟩ : ∃ x, x = atE (vB s) e m := ⟨_, rfl⟩
  obtain ⟨y, hy⟩ : ∃ y, y = atE (vB t) f m := ⟨_, rfl⟩
  rw [← hx, ← hy]
  rw [← hx] at x1
  rw [← hy] at y1
  have x2 : (digB x).size ≤ 30000 := by omega
  have y2 : (digB y).size ≤ 30000 := by omega
  cases hab : (a == b)
  · refine evF (by decide) (evE (Less_eq x y) ?_)
    by_cases hl : x < y
    · refine evT (decide_eq_true hl) (Ev.bind (Minus_ev (dB_digB _) (dB_digB _) (by omega) (by omega) (by rw [vB_digB, vB_digB]; omega)) ?_)
      rw [vB_digB, vB_digB, sg_sub' hab (by omega)]
      have := digB_mono (Nat.sub_le y x) y2
      exact Sum05_end (by omega) (by omega) (by omega)
    · refine evF (by simpa using hl) (Ev.bind (Minus_ev (dB_digB _) (dB_digB _) (by omega) (by omega) (by rw [vB_digB, vB_digB]; omega)) ?_)
      rw [vB_digB, vB_digB, sg_sub hab (by omega)]
      have := digB_mono (Nat.sub_le x y) x2
      exact Sum05_end (by omega) (by omega) (by omega)
  · obtain rfl := beq_iff_eq.1 hab
    refine evT rfl (Ev.bind (Plus_ev (dB_digB _) (dB_digB _) (by omega) (by omega)) ?_)
    rw [vB_digB, vB_digB, sg_add]
    have := digB_add_le x2 y2
    exact Sum05_end (by omega) (by omega) (by omega)
theorem Sum05_ev {a b : Bool} {s t : ByteArray} {e f : Int} (h : OkS s e) (g : OkS t f) : Ev (fun k => figureheadref05_Sum.f k a s e b t f) (sumD a (vB s) e b (vB t) f) := by
  unfold figureheadref05_Sum.f
  by_cases hc : f < e
  · exact evT hc (Sum05_j0 h g (by omega) (by omega) g.lo)
  · exact evF hc (Sum05_j0 h g (by omega) (by omega) h.lo)
end Go.Proofs.YtekkpmoppihlaaaDoor.Px
end
section
namespace Go.Proofs.YtekkpmoppihlaaaDoor.Px
open Fig Go.RowKit Go.Proofs.YtekkpmoppihlaaaDoorW.PrintWords Go.Proofs.YtekkpmoppihlaaaDoorW.PrintLast Go.Proofs.YtekkpmoppihlaaaDoorW.PrintMore
attribute [local go_sem] max2_int min2_int max_two min_two max_three min_three max_four min_four   -- for this text's walks alone
attribute [local go_sem] fieldA23_0 fieldA23_1 fieldA23_2
theorem digB_toList_inj {m n : Nat} : (digB m).toList = (digB n).toList ↔ m = n := by
  constructor
  · intro h; apply digB_inj; apply B_ext; rw [← ByteArray.toList_eq, h, ByteArray.toList_eq]
  · rintro rfl; rfl
theorem Cmp05_j1 (a b : Bool) (x y : Nat) (s t : ByteArray) (e f : Int) : Ev (fun k => figureheadref05_Cmp.j1 k (digB x) (digB y) (decide (x = 0 ∧ y = 0)) a s e b t f) (cmpZ (sg a x) (sg b y)) := by
  rw [cmpZ_signs]
  by_cases hz : x = 0 ∧ y = 0
  · rw [if_pos hz]
    refine evDone (r' := 0) (fun k => ?_) rfl
    simp [figureheadref05_Cmp.j1, hz]
  · rw [if_neg hz]
    cases a <;> cases b
    · by_cases he : x = y
      · subst he
        refine evDone (r' := 0) (fun k => ?_) (by simp [cmp_self])
        simp [figureheadref05_Cmp.j1]
      · have h1 : ¬ (digB x).toList = (digB y).toList := fun hh => he (digB_toList_inj.1 hh)
        refine evDone (r' := if x < y then -1 else 1) (fun k => ?_) ?_
        · simp only [figureheadref05_Cmp.j1, hz, decide_false, Bool.false_eq_true, if_false, bne_self_eq_false, h1, Less_eq, Option.bind_some]
          by_cases hl : x < y <;> simp [hl]
        · unfold cmpN
          by_cases hl : x < y
          · simp [hl]
          · have : y < x := by omega
            simp [hl, this]
    · refine evDone (r' := 1) (fun k => ?_) (by simp)
      simp [figureheadref05_Cmp.j1, hz]
    · refine evDone (r' := -1) (fun k => ?_) (by simp)
      simp [figureheadref05_Cmp.j1, hz]
    · by_cases he : x = y
      · subst he
        refine evDone (r' := 0) (fun k => ?_) (by simp [cmp_self])
        simp [figureheadref05_Cmp.j1]
      · have h1 : ¬ (digB x).toList = (digB y).toList := fun hh => he (digB_toList_inj.1 hh)
        refine evDone (r' := if x < y then 1 else -1) (fun k => ?_) ?_
        · simp only [figureheadref05_Cmp.j1, hz, decide_false, Bool.false_eq_true, if_false, bne_self_eq_false, h1, Less_eq, Option.bind_some]
          by_cases hl : x < y <;> simp [hl]
        · unfold cmpN
          by_cases hl : x < y
          · have : ¬ y < x := by omega
            simp [hl, this]
          · have : y < x := by omega
            simp [hl, this]
theorem Cmp05_j0 {a b : Bool} {s t : ByteArray} {e f m : Int} (h : OkD s e) (g : OkD t f) (h1 : m ≤ e) (h2 : m ≤ f) (h3 : -100000 ≤ m) : Ev (fun k => figureheadref05_Cmp.j0 k m a s e b t f) (cmpD a (vB s) e b (vB t) f) := by
  rw [cmpD_at h1 h2]
  refine Ev.step (fun k => by simp only [figureheadref05_Cmp.j0]; rfl) ?_
  refine Ev.bind (At05_ev h h1 h3) (Ev.bind (At05_ev g h2 h3) ?_)
  have := Cmp05_j1 a b (atE (vB s) e m) (atE (vB t) f m) s t e f
  by_cases hx : atE (vB s) e m = 0
  · simp only [digB_toList_nil.2 hx, if_true]
    have hy : ((digB (atE (vB t) f m)).toList == ([] : List UInt8)) = decide (atE (vB s) e m = 0 ∧ atE (vB t) f m = 0) := by
      rw [Bool.eq_iff_iff, beq_iff_eq, decide_eq_true_eq, digB_toList_nil]; simp [hx]
    rw [hy]; exact this
  · have hx2 : ¬ (digB (atE (vB s) e m)).toList = ([] : List UInt8) := fun hh => hx (digB_toList_nil.1 hh)
    simp only [hx2, if_false]
    have hy : decide (atE (vB s) e m = 0 ∧ atE (vB t) f m = 0) = false := by simp [hx]
    rw [hy] at this; exact this
theorem Cmp05_ev {a b : Bool} {s t : ByteArray} {e f : Int} (h : OkD s e) (g : OkD t f) : Ev (fun k => figureheadref05_Cmp.f k a s e b t f) (cmpD a (vB s) e b (vB t) f) := by
  unfold figureheadref05_Cmp.f
  by_cases hc : f < e
  · simp only [hc, if_true]; exact Cmp05_j0 h g (by omega) (by omega) g.lo
  · simp only [hc, if_false]; exact Cmp05_j0 h g (by omega) (by omega) h.lo
end Go.Proofs.YtekkpmoppihlaaaDoor.Px
end
section
namespace Go.Proofs.YtekkpmoppihlaaaDoor.Px
open Fig Go.RowKit Go.Proofs.YtekkpmoppihlaaaDoorW.PrintWords Go.Proofs.YtekkpmoppihlaaaDoorW.PrintLast Go.Proofs.YtekkpmoppihlaaaDoorW.PrintMore
attribute [local go_sem] max2_int min2_int max_two min_two max_three min_three max_four min_four   -- for this text's walks alone
attribute [local go_sem] fieldA23_0 fieldA23_1 fieldA23_2
theorem IncNear_true (a0 a3 : Int) (st : ByteArray) (b : Bool) (s : ByteArray) (e : Int) : Ev (fun k => figureheadlaw10_IncNear.j0 k a0 st a3 true b s e) true :=
  Ev.step (fun k => by simp only [figureheadlaw10_IncNear.j0, if_true]) (Ev.bind answers10_ev (Ev.now true))
theorem IncNear_main {m p e : Int} {b : Bool} {s st : ByteArray} (hm0 : 0 ≤ m) (hm6 : m ≤ 6) (ok : OkS s e) (hz : (digB (vB s)).size ≤ 60) (hd : dB st = true) (hs0 : vB st ≠ 0) (hsz : st.size ≤ 40) (hp1 : -100 ≤ p) (hp2 : p ≤ 100) (he1 : -100 ≤ e) (he2 : e ≤ 100) : Ev (fun k => figureheadlaw10_IncNear.j0 k m st p false b s e) true := by
  have hst := digs_size_lt (vB_lt hd)
  have hn0 : st.size ≠ 0 := by
    intro h0
    rw [ByteArray.size_eq_zero_iff.1 h0] at hs0; exact hs0 rfl
  obtain ⟨K, hK⟩ : ∃ K, K = min (min e p) 0 := ⟨_, rfl⟩
  obtain ⟨k0, hk0⟩ : ∃ k0, k0 = min e p := ⟨_, rfl⟩
  obtain ⟨R, hR⟩ : ∃ R, R = rv0 m b (vB s) e (vB st) p k0 := ⟨_, rfl⟩
  obtain ⟨V, hV⟩ : ∃ V, V = offZ b (rv0 m b (vB s) e (vB st) p K) (atE (vB s) e K) := ⟨_, rfl⟩
  have okR : OkS (nD R) (nE R k0) := by rw [hR]; exact inc_rv0_ok (by omega) (by omega) hs0 (by omega) (by omega) (by omega) (by omega) (by omega) (by omega)
  have e1 : roundD m b (vB s) e (vB st) p = (b, nD R, nE R k0, 0) := by rw [roundD_ok (by omega), hR, hk0]
  have e3 : roundD 7 b (vB (nD R)) (nE R k0) (vB st) p = (b, nD R, nE R k0, 0) := by
    have hgeR : K ≤ nE R k0 := nE_ge _ (by omega) (by omega)
    have hvc := vZ_core false (n := R) (e := k0) (m := K) (by omega)
    have ha : atE (core R) (nE R k0) K = atE R k0 K := by
      have : ((atE (core R) (nE R k0) K : Nat) : Int) = ((atE R k0 K : Nat) : Int) := hvc
      omega
    have hfit : atE (core R) (nE R k0) (min (nE R k0) p) % atE (vB st) p (min (nE R k0) p) = 0 := by
      rw [← fit_low (k := K) (by omega) (by omega) (by omega), ha, hR, ← rv0_atE (by omega) (by omega) (by omega)]
      unfold rv0
      exact Nat.mul_mod_left _ _
    rw [vB_nD, roundD_fit hfit, nD_core, nE_core]
  have e2 : sumD b (vB (nD R)) (nE R k0) (!b) (vB s) e = resD V K := by
    rw [vB_nD, sumD_at (k := K) (nE_ge _ (by omega) (by omega)) (by omega), hR, vZ_rv0 (by omega) (by omega) (by omega), hV]; rfl
  have hlt : V.natAbs < atE (vB st) p K := by rw [hV]; exact off_lt hs0
  have hsz2 : (digB V.natAbs).size ≤ 700 := by
    refine digB_mono (Nat.le_of_lt hlt) ?_
    unfold atE; rw [digB_len_pow hs0]; omega
  have hsz3 := digB_add_le hsz2 hsz2
  have okV : OkS (nD V.natAbs) (nE V.natAbs K) := OkS.norm (by omega) (by omega) (by omega)
  have okW : OkS (nD (V.natAbs + V.natAbs)) (nE (V.natAbs + V.natAbs) K) := OkS.norm (by omega) (by omega) (by omega)
  have ok1 : OkS st p := ⟨hd, hn0, by omega, by omega, by omega⟩
  have hv : ∀ v : Nat, vZ false (core v) (nE v K) K = (v : Int) := by
    intro v
    rw [vZ_core false (Int.le_refl K)]; unfold vZ; rw [atE_self]; rfl
  have e4 : sumD false (vB (nD V.natAbs)) (nE V.natAbs K) false (vB (nD V.natAbs)) (nE V.natAbs K) = (false, nD (V.natAbs + V.natAbs), nE (V.natAbs + V.natAbs) K) := by
    rw [vB_nD, sumD_at (k := K) (nE_ge _ (by omega) (by omega)) (nE_ge _ (by omega) (by omega)), hv]
    have := resD_sg false (V.natAbs + V.natAbs) K
    rw [show sg false (V.natAbs + V.natAbs) = (V.natAbs : Int) + (V.natAbs : Int) by unfold sg; simp] at this
    rw [this]; rfl
  have c1 : cmpD false (vB (nD V.natAbs)) (nE V.natAbs K) false (vB st) p < 0 := by
    rw [vB_nD, cmpD_at (k := K) (nE_ge _ (by omega) (by omega)) (by omega), cmpZ_lt, hv]
    show _ < ((atE (vB st) p K : Nat) : Int)
    omega
  have c5 : 4 ≤ m → ¬ cmpD false (vB (nD (V.natAbs + V.natAbs))) (nE (V.natAbs + V.natAbs) K) false (vB st) p > 0 := by
    intro h4
    have hh : V.natAbs + V.natAbs ≤ atE (vB st) p K := by rw [hV]; exact off_half hs0 h4 hm6
    rw [vB_nD, cmpD_at (k := K) (nE_ge _ (by omega) (by omega)) (by omega)]
    have : cmpZ (vZ false (core (V.natAbs + V.natAbs)) (nE (V.natAbs + V.natAbs) K) K) (vZ false (vB st) p K) ≤ 0 := by
      rw [cmpZ_le, hv]
      show _ ≤ ((atE (vB st) p K : Nat) : Int)
      omega
    omega
  have hceil : m = 0 → ¬ V < 0 := by
    intro h; subst h; rw [hV]; have := off_ceil (neg := b) (n := vB s) (e := e) (st := vB st) (p := p) (k := K) hs0; omega
  have hfloor : m = 1 → (nD V.natAbs).toList = ([48] : List UInt8) ∨ V < 0 := by
    intro h; subst h
    have : V ≤ 0 := by rw [hV]; exact off_floor hs0
    by_cases h0 : V = 0
    · left; rw [h0]; rw [ByteArray.toList_eq]; rfl
    · right; omega
  have hend : Ev (fun k => (figureheadlaw10_answers.f k).bind fun t => if t = true then (if m = 0 then (if (resD V K).1 = true then (some false) else (if m = 1 then (if (resD V K).2.1.toList = ([48] : List UInt8) then (some true) else (some (resD V K).1)) else (some true))) else (if m = 1 then (if (resD V K).2.1.toList = ([48] : List UInt8) then (some true) else (some (resD V K).1)) else (some true))) else (some false)) true := by
    refine Ev.bind answers10_ev (evT rfl ?_)
    by_cases h0 : m = 0
    · refine evT h0 (evF ?_ (evF (by omega) (Ev.now _)))
      show ¬ decide (V < 0) = true
      rw [decide_eq_true_eq]; exact hceil h0
    · refine evF h0 ?_
      by_cases h1 : m = 1
      · refine evT h1 ?_
        rcases hfloor h1 with h | h
        · exact evT h (Ev.now _)
        · by_cases hn : (resD V K).2.1.toList = ([48] : List UInt8)
          · exact evT hn (Ev.now _)
          · refine evF hn (evIs (Ev.now _) ?_)
            show decide (V < 0) = true
            exact decide_eq_true h
      · exact evF h1 (Ev.now _)
  refine Ev.step (fun k => by simp only [figureheadlaw10_IncNear.j0, Bool.false_eq_true, if_false]; rfl) ?_
  refine Ev.bind (evIs (incRound_ev hm0 (by omega) ok hd hs0 hsz (by omega) (by omega)) e1) ?_
  refine Ev.bind (evIs (incRound_ev (by omega) (by omega) okR hd hs0 hsz (by omega) (by omega)) e3) ?_
  refine evE (show figureheadref05_Turn.f b s e = some (!b, s, e) from rfl) ?_
  refine Ev.bind (evIs (Sum05_ev okR ok) e2) (evT rfl (evT rfl (evF (by simp) (Ev.bind (Cmp05_ev okV.ok ok1.ok) (evF (Int.not_le.2 c1) ?_)))))
  by_cases h4 : m ≥ 4
  · refine evT h4 ?_
    refine Ev.bind (evIs (Sum05_ev okV okV) e4) ?_
    exact Ev.bind (Cmp05_ev okW.ok ok1.ok) (evF (c5 h4) hend)
  · exact evF h4 hend
theorem IncNear_pure (a0 : Int) (a1_0 : Bool) (a1_1 : ByteArray) (a1_2 : Int) (a2 : ByteArray) (a3 : Int) (w0 : (Lit.int .i64 a0).wf = true) (w1_1 : a1_1.size ≤ 140737488351232) (w1_2 : (Lit.int .i64 a1_2).wf = true) (w2 : a2.size ≤ 140737488351232) (w3 : (Lit.int .i64 a3).wf = true) : ∃ k, figureheadlaw10_IncNear.f k a0 a1_0 a1_1 a1_2 a2 a3 = some true := by
  refine Ev.rounds (g := fun k => figureheadlaw10_IncNear.f k a0 a1_0 a1_1 a1_2 a2 a3) ?_
  unfold figureheadlaw10_IncNear.f
  refine Ev.bind (good10_ev (by omega)) ?_
  cases hg : goodP10 a1_1 a1_2 a3
  · exact evF (by decide) (IncNear_true _ _ _ _ _ _)
  obtain ⟨ok, hz, hp1, hp2, he1, he2⟩ := goodP10_ok hg
  refine evT rfl ?_
  by_cases h0 : a0 < 0
  · exact evT h0 (IncNear_true _ _ _ _ _ _)
  refine evF h0 ?_
  by_cases h6 : a0 > 6
  · exact evT h6 (IncNear_true _ _ _ _ _ _)
  refine evF h6 (Ev.bind (may_ev (by omega)) ?_)
  cases hmy : mayB a2
  · exact IncNear_true _ _ _ _ _ _
  obtain ⟨hd, hs0, hsz⟩ := mayB_iff.1 hmy
  exact IncNear_main (by omega) (by omega) ok hz hd hs0 hsz hp1 hp2 he1 he2
end Go.Proofs.YtekkpmoppihlaaaDoor.Px
end
section
namespace Go.Proofs.YtekkpmoppihlaaaDoorW.PrintWords
open Go.ChangeShapes Go.WideShapes
end Go.Proofs.YtekkpmoppihlaaaDoorW.PrintWords
end
section
namespace Fig
open Go Go.ChangeShapes
theorem one_cell {α : Type} {l : List α} {i n : Nat} (hl : l.length = n) (hi : i < n) : ∃ v, (l.drop i).take 1 = [v] ∧ l[i]? = some v := by
  refine ⟨l[i], ?_, List.getElem?_eq_getElem (by omega)⟩
  rw [List.drop_eq_getElem_cons (by omega)]; rfl
theorem func_cell {P : Program} {W : World} {name : String} {d : DataW Unit} (h : funcsAt P W name d) {g : Nat} {t e : TypeId} {n : Nat} {fld : Field} {ps rs : Array TypeId} {va : Bool}
    (hg : P.globalNamed name = some g) (hty : (P.globals[g]?).map (·.type) = some t) (ht : P.underlying t = some (.array n e)) (he : P.underlying e = some (.struct #[fld])) (hft : P.underlying fld.type = some (.func ps rs va))
    (ce : P.cellsOf e = 1) (cf : P.cellsOf fld.type = 1) (ho : fld.offset = 0) (ct : P.cellsOf t = n) {ds : List (DataW (List UInt8))} (hd : d.funcsOut = .agg ds)
    {i : Nat} (hi : i < n) {b : UInt8} {r : List UInt8} (hdi : ds[i]? = some (.agg [.held (b :: r)])) {f0 : FuncId}
    (hone : ((List.range P.funcs.size).filter fun f => (P.funcs[f]?).any (·.name.toUTF8.data.toList == b :: r)) = [f0]) : W.cell? ⟨g, i, none⟩ = some (.func (.func f0) #[] #[]) := by
  obtain ⟨g', t', cs, fuel, p, hg', ht', hv, hr⟩ := h
  obtain rfl := Option.some.inj (hg.symm.trans hg')
  obtain rfl := Option.some.inj (hty.symm.trans ht')
  obtain ⟨xs, m, _, ex, hcl, hl, hel⟩ := DataW.trod_array ht hr
  rw [hd] at ex
  have e3 : xs.map (·.1) = ds := (DataW.agg.inj (Prod.mk.inj ex).1).symm
  obtain ⟨v, hv1, hv2⟩ := one_cell (l := cs.toList) (n := n) (hcl.trans ct) hi
  have hE := hel i hi
  rw [ce, Nat.mul_one, hv1] at hE
  rw [← e3, List.getElem?_map] at hdi
  cases hx : xs[i]? with
  | none => rw [hx] at hdi; cases hdi
  | some x =>
    rw [hx] at hE hdi
    simp only [Option.map_some, Option.some.injEq] at hdi
    obtain ⟨y0, k, rfl, _, hy⟩ := trod_struct1 he hE
    rw [cf, ho, List.drop_zero] at hy
    have hy0 : y0.1 = .held (b :: r) := by simpa using hdi
    obtain ⟨y1, y2⟩ := y0
    subst hy0
    obtain rfl := func_of_trod hft hone (show DataW.trod _ P W 0 _ true k fld.type [v] = _ from hy)
    rw [World.var?_cell hg hv i]
    simpa using hv2
theorem setCells_os (g : Nat) : ∀ (l : List Value) (i : Nat) (w : World), ((l.zipIdx i).foldl (fun w x => w.setCell ⟨g, x.2, none⟩ x.1) w).os = w.os
  | [], _, _ => rfl
  | _ :: l, i, w => by rw [List.zipIdx_cons, List.foldl_cons, setCells_os g l (i + 1)]; rfl
end Fig
end
section
namespace Fig
open Go Go.Proofs Go.Proofs.YtekkpmoppihlaaaDoor
set_option maxRecDepth 100000
def plainL : List (String × DataW Unit) := [("unicode/utf8.acceptRanges", Rows.laid_unicode_utf8_acceptRanges), ("figurehead/ten.powers", Rows.laid_figurehead_ten_powers), ("unicode/utf8.first", Rows.laid_unicode_utf8_first)]
def laidL : List (String × DataW Unit) := [("figurehead/mode.ways", Rows.laid_figurehead_mode_ways), ("unicode/utf8.acceptRanges", Rows.laid_unicode_utf8_acceptRanges), ("figurehead/ten.powers", Rows.laid_figurehead_ten_powers), ("unicode/utf8.first", Rows.laid_unicode_utf8_first)]
def wayCells : List Value := [.func (.func 105) #[] #[], .func (.func 106) #[] #[], .func (.func 107) #[] #[], .func (.func 108) #[] #[], .func (.func 109) #[] #[], .func (.func 110) #[] #[], .func (.func 111) #[] #[], .func (.func 112) #[] #[]]
noncomputable def startW (os : Os) : World := (wayCells.zipIdx 0).foldl (fun w x => w.setCell ⟨1, x.2, none⟩ x.1) (World.laidAll Tryd.prog os plainL)
theorem startW_os (os : Os) : (startW os).os = os := (setCells_os _ _ _ _).trans (World.laidAll_os _ _ _)
theorem met (os : Os) (args : Array Value) : laidMetH Tryd.prog laidL ((startW os).forCall (fun _ _ => 0) ⟨#[], args, []⟩).memory :=
  laidMetH_of_parts3 (fuel := 8) (laidMet_of_run' 8 (by kernel_rfl) (by kernel_rfl)) (by kernel_rfl) (by kernel_rfl)
theorem plainFilter : (laidL.filter fun x => x.2.handleName?.isNone) = plainL := by kernel_rfl
theorem plain_of {W : World} (h : laidMetH Tryd.prog laidL W) : laidMet Tryd.prog plainL W := plainFilter ▸ (laidMetH_iff.1 h).1
theorem ways_of {W : World} (h : laidMetH Tryd.prog laidL W) : ∀ i f, ([105, 106, 107, 108, 109, 110, 111, 112] : List Nat)[i]? = some f → W.cell? ⟨1, i, none⟩ = some (.func (.func f) #[] #[]) := by
  have hF := h.funcs (n := "figurehead/mode.ways") (List.mem_cons_self)
  have gN : Tryd.prog.globalNamed "figurehead/mode.ways" = some 1 := by kernel_rfl
  have gT : (Tryd.prog.globals[1]?).map (·.type) = some 70 := by kernel_rfl
  have c1 : Tryd.prog.cellsOf 69 = 1 := by kernel_rfl
  have c2 : Tryd.prog.cellsOf 67 = 1 := by kernel_rfl
  have c3 : Tryd.prog.cellsOf 70 = 8 := by kernel_rfl
  intro i f hf
  have key : ∀ {b : UInt8} {r : List UInt8} {j : Nat} {f0 : FuncId}, j < 8 → _ → _ → W.cell? ⟨1, j, none⟩ = some (.func (.func f0) #[] #[]) := fun {b} {r} {j} {f0} hj hdi hone => func_cell (b := b) (r := r) hF gN gT Tryd.underlying70 Tryd.underlying69 Tryd.underlying67 c1 c2 rfl c3 rfl hj hdi hone
  match i, hf with
  | 0, hf => obtain rfl := Option.some.inj hf; exact key (b := 102) (r := [105, 103, 117, 114, 101, 104, 101, 97, 100, 47, 109, 111, 100, 101, 46, 119, 97, 121, 115, 36, 49]) (by decide) rfl (by kernel_rfl)
  | 1, hf => obtain rfl := Option.some.inj hf; exact key (b := 102) (r := [105, 103, 117, 114, 101, 104, 101, 97, 100, 47, 109, 111, 100, 101, 46, 119, 97, 121, 115, 36, 50]) (by decide) rfl (by kernel_rfl)
  | 2, hf => obtain rfl := Option.some.inj hf; exact key (b := 102) (r := [105, 103, 117, 114, 101, 104, 101, 97, 100, 47, 109, 111, 100, 101, 46, 119, 97, 121, 115, 36, 51]) (by decide) rfl (by kernel_rfl)
  | 3, hf => obtain rfl := Option.some.inj hf; exact key (b := 102) (r := [105, 103, 117, 114, 101, 104, 101, 97, 100, 47, 109, 111, 100, 101, 46, 119, 97, 121, 115, 36, 52]) (by decide) rfl (by kernel_rfl)
  | 4, hf => obtain rfl := Option.some.inj hf; exact key (b := 102) (r := [105, 103, 117, 114, 101, 104, 101, 97, 100, 47, 109, 111, 100, 101, 46, 119, 97, 121, 115, 36, 53]) (by decide) rfl (by kernel_rfl)
  | 5, hf => obtain rfl := Option.some.inj hf; exact key (b := 102) (r := [105, 103, 117, 114, 101, 104, 101, 97, 100, 47, 109, 111, 100, 101, 46, 119, 97, 121, 115, 36, 54]) (by decide) rfl (by kernel_rfl)
  | 6, hf => obtain rfl := Option.some.inj hf; exact key (b := 102) (r := [105, 103, 117, 114, 101, 104, 101, 97, 100, 47, 109, 111, 100, 101, 46, 119, 97, 121, 115, 36, 55]) (by decide) rfl (by kernel_rfl)
  | 7, hf => obtain rfl := Option.some.inj hf; exact key (b := 102) (r := [105, 103, 117, 114, 101, 104, 101, 97, 100, 47, 109, 111, 100, 101, 46, 119, 97, 121, 115, 36, 56]) (by decide) rfl (by kernel_rfl)
  | k + 8, hf => simp at hf
theorem pows_of {W : World} (h : laidMetH Tryd.prog laidL W) : ∀ i, i < 9 → W.cell? ⟨0, i, none⟩ = some (.int .u32 (([1, 10, 100, 1000, 10000, 100000, 1000000, 10000000, 100000000] : List Int).getD i 0)) := by
  have gN : Tryd.prog.globalNamed "figurehead/ten.powers" = some 0 := by kernel_rfl
  have gT : (Tryd.prog.globals[0]?).map (·.type) = some 64 := by kernel_rfl
  have hT := Lib.tabIs_of_head (k := .u32) (zs := [1, 10, 100, 1000, 10000, 100000, 1000000, 10000000, 100000000]) gN gT Tryd.underlying64 Tryd.underlying48 (by kernel_rfl) (by kernel_rfl) (laidMet.tail (plain_of h))
  exact fun i hi => hT.cell gN i hi
theorem of_laid {W : World} (h : laidMetH Tryd.prog laidL W) : Glob W := ⟨ways_of h, pows_of h⟩
end Fig
end
section
namespace Fig
open Go Go.ChangeShapes Go.WideShapes Go.RowKit Go.Deep Go.WideElems Go.Joins
theorem open_dec {H : Type} {enc : TypeId × Value → H} {P : Program} {w : World} {base : Nat} {spare : Nat → Bool} {held : Bool} {r : Reach} {b0 : Nat} {t : TypeId} {f0 f1 f2 : Field} {v : Value} {d : DataW H} {p : List MemPlace} {k : IntKind} (hs : P.underlying t = some (.struct #[f0, f1, f2])) (hone : oneCellFields P #[f0, f1, f2] = true) (hC : P.cellsOf t = 3)
    (u0 : P.underlying f0.type = some .bool) (u1 : P.underlying f1.type = some .string) (u2 : P.underlying f2.type = some (.int k)) (hv : Value.okWide P w r b0 t v) (h : DataW.Trod enc P w base spare held t v d p) :
    ∃ (x : Bool) (s : ByteArray) (n : Int), v = .agg #[.bool x, .string s, .int k n] ∧ d = .agg [.lit (.bool x), .lit (.string s.data.toList), .lit (.int k n)] ∧ p = [] ∧ s.size ≤ maxLen ∧ (Lit.int k n).wf = true := by
  obtain ⟨v0, v1, v2, y0, y1, y2, n, rfl, rfl, rfl, h0, h1, h2⟩ := open_agg3 hs hone hC hv h
  obtain ⟨x, e0, rfl⟩ := DataW.trod_bool u0 h0
  obtain ⟨s, e1, rfl, hl⟩ := DataW.trod_string u1 h1
  obtain ⟨m, e2, rfl, hw⟩ := DataW.trod_int u2 h2
  simp only [List.cons.injEq, and_true] at e0 e1 e2
  subst e0 e1 e2
  exact ⟨x, s, m, rfl, rfl, rfl, hl, hw⟩
theorem shut_dec {H : Type} {enc : TypeId × Value → H} {P : Program} {w : World} {base : Nat} {spare : Nat → Bool} {held : Bool} {t : TypeId} {f0 f1 f2 : Field} {k : IntKind} {x : Bool} {s : ByteArray} {n : Int} (hs : P.underlying t = some (.struct #[f0, f1, f2])) (hone : oneCellFields P #[f0, f1, f2] = true) (hC : P.cellsOf t = 3)
    (u0 : P.underlying f0.type = some .bool) (u1 : P.underlying f1.type = some .string) (u2 : P.underlying f2.type = some (.int k)) (hl : s.size ≤ maxLen) (hw : (Lit.int k n).wf = true) :
    DataW.Trod enc P w base spare held t (.agg #[.bool x, .string s, .int k n]) (.agg [.lit (.bool x), .lit (.string s.data.toList), .lit (.int k n)]) [] :=
  shut_agg3 (y0 := (.lit (.bool x), [])) (y1 := (.lit (.string s.data.toList), [])) (y2 := (.lit (.int k n), [])) hs hone hC ⟨1, by simp [DataW.trod, u0]⟩ ⟨1, by simp [DataW.trod, u1, hl]⟩ ⟨1, by simp [DataW.trod, u2, hw]⟩
theorem sized_dec {H : Type} {P : Program} {ts : List TypeId} {ds : List (DataW H)} (h : (DataW.weightsEach P ts ds).all (· ≤ reachBytes) = true) {j : Nat} {t : TypeId} {f0 f1 f2 : Field} {x y : DataW H} {bytes : List UInt8} (ht : ts[j]? = some t) (hd : ds[j]? = some (.agg [x, .lit (.string bytes), y])) (hs : P.underlying t = some (.struct #[f0, f1, f2])) : bytes.length ≤ reachBytes := by
  have := List.all_eq_true.1 h _ (DataW.weights_mem_each ht hd bytes.length (by simp [DataW.weights, DataW.weightsEach, hs]))
  simpa using this
end Fig
end
