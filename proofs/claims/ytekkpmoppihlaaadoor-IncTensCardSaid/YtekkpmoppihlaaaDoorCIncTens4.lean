/- The functions that the law IncTens reaches, told as plain functions, with what is proved of them, and the words they need (part 4). -/
import Derived.Test.YtekkpmoppihlaaaDoorCIncTens0
import Derived.Test.YtekkpmoppihlaaaDoorCIncTens3
import Derived.Test.YtekkpmoppihlaaaDoorCIncTens1
import Derived.Test.YtekkpmoppihlaaaDoorCIncTens2
import Derived.SizedLaws
import Derived.ChangeSlices
import Derived.LaidMore
import Derived.LaidHandle
import Derived.LaidSub
import Derived.OpenShut
import Derived.ChangeSame
import Derived.Lay
import Derived.Lib.LaidTab
import Derived.Test.YtekkpmoppihlaaaDoorRows
import Derived.Stop.LaidErr
import Derived.Lib.SmallJoins
import Derived.ChangeMaps5
set_option linter.unusedVariables false
set_option linter.unusedSimpArgs false
section
namespace Go.Proofs.YtekkpmoppihlaaaDoor.Px
open Fig Go.RowKit Go.Proofs.YtekkpmoppihlaaaDoorW.PrintWords Go.Proofs.YtekkpmoppihlaaaDoorW.PrintLast Go.Proofs.YtekkpmoppihlaaaDoorW.PrintMore
attribute [local go_sem] max2_int min2_int max_two min_two max_three min_three max_four min_four   -- for this text's walks alone
attribute [local go_sem high] eqA23
attribute [local go_sem] fieldA23_0 fieldA23_1 fieldA23_2
mutual
def figureheadlaw10_IncTens.j0 : Nat → Int → ByteArray → Int → Int → Bool → Bool → ByteArray → Int → Option (Bool)
  | 0, _, _, _, _, _, _, _, _ => none
  | k + 1, x0, x2, x3, x4, x31, x424000, x424001, x424002 => if x31 = true then ((figureheadlaw10_answers.f k).bind fun t426 => (some t426)) else (figureheadlaw10_IncTens.l0 k x0 x2 x3 (wrap64 (Int.tmod x4 9)) x2 0 x424000 x424001 x424002)
def figureheadlaw10_IncTens.l0 : Nat → Int → ByteArray → Int → Int → ByteArray → Int → Bool → ByteArray → Int → Option (Bool)
  | 0, _, _, _, _, _, _, _, _, _ => none
  | k + 1, x0, x2, x3, x11, x12, x13, x424000, x424001, x424002 => if x13 < x11 then (if x12.size + 1 ≤ 9223372036854775807 then (figureheadlaw10_IncTens.l0 k x0 x2 x3 x11 (x12 ++ (⟨#[48]⟩ : ByteArray)) (wrap64 (x13 + 1)) x424000 x424001 x424002) else (none)) else ((inc_Round.f k x0 x424000 x424001 x424002 x12 x3).bind fun bt427 => ((inc_Round.f k x0 x424000 x424001 x424002 x2 (wrap64 (x3 + x11))).bind fun bt432 => ((figureheadlaw10_answers.f k).bind fun t437 => (if t437 = true then (if bt427.2.2.2 = bt432.2.2.2 then (some (bt427.1 == bt432.1 && (bt427.2.1.toList == bt432.2.1.toList && (bt427.2.2.1 == bt432.2.2.1)))) else (some false)) else (some false)))))
end
def figureheadlaw10_IncTens.f (k : Nat) (a0 : Int) (a1_0 : Bool) (a1_1 : ByteArray) (a1_2 : Int) (a2 : ByteArray) (a3 : Int) (a4 : Int) : Option (Bool) := (figureheadlaw10_good.f k a1_0 a1_1 a1_2 a3).bind fun t424 => (if t424 = true then ((figureheadlaw10_may.f k a2).bind fun t425 => (if t425 = true then (figureheadlaw10_IncTens.j0 k a0 a2 a3 a4 (decide ((a2.size : Int) > 30)) a1_0 a1_1 a1_2) else (figureheadlaw10_IncTens.j0 k a0 a2 a3 a4 true a1_0 a1_1 a1_2))) else (figureheadlaw10_IncTens.j0 k a0 a2 a3 a4 true a1_0 a1_1 a1_2))
theorem figureheadlaw10_IncTens.mono_l : ∀ k, (∀ y0 y1 y2 y3 y4 y5 y6 y7, LeO (figureheadlaw10_IncTens.j0 k y0 y1 y2 y3 y4 y5 y6 y7) (figureheadlaw10_IncTens.j0 (k + 1) y0 y1 y2 y3 y4 y5 y6 y7)) ∧ (∀ y0 y1 y2 y3 y4 y5 y6 y7 y8, LeO (figureheadlaw10_IncTens.l0 k y0 y1 y2 y3 y4 y5 y6 y7 y8) (figureheadlaw10_IncTens.l0 (k + 1) y0 y1 y2 y3 y4 y5 y6 y7 y8))
  | 0 => ⟨fun _ _ _ _ _ _ _ _ r h => by simp [figureheadlaw10_IncTens.j0] at h, fun _ _ _ _ _ _ _ _ _ r h => by simp [figureheadlaw10_IncTens.l0] at h⟩
  | k + 1 => by
    obtain ⟨ih0, ih1⟩ := figureheadlaw10_IncTens.mono_l k
    refine ⟨?_, ?_⟩
    · intro y0 y1 y2 y3 y4 y5 y6 y7
      unfold figureheadlaw10_IncTens.j0
      repeat' first
      | (with_reducible exact ih0 _ _ _ _ _ _ _ _)
      | (with_reducible exact ih1 _ _ _ _ _ _ _ _ _)
      | (with_reducible exact figureheadlaw10_answers.mono _)
      | (with_reducible exact figureheadlaw10_good.mono _ _ _ _ _)
      | (with_reducible exact figureheadlaw10_may.mono _ _)
      | (with_reducible exact inc_Round.mono _ _ _ _ _ _ _)
      | (with_reducible exact LeO.refl _)
      | (with_reducible exact LeO.none _)
      | (with_reducible refine LeO.ite ?_ ?_)
      | (with_reducible refine LeO.bind ?_ (fun _ => ?_))
      | exact ih0 _ _ _ _ _ _ _ _
      | exact ih1 _ _ _ _ _ _ _ _ _
      | exact figureheadlaw10_answers.mono _
      | exact figureheadlaw10_good.mono _ _ _ _ _
      | exact figureheadlaw10_may.mono _ _
      | exact inc_Round.mono _ _ _ _ _ _ _
      | exact LeO.none _
      | refine LeO.ite ?_ ?_
      | refine LeO.bind ?_ (fun _ => ?_)
    · intro y0 y1 y2 y3 y4 y5 y6 y7 y8
      unfold figureheadlaw10_IncTens.l0
      repeat' first
      | (with_reducible exact ih0 _ _ _ _ _ _ _ _)
      | (with_reducible exact ih1 _ _ _ _ _ _ _ _ _)
      | (with_reducible exact figureheadlaw10_answers.mono _)
      | (with_reducible exact figureheadlaw10_good.mono _ _ _ _ _)
      | (with_reducible exact figureheadlaw10_may.mono _ _)
      | (with_reducible exact inc_Round.mono _ _ _ _ _ _ _)
      | (with_reducible exact LeO.refl _)
      | (with_reducible exact LeO.none _)
      | (with_reducible refine LeO.ite ?_ ?_)
      | (with_reducible refine LeO.bind ?_ (fun _ => ?_))
      | exact ih0 _ _ _ _ _ _ _ _
      | exact ih1 _ _ _ _ _ _ _ _ _
      | exact figureheadlaw10_answers.mono _
      | exact figureheadlaw10_good.mono _ _ _ _ _
      | exact figureheadlaw10_may.mono _ _
      | exact inc_Round.mono _ _ _ _ _ _ _
      | exact LeO.none _
      | refine LeO.ite ?_ ?_
      | refine LeO.bind ?_ (fun _ => ?_)
theorem figureheadlaw10_IncTens.mono : ∀ a0 a1 a2 a3 a4 a5 a6 k, LeO (figureheadlaw10_IncTens.f k a0 a1 a2 a3 a4 a5 a6) (figureheadlaw10_IncTens.f (k + 1) a0 a1 a2 a3 a4 a5 a6) := by
  intro a0 a1 a2 a3 a4 a5 a6 k
  obtain ⟨ih0, ih1⟩ := figureheadlaw10_IncTens.mono_l k
  unfold figureheadlaw10_IncTens.f
  repeat' first
      | (with_reducible exact ih0 _ _ _ _ _ _ _ _)
      | (with_reducible exact ih1 _ _ _ _ _ _ _ _ _)
      | (with_reducible exact figureheadlaw10_answers.mono _)
      | (with_reducible exact figureheadlaw10_good.mono _ _ _ _ _)
      | (with_reducible exact figureheadlaw10_may.mono _ _)
      | (with_reducible exact inc_Round.mono _ _ _ _ _ _ _)
      | (with_reducible exact LeO.refl _)
      | (with_reducible exact LeO.none _)
      | (with_reducible refine LeO.ite ?_ ?_)
      | (with_reducible refine LeO.bind ?_ (fun _ => ?_))
      | exact ih0 _ _ _ _ _ _ _ _
      | exact ih1 _ _ _ _ _ _ _ _ _
      | exact figureheadlaw10_answers.mono _
      | exact figureheadlaw10_good.mono _ _ _ _ _
      | exact figureheadlaw10_may.mono _ _
      | exact inc_Round.mono _ _ _ _ _ _ _
      | exact LeO.none _
      | refine LeO.ite ?_ ?_
      | refine LeO.bind ?_ (fun _ => ?_)
set_option maxHeartbeats 8000000 in
set_option maxRecDepth 100000 in
theorem figureheadlaw10_IncTens.calls (k : Nat) (a0 : Int) (a1_0 : Bool) (a1_1 : ByteArray) (a1_2 : Int) (a2 : ByteArray) (a3 : Int) (a4 : Int) (r : Bool) (w : World) (hG : Fig.Glob w) (HT : Aside0 (r = true)) (h : figureheadlaw10_IncTens.f k a0 a1_0 a1_1 a1_2 a2 a3 a4 = some r) :
    Calls Tryd.prog 6 #[.int .i64 a0, .agg #[.bool a1_0, .string a1_1, .int .i64 a1_2], .string a2, .int .i64 a3, .int .u8 a4] w fun e w' => e = .returned (.bool r) ∧ Below w.heap.size w w' := by
  have hu23 := Tryd.underlying23
  have HG := Aside0.mk hG
  clear hG
  have HB := Aside0.mk (Below.refl w.heap.size w)
  have H : ((figureheadlaw10_good.f k a1_0 a1_1 a1_2 a3).bind fun t424 => (if t424 = true then ((figureheadlaw10_may.f k a2).bind fun t425 => (if t425 = true then (figureheadlaw10_IncTens.j0 k a0 a2 a3 a4 (decide ((a2.size : Int) > 30)) a1_0 a1_1 a1_2) else (figureheadlaw10_IncTens.j0 k a0 a2 a3 a4 true a1_0 a1_1 a1_2))) else (figureheadlaw10_IncTens.j0 k a0 a2 a3 a4 true a1_0 a1_1 a1_2))) = some r := h
  clear h
  have HC6 := Aside0.mk H
  clear H
  go_enter Tryd.func6, Tryd.ntmps6
  go_upto_region 1 with (first | ((with_reducible refine gate_dst (N := 6) rfl ?_); (try (refine gate_guard (by rfl) ?_; dsimp only)); refine box_event ?hg (N := 6) ?hd (cs := #[.bool a1_0, .string a1_1, .int .i64 a1_2]) (t := 23) ?hr ?_; (case hd => rfl); (case hg => rfl); (case hr => first | (go_simp; done) | (go_simp; rfl)); intro gb423 hg w7 hbox hb; have n0_ := Aside0.mk (below_step (by repeat (first | (with_reducible first | exact HB.out | apply below_alloc | apply pw_below_drewN | apply below_drew1) | exact HB.out)) hb); have n1_ := Aside0.mk (hbox); have n2_ := Aside0.mk ((by rw [hg]; exact (below_size (by repeat (first | (with_reducible first | exact HB.out | apply below_alloc | apply pw_below_drewN | apply below_drew1) | exact HB.out))) : w.heap.size ≤ gb423)); have n3_ := Aside0.mk ((by rw [hg]; exact (below_size (by repeat (first | (with_reducible first | exact HB.out | apply below_alloc | apply pw_below_drewN | apply below_drew1) | exact HB.out))) : w.heap.size ≤ gb423)); clear HB; have HB := n0_; have BK423 := n1_; have GW423 := n2_; have GE423 := n3_; clear n0_ n1_ n2_ n3_; clear hb hbox hg))
  (try simp only [Act.put, List.setIfInBounds_toArray, List.set_cons_zero, List.set_cons_succ])
  go_cut [31] (fun v31 wc => ∃ (kq : Nat) (x31_5 : Bool), v31 = .bool x31_5 ∧ Aside0 (figureheadlaw10_IncTens.j0 kq a0 a2 a3 a4 x31_5 a1_0 a1_1 a1_2 = some r) ∧ Aside0 (kq ≤ k) ∧ Aside0 (wc.heap[gb423]? = some (.cells #[.bool a1_0, .string a1_1, .int .i64 a1_2] 23 (0, 0))) ∧ Aside0 (Below w.heap.size w wc))
  case first =>
    have H := HC6.out
    clear HC6
    replace H := Option.bind_eq_some_iff.mp H
    obtain ⟨t424, A80, H⟩ := H
    replace H : (if t424 = true then ((figureheadlaw10_may.f k a2).bind fun t425 => (if t425 = true then (figureheadlaw10_IncTens.j0 k a0 a2 a3 a4 (decide ((a2.size : Int) > 30)) a1_0 a1_1 a1_2) else (figureheadlaw10_IncTens.j0 k a0 a2 a3 a4 true a1_0 a1_1 a1_2))) else (figureheadlaw10_IncTens.j0 k a0 a2 a3 a4 true a1_0 a1_1 a1_2)) = some r := H
    have A8 := Aside0.mk A80
    clear A80
    by_cases c9 : t424 = true
    · subst c9
      have H1 : ((figureheadlaw10_may.f k a2).bind fun t425 => (if t425 = true then (figureheadlaw10_IncTens.j0 k a0 a2 a3 a4 (decide ((a2.size : Int) > 30)) a1_0 a1_1 a1_2) else (figureheadlaw10_IncTens.j0 k a0 a2 a3 a4 true a1_0 a1_1 a1_2))) = some r := by rw [if_pos rfl] at H; exact H
      clear H
      have H := H1
      clear H1
      replace H := Option.bind_eq_some_iff.mp H
      obtain ⟨t425, A100, H⟩ := H
      replace H : (if t425 = true then (figureheadlaw10_IncTens.j0 k a0 a2 a3 a4 (decide ((a2.size : Int) > 30)) a1_0 a1_1 a1_2) else (figureheadlaw10_IncTens.j0 k a0 a2 a3 a4 true a1_0 a1_1 a1_2)) = some r := H
      have A10 := Aside0.mk A100
      clear A100
      by_cases c11 : t425 = true
      · subst c11
        have H1 : (figureheadlaw10_IncTens.j0 k a0 a2 a3 a4 (decide ((a2.size : Int) > 30)) a1_0 a1_1 a1_2) = some r := by rw [if_pos rfl] at H; exact H
        clear H
        have H := H1
        clear H1
        have H' := Aside0.mk H
        clear H
        have hcz12_0 : w7.cell? ⟨gb423, 0, none⟩ = some (.bool a1_0) := (blk_cell BK423.out 0).trans rfl
        have hcz12_1 : w7.cell? ⟨gb423, 1, none⟩ = some (.string a1_1) := (blk_cell BK423.out 1).trans rfl
        have hcz12_2 : w7.cell? ⟨gb423, 2, none⟩ = some (.int .i64 a1_2) := (blk_cell BK423.out 2).trans rfl
        have hfz12_0 := blk_frozen BK423.out 0
        have hfz12_1 := blk_frozen BK423.out 1
        have hfz12_2 := blk_frozen BK423.out 2
        go_wp2_with (first | ((with_reducible refine gate_callee (f := 8) rfl ?_); refine goesL_ (some 20) rfl rfl Tryd.func8 (by kernel_rfl) rfl #[.agg #[.bool a1_0, .string a1_1, .int .i64 a1_2], .int .i64 a3] rfl (by (try simp only [List.map_toArray]); (try simp only [List.map_cons]); (try simp only [List.map_nil]); first | done | rfl | (simp only [List.length_drop, List.length_take]; rfl)) ?_; (with_reducible refine (figureheadlaw10_good.calls k a1_0 a1_1 a1_2 a3 true _ A8.out).mono ?_); rintro e w13 ⟨rfl, hb⟩; refine ⟨_, rfl, ?_⟩; have n0_ := Aside0.mk (blk_below (g := gb423) (o := .cells #[.bool a1_0, .string a1_1, .int .i64 a1_2] 23 (0, 0)) (by (with_reducible repeat (first | refine blk_drewN ?_ _ | refine blk_drew ?_ | refine blk_alloc ?_ _)); exact BK423.out) hb); have n1_ := Aside0.mk (below_step (by repeat (first | (with_reducible first | exact HB.out | apply below_alloc | apply pw_below_drewN | apply below_drew1 | refine below_set ?_ GE423.out) | exact HB.out)) hb); clear BK423; clear HB; have BK423 := n0_; have HB := n1_; clear n0_ n1_; (try clear hb); (try clear hb2); (try clear hk); (try clear hi)) | ((with_reducible refine gate_dst (N := 24) rfl ?_); (try (refine gate_guard (by rfl) ?_; dsimp only)); (refine gate_guard (by rfl) ?_; dsimp only); (with_reducible refine gate_callee (f := 11) rfl ?_); refine goesL_ (some 24) rfl rfl Tryd.func11 (by kernel_rfl) rfl #[.string a2] rfl (by (try simp only [List.map_toArray]); (try simp only [List.map_cons]); (try simp only [List.map_nil]); first | done | rfl | (simp only [List.length_drop, List.length_take]; rfl)) ?_; (with_reducible refine (figureheadlaw10_may.calls k a2 true _ A10.out).mono ?_); rintro e w' ⟨rfl, ⟨nd, rfl⟩⟩; refine ⟨_, rfl, ?_⟩))
        go_meet
        case rel => exact ⟨_, (decide ((a2.size : Int) > 30)), (by first | rfl | (simp; done) | (simp [*]; done) | (simp [*, Fig.bne_nil]; done)), H', ⟨by first | omega | exact Nat.le_refl _⟩, ⟨by (with_reducible repeat (first | refine blk_drewN ?_ _ | refine blk_drew ?_ | refine blk_alloc ?_ _)); exact BK423.out⟩, ⟨by repeat (first | (with_reducible first | exact HB.out | apply below_alloc | apply pw_below_drewN | apply below_drew1 | refine below_set ?_ GE423.out) | exact HB.out)⟩⟩
      · replace c11 := Bool.eq_false_iff.mpr c11
        subst c11
        have H1 : (figureheadlaw10_IncTens.j0 k a0 a2 a3 a4 true a1_0 a1_1 a1_2) = some r := by rw [if_neg (show ¬ (false = true) by decide)] at H; exact H
        clear H
        have H := H1
        clear H1
        have H' := Aside0.mk H
        clear H
        have hcz14_0 : w7.cell? ⟨gb423, 0, none⟩ = some (.bool a1_0) := (blk_cell BK423.out 0).trans rfl
        have hcz14_1 : w7.cell? ⟨gb423, 1, none⟩ = some (.string a1_1) := (blk_cell BK423.out 1).trans rfl
        have hcz14_2 : w7.cell? ⟨gb423, 2, none⟩ = some (.int .i64 a1_2) := (blk_cell BK423.out 2).trans rfl
        have hfz14_0 := blk_frozen BK423.out 0
        have hfz14_1 := blk_frozen BK423.out 1
        have hfz14_2 := blk_frozen BK423.out 2
        go_wp2_with (first | ((with_reducible refine gate_callee (f := 8) rfl ?_); refine goesL_ (some 20) rfl rfl Tryd.func8 (by kernel_rfl) rfl #[.agg #[.bool a1_0, .string a1_1, .int .i64 a1_2], .int .i64 a3] rfl (by (try simp only [List.map_toArray]); (try simp only [List.map_cons]); (try simp only [List.map_nil]); first | done | rfl | (simp only [List.length_drop, List.length_take]; rfl)) ?_; (with_reducible refine (figureheadlaw10_good.calls k a1_0 a1_1 a1_2 a3 true _ A8.out).mono ?_); rintro e w15 ⟨rfl, hb⟩; refine ⟨_, rfl, ?_⟩; have n0_ := Aside0.mk (blk_below (g := gb423) (o := .cells #[.bool a1_0, .string a1_1, .int .i64 a1_2] 23 (0, 0)) (by (with_reducible repeat (first | refine blk_drewN ?_ _ | refine blk_drew ?_ | refine blk_alloc ?_ _)); exact BK423.out) hb); have n1_ := Aside0.mk (below_step (by repeat (first | (with_reducible first | exact HB.out | apply below_alloc | apply pw_below_drewN | apply below_drew1 | refine below_set ?_ GE423.out) | exact HB.out)) hb); clear BK423; clear HB; have BK423 := n0_; have HB := n1_; clear n0_ n1_; (try clear hb); (try clear hb2); (try clear hk); (try clear hi)) | ((with_reducible refine gate_dst (N := 24) rfl ?_); (try (refine gate_guard (by rfl) ?_; dsimp only)); (refine gate_guard (by rfl) ?_; dsimp only); (with_reducible refine gate_callee (f := 11) rfl ?_); refine goesL_ (some 24) rfl rfl Tryd.func11 (by kernel_rfl) rfl #[.string a2] rfl (by (try simp only [List.map_toArray]); (try simp only [List.map_cons]); (try simp only [List.map_nil]); first | done | rfl | (simp only [List.length_drop, List.length_take]; rfl)) ?_; (with_reducible refine (figureheadlaw10_may.calls k a2 false _ A10.out).mono ?_); rintro e w' ⟨rfl, ⟨nd, rfl⟩⟩; refine ⟨_, rfl, ?_⟩))
        go_meet
        case rel => exact ⟨_, (true), (by first | rfl | (simp; done) | (simp [*]; done) | (simp [*, Fig.bne_nil]; done)), H', ⟨by first | omega | exact Nat.le_refl _⟩, ⟨by (with_reducible repeat (first | refine blk_drewN ?_ _ | refine blk_drew ?_ | refine blk_alloc ?_ _)); exact BK423.out⟩, ⟨by repeat (first | (with_reducible first | exact HB.out | apply below_alloc | apply pw_below_drewN | apply below_drew1 | refine below_set ?_ GE423.out) | exact HB.out)⟩⟩
    · replace c9 := Bool.eq_false_iff.mpr c9
      subst c9
      have H1 : (figureheadlaw10_IncTens.j0 k a0 a2 a3 a4 true a1_0 a1_1 a1_2) = some r := by rw [if_neg (show ¬ (false = true) by decide)] at H; exact H
      clear H
      have H := H1
      clear H1
      have H' := Aside0.mk H
      clear H
      have hcz16_0 : w7.cell? ⟨gb423, 0, none⟩ = some (.bool a1_0) := (blk_cell BK423.out 0).trans rfl
      have hcz16_1 : w7.cell? ⟨gb423, 1, none⟩ = some (.string a1_1) := (blk_cell BK423.out 1).trans rfl
      have hcz16_2 : w7.cell? ⟨gb423, 2, none⟩ = some (.int .i64 a1_2) := (blk_cell BK423.out 2).trans rfl
      have hfz16_0 := blk_frozen BK423.out 0
      have hfz16_1 := blk_frozen BK423.out 1
      have hfz16_2 := blk_frozen BK423.out 2
      go_wp2_with (first | ((with_reducible refine gate_callee (f := 8) rfl ?_); refine goesL_ (some 20) rfl rfl Tryd.func8 (by kernel_rfl) rfl #[.agg #[.bool a1_0, .string a1_1, .int .i64 a1_2], .int .i64 a3] rfl (by (try simp only [List.map_toArray]); (try simp only [List.map_cons]); (try simp only [List.map_nil]); first | done | rfl | (simp only [List.length_drop, List.length_take]; rfl)) ?_; (with_reducible refine (figureheadlaw10_good.calls k a1_0 a1_1 a1_2 a3 false _ A8.out).mono ?_); rintro e w17 ⟨rfl, hb⟩; refine ⟨_, rfl, ?_⟩; have n0_ := Aside0.mk (blk_below (g := gb423) (o := .cells #[.bool a1_0, .string a1_1, .int .i64 a1_2] 23 (0, 0)) (by (with_reducible repeat (first | refine blk_drewN ?_ _ | refine blk_drew ?_ | refine blk_alloc ?_ _)); exact BK423.out) hb); have n1_ := Aside0.mk (below_step (by repeat (first | (with_reducible first | exact HB.out | apply below_alloc | apply pw_below_drewN | apply below_drew1 | refine below_set ?_ GE423.out) | exact HB.out)) hb); clear BK423; clear HB; have BK423 := n0_; have HB := n1_; clear n0_ n1_; (try clear hb); (try clear hb2); (try clear hk); (try clear hi)))
      go_meet
      case rel => exact ⟨_, (true), (by first | rfl | (simp; done) | (simp [*]; done) | (simp [*, Fig.bne_nil]; done)), H', ⟨by first | omega | exact Nat.le_refl _⟩, ⟨by (with_reducible repeat (first | refine blk_drewN ?_ _ | refine blk_drew ?_ | refine blk_alloc ?_ _)); exact BK423.out⟩, ⟨by repeat (first | (with_reducible first | exact HB.out | apply below_alloc | apply pw_below_drewN | apply below_drew1 | refine below_set ?_ GE423.out) | exact HB.out)⟩⟩
  case rest =>
    clear HC6
    try clear c1
    try clear p2
    try clear c6
    try clear c8
    try clear c9
    try clear c11
    try clear hcz12_0
    try clear hcz12_1
    try clear hcz12_2
    try clear hcz14_0
    try clear hcz14_1
    try clear hcz14_2
    try clear hcz16_0
    try clear hcz16_1
    try clear hcz16_2
    try clear hfz12_0
    try clear hfz12_1
    try clear hfz12_2
    try clear hfz14_0
    try clear hfz14_1
    try clear hfz14_2
    try clear hfz16_0
    try clear hfz16_1
    try clear hfz16_2
    obtain ⟨kq, x31_5, rfl, HA, HJ5, BK423, HB⟩ := hcut
    cases kq with
    | zero => exact absurd HA.out (by simp [figureheadlaw10_IncTens.j0])
    | succ kj5 =>
      have H := HA.out
      clear HA
      simp only [figureheadlaw10_IncTens.j0] at H
      by_cases c18 : x31_5 = true
      · subst c18
        have H1 : ((figureheadlaw10_answers.f kj5).bind fun t426 => (some t426)) = some r := by rw [if_pos rfl] at H; exact H
        clear H
        have H := H1
        clear H1
        replace H := Option.bind_eq_some_iff.mp H
        obtain ⟨t426, A190, H⟩ := H
        replace H : (some t426) = some r := H
        have A19 := Aside0.mk A190
        clear A190
        obtain rfl := Option.some.inj H
        go_wp2_with (first | ((with_reducible refine gate_callee (f := 9) rfl ?_); refine goesL_ (some 32) rfl rfl Tryd.func9 (by kernel_rfl) rfl #[] rfl (by (try simp only [List.map_toArray]); (try simp only [List.map_cons]); (try simp only [List.map_nil]); first | done | rfl | (simp only [List.length_drop, List.length_take]; rfl)) ?_; (with_reducible refine (figureheadlaw10_answers.calls kj5  t426 _ ?side1 ?side2 A19.out).mono ?_); (case side1 => exact Fig.Glob.below HG.out (by repeat (first | (with_reducible first | exact HB.out | apply below_alloc | apply pw_below_drewN | apply below_drew1 | refine below_set ?_ GE423.out) | exact HB.out))); (case side2 => exact ⟨by first | rfl | exact HT.out⟩); rintro e w20 ⟨rfl, hb⟩; refine ⟨_, rfl, ?_⟩; have n0_ := Aside0.mk (blk_below (g := gb423) (o := .cells #[.bool a1_0, .string a1_1, .int .i64 a1_2] 23 (0, 0)) (by (with_reducible repeat (first | refine blk_drewN ?_ _ | refine blk_drew ?_ | refine blk_alloc ?_ _)); exact BK423.out) hb); have n1_ := Aside0.mk (below_step (by repeat (first | (with_reducible first | exact HB.out | apply below_alloc | apply pw_below_drewN | apply below_drew1 | refine below_set ?_ GE423.out) | exact HB.out)) hb); clear BK423; clear HB; have BK423 := n0_; have HB := n1_; clear n0_ n1_; (try clear hb); (try clear hb2); (try clear hk); (try clear hi)))
        go_ret
        exact ⟨by first | rfl | (simp [errW_none, errW_some] <;> rfl) | (simp [*, errW_none, errW_some] <;> rfl), by repeat (first | (with_reducible first | exact HB.out | apply below_alloc | apply pw_below_drewN | apply below_drew1 | refine below_set ?_ GE423.out) | exact HB.out)⟩
      · replace c18 := Bool.eq_false_iff.mpr c18
        subst c18
        have H1 : (figureheadlaw10_IncTens.l0 kj5 a0 a2 a3 (wrap64 (Int.tmod a4 9)) a2 0 a1_0 a1_1 a1_2) = some r := by rw [if_neg (show ¬ (false = true) by decide)] at H; exact H
        clear H
        have H := H1
        clear H1
        have H' := Aside0.mk H
        clear H
        go_wp2
        go_loopg [12, 13] kj5 (fun kq v12 v13 w' => ∃ (x12_2 : ByteArray) (x13_2 : Int), v12 = .string x12_2 ∧ v13 = .int .i64 x13_2 ∧ Aside0 (figureheadlaw10_IncTens.l0 kq a0 a2 a3 (wrap64 (Int.tmod a4 9)) x12_2 x13_2 a1_0 a1_1 a1_2 = some r) ∧ Aside0 (kq ≤ kj5) ∧ Aside0 (w'.heap[gb423]? = some (.cells #[.bool a1_0, .string a1_1, .int .i64 a1_2] 23 (0, 0))) ∧ Aside0 (Below w.heap.size w w'))
        case atStart => exact ⟨(a2), (0), (by first | rfl | (simp; done) | (simp [*]; done) | (simp [*, Fig.bne_nil]; done)), (by first | rfl | (simp; done) | (simp [*]; done) | (simp [*, Fig.bne_nil]; done)), H', ⟨Nat.le_refl _⟩, ⟨by (with_reducible repeat (first | refine blk_drewN ?_ _ | refine blk_drew ?_ | refine blk_alloc ?_ _)); exact BK423.out⟩, ⟨by repeat (first | (with_reducible first | exact HB.out | apply below_alloc | apply pw_below_drewN | apply below_drew1 | refine below_set ?_ GE423.out) | exact HB.out)⟩⟩
        case round =>
          clear H'
          try clear c1
          try clear p2
          try clear c6
          try clear p6
          try clear c8
          try clear c9
          try clear c11
          try clear c18
          try clear hcz12_0
          try clear hcz12_1
          try clear hcz12_2
          try clear hcz14_0
          try clear hcz14_1
          try clear hcz14_2
          try clear hcz16_0
          try clear hcz16_1
          try clear hcz16_2
          try clear hfz12_0
          try clear hfz12_1
          try clear hfz12_2
          try clear hfz14_0
          try clear hfz14_1
          try clear hfz14_2
          try clear hfz16_0
          try clear hfz16_1
          try clear hfz16_2
          try clear p2
          obtain ⟨x12_2, x13_2, rfl, rfl, HA, HK2, BK423, HB⟩ := hrel
          cases gk with
          | zero => exact absurd HA.out (by simp [figureheadlaw10_IncTens.l0])
          | succ k2 =>
            have H := HA.out
            clear HA
            simp only [figureheadlaw10_IncTens.l0] at H
            by_cases c21 : x13_2 < (wrap64 (Int.tmod a4 9))
            · rw [if_pos c21] at H
              have c21b0 : decide (x13_2 < (wrap64 (Int.tmod a4 9))) = true := decide_eq_true c21
              clear c21
              by_cases c22 : x12_2.size + 1 ≤ 9223372036854775807
              · rw [if_pos c22] at H
                have c22b0 := eq_true c22
                have c22b1 : decide (x12_2.size + 1 ≤ 9223372036854775807) = true := decide_eq_true c22
                try have c22b2 : (9223372036854775807 < x12_2.size + 1) = False := eq_false (Nat.not_lt.2 c22)
                have H' := Aside0.mk H
                clear H
                go_wp2
                go_roundg k2
                case measure => have := HJ5.out; have := HK2.out; omega
                case rel => exact ⟨(x12_2 ++ (⟨#[48]⟩ : ByteArray)), (wrap64 (x13_2 + 1)), (by first | rfl | (simp; done) | (simp [*]; done) | (simp [*, Fig.bne_nil]; done)), (by first | rfl | (simp; done) | (simp [*]; done) | (simp [*, Fig.bne_nil]; done)), H', ⟨by have := HJ5.out; have := HK2.out; omega⟩, ⟨by (with_reducible repeat (first | refine blk_drewN ?_ _ | refine blk_drew ?_ | refine blk_alloc ?_ _)); exact BK423.out⟩, ⟨by repeat (first | (with_reducible first | exact HB.out | apply below_alloc | apply pw_below_drewN | apply below_drew1 | refine below_set ?_ GE423.out) | exact HB.out)⟩⟩
              · rw [if_neg c22] at H
                exact absurd H (by simp)
            · rw [if_neg c21] at H
              have c21b0 : decide (x13_2 < (wrap64 (Int.tmod a4 9))) = false := decide_eq_false c21
              clear c21
              replace H := Option.bind_eq_some_iff.mp H
              obtain ⟨⟨t427, t428, t429, t430⟩, A230, H⟩ := H
              replace H : ((inc_Round.f k2 a0 a1_0 a1_1 a1_2 a2 (wrap64 (a3 + (wrap64 (Int.tmod a4 9))))).bind fun bt432 => ((figureheadlaw10_answers.f k2).bind fun t437 => (if t437 = true then (if t430 = bt432.2.2.2 then (some (t427 == bt432.1 && (t428.toList == bt432.2.1.toList && (t429 == bt432.2.2.1)))) else (some false)) else (some false)))) = some r := H
              have A23 := Aside0.mk A230
              clear A230
              replace H := Option.bind_eq_some_iff.mp H
              obtain ⟨⟨t432, t433, t434, t435⟩, A240, H⟩ := H
              replace H : ((figureheadlaw10_answers.f k2).bind fun t437 => (if t437 = true then (if t430 = t435 then (some (t427 == t432 && (t428.toList == t433.toList && (t429 == t434)))) else (some false)) else (some false))) = some r := H
              have A24 := Aside0.mk A240
              clear A240
              replace H := Option.bind_eq_some_iff.mp H
              obtain ⟨t437, A250, H⟩ := H
              replace H : (if t437 = true then (if t430 = t435 then (some (t427 == t432 && (t428.toList == t433.toList && (t429 == t434)))) else (some false)) else (some false)) = some r := H
              have A25 := Aside0.mk A250
              clear A250
              by_cases c26 : t437 = true
              · subst c26
                have H1 : (if t430 = t435 then (some (t427 == t432 && (t428.toList == t433.toList && (t429 == t434)))) else (some false)) = some r := by rw [if_pos rfl] at H; exact H
                clear H
                have H := H1
                clear H1
                by_cases c27 : t430 = t435
                · rw [if_pos c27] at H
                  have c27b0 : (t430 == t435) = true := beq_iff_eq.mpr c27
                  have c27b1 : (t430 != t435) = false := bne_eq_false_iff_eq.mpr c27
                  clear c27
                  obtain rfl := Option.some.inj H
                  have hcz28_0 : wr.cell? ⟨gb423, 0, none⟩ = some (.bool a1_0) := (blk_cell BK423.out 0).trans rfl
                  have hcz28_1 : wr.cell? ⟨gb423, 1, none⟩ = some (.string a1_1) := (blk_cell BK423.out 1).trans rfl
                  have hcz28_2 : wr.cell? ⟨gb423, 2, none⟩ = some (.int .i64 a1_2) := (blk_cell BK423.out 2).trans rfl
                  have hfz28_0 := blk_frozen BK423.out 0
                  have hfz28_1 := blk_frozen BK423.out 1
                  have hfz28_2 := blk_frozen BK423.out 2
                  go_wp2_with (first | ((with_reducible refine gate_callee (f := 10) rfl ?_); refine goesL_ (some 49) rfl rfl Tryd.func10 (by kernel_rfl) rfl #[.int .i64 a0, .agg #[.bool a1_0, .string a1_1, .int .i64 a1_2], .string x12_2, .int .i64 a3] rfl (by (try simp only [List.map_toArray]); (try simp only [List.map_cons]); (try simp only [List.map_nil]); first | done | rfl | (simp only [List.length_drop, List.length_take]; rfl)) ?_; (with_reducible refine (inc_Round.calls k2 a0 a1_0 a1_1 a1_2 x12_2 a3 t427 t428 t429 t430 _ ?side1 A23.out).mono ?_); (case side1 => exact Fig.Glob.below HG.out (by repeat (first | (with_reducible first | exact HB.out | apply below_alloc | apply pw_below_drewN | apply below_drew1 | refine below_set ?_ GE423.out) | exact HB.out))); rintro e w29 ⟨rfl, hb⟩; refine ⟨_, rfl, ?_⟩; have n0_ := Aside0.mk (blk_below (g := gb423) (o := .cells #[.bool a1_0, .string a1_1, .int .i64 a1_2] 23 (0, 0)) (by (with_reducible repeat (first | refine blk_drewN ?_ _ | refine blk_drew ?_ | refine blk_alloc ?_ _)); exact BK423.out) hb); have n1_ := Aside0.mk (below_step (by repeat (first | (with_reducible first | exact HB.out | apply below_alloc | apply pw_below_drewN | apply below_drew1 | refine below_set ?_ GE423.out) | exact HB.out)) hb); clear BK423; clear HB; have BK423 := n0_; have HB := n1_; clear n0_ n1_; (try clear hb); (try clear hb2); (try clear hk); (try clear hi)) | ((with_reducible refine gate_dst (N := 14) rfl ?_); (try (refine gate_guard (by rfl) ?_; dsimp only)); refine box_event ?hg (N := 14) ?hd (cs := #[.bool false, .string (⟨#[]⟩ : ByteArray), .int .i64 0]) (t := 23) ?hr ?_; (case hd => rfl); (case hg => rfl); (case hr => first | (go_simp; done) | (go_simp; rfl)); intro gb431 hg w30 hbox hb; have n0_ := Aside0.mk (blk_below (g := gb423) (o := .cells #[.bool a1_0, .string a1_1, .int .i64 a1_2] 23 (0, 0)) (by (with_reducible repeat (first | refine blk_drewN ?_ _ | refine blk_drew ?_ | refine blk_alloc ?_ _)); exact BK423.out) hb); have n1_ := Aside0.mk (below_step (by repeat (first | (with_reducible first | exact HB.out | apply below_alloc | apply pw_below_drewN | apply below_drew1 | refine below_set ?_ GE423.out) | exact HB.out)) hb); have n2_ := Aside0.mk (hbox); have n3_ := Aside0.mk ((by rw [hg]; exact (below_size (by repeat (first | (with_reducible first | exact HB.out | apply below_alloc | apply pw_below_drewN | apply below_drew1 | refine below_set ?_ GE423.out) | exact HB.out))) : w.heap.size ≤ gb431)); have n4_ := Aside0.mk ((by rw [hg]; exact (below_size (by repeat (first | (with_reducible first | exact HB.out | apply below_alloc | apply pw_below_drewN | apply below_drew1 | refine below_set ?_ GE423.out) | exact HB.out))) : w.heap.size ≤ gb431)); have n5_ := Aside0.mk ((by rw [hg]; exact Nat.ne_of_lt (blk_lt (g := gb423) (o := .cells #[.bool a1_0, .string a1_1, .int .i64 a1_2] 23 (0, 0)) (by (with_reducible repeat (first | refine blk_drewN ?_ _ | refine blk_drew ?_ | refine blk_alloc ?_ _)); exact BK423.out)) : gb423 ≠ gb431)); have n6_ := Aside0.mk ((by rw [hg]; exact Nat.ne_of_gt (blk_lt (g := gb423) (o := .cells #[.bool a1_0, .string a1_1, .int .i64 a1_2] 23 (0, 0)) (by (with_reducible repeat (first | refine blk_drewN ?_ _ | refine blk_drew ?_ | refine blk_alloc ?_ _)); exact BK423.out)) : gb431 ≠ gb423)); clear BK423; clear HB; have BK423 := n0_; have HB := n1_; have BK431 := n2_; have GW431 := n3_; have GE431 := n4_; have NB423_431 := n5_; have NB431_423 := n6_; clear n0_ n1_ n2_ n3_ n4_ n5_ n6_; clear hb hbox hg; have hnb31 := NB431_423.out; have hnc31 := NB423_431.out; have hcz32_0 : w30.cell? ⟨gb431, 0, none⟩ = some (.bool false) := (blk_cell BK431.out 0).trans rfl; have hcz32_1 : w30.cell? ⟨gb431, 1, none⟩ = some (.string (⟨#[]⟩ : ByteArray)) := (blk_cell BK431.out 1).trans rfl; have hcz32_2 : w30.cell? ⟨gb431, 2, none⟩ = some (.int .i64 0) := (blk_cell BK431.out 2).trans rfl; have hfz32_0 := blk_frozen BK431.out 0; have hfz32_1 := blk_frozen BK431.out 1; have hfz32_2 := blk_frozen BK431.out 2; have hcz33_0 : w30.cell? ⟨gb423, 0, none⟩ = some (.bool a1_0) := (blk_cell BK423.out 0).trans rfl; have hcz33_1 : w30.cell? ⟨gb423, 1, none⟩ = some (.string a1_1) := (blk_cell BK423.out 1).trans rfl; have hcz33_2 : w30.cell? ⟨gb423, 2, none⟩ = some (.int .i64 a1_2) := (blk_cell BK423.out 2).trans rfl; have hfz33_0 := blk_frozen BK423.out 0; have hfz33_1 := blk_frozen BK423.out 1; have hfz33_2 := blk_frozen BK423.out 2) | ((with_reducible refine gate_callee (f := 10) rfl ?_); refine goesL_ (some 59) rfl rfl Tryd.func10 (by kernel_rfl) rfl #[.int .i64 a0, .agg #[.bool a1_0, .string a1_1, .int .i64 a1_2], .string a2, .int .i64 (wrap64 (a3 + (wrap64 (Int.tmod a4 9))))] rfl (by (try simp only [List.map_toArray]); (try simp only [List.map_cons]); (try simp only [List.map_nil]); first | done | rfl | (simp only [List.length_drop, List.length_take]; rfl)) ?_; (with_reducible refine (inc_Round.calls k2 a0 a1_0 a1_1 a1_2 a2 (wrap64 (a3 + (wrap64 (Int.tmod a4 9)))) t432 t433 t434 t435 _ ?side1 A24.out).mono ?_); (case side1 => exact Fig.Glob.below HG.out (by repeat (first | (with_reducible first | exact HB.out | apply below_alloc | apply pw_below_drewN | apply below_drew1 | refine below_set ?_ GE423.out | refine below_set ?_ GE431.out) | exact HB.out))); rintro e w34 ⟨rfl, hb⟩; refine ⟨_, rfl, ?_⟩; have n0_ := Aside0.mk (blk_below (g := gb423) (o := .cells #[.bool a1_0, .string a1_1, .int .i64 a1_2] 23 (0, 0)) (by (with_reducible repeat (first | refine blk_drewN ?_ _ | refine blk_drew ?_ | refine blk_alloc ?_ _)); refine blk_far ?_ NB423_431.out _; (with_reducible repeat (first | refine blk_drewN ?_ _ | refine blk_drew ?_ | refine blk_alloc ?_ _)); refine blk_far ?_ NB423_431.out _; (with_reducible repeat (first | refine blk_drewN ?_ _ | refine blk_drew ?_ | refine blk_alloc ?_ _)); refine blk_far ?_ NB423_431.out _; (with_reducible repeat (first | refine blk_drewN ?_ _ | refine blk_drew ?_ | refine blk_alloc ?_ _)); exact BK423.out) hb); have n1_ := Aside0.mk (blk_below (g := gb431) (o := .cells #[.bool t427, .string t428, .int .i64 t429] 23 (0, 0)) (by (with_reducible repeat (first | refine blk_drewN ?_ _ | refine blk_drew ?_ | refine blk_alloc ?_ _)); refine blk_put (cs := #[.bool t427, .string t428, .int .i64 0]) ?_ 2 _ rfl; (with_reducible repeat (first | refine blk_drewN ?_ _ | refine blk_drew ?_ | refine blk_alloc ?_ _)); refine blk_put (cs := #[.bool t427, .string (⟨#[]⟩ : ByteArray), .int .i64 0]) ?_ 1 _ rfl; (with_reducible repeat (first | refine blk_drewN ?_ _ | refine blk_drew ?_ | refine blk_alloc ?_ _)); refine blk_put (cs := #[.bool false, .string (⟨#[]⟩ : ByteArray), .int .i64 0]) ?_ 0 _ rfl; (with_reducible repeat (first | refine blk_drewN ?_ _ | refine blk_drew ?_ | refine blk_alloc ?_ _)); exact BK431.out) hb); have n2_ := Aside0.mk (below_step (by repeat (first | (with_reducible first | exact HB.out | apply below_alloc | apply pw_below_drewN | apply below_drew1 | refine below_set ?_ GE423.out | refine below_set ?_ GE431.out) | exact HB.out)) hb); clear BK423; clear BK431; clear HB; have BK423 := n0_; have BK431 := n1_; have HB := n2_; clear n0_ n1_ n2_; (try clear hb); (try clear hb2); (try clear hk); (try clear hi)) | ((with_reducible refine gate_dst (N := 16) rfl ?_); (try (refine gate_guard (by rfl) ?_; dsimp only)); refine box_event ?hg (N := 16) ?hd (cs := #[.bool false, .string (⟨#[]⟩ : ByteArray), .int .i64 0]) (t := 23) ?hr ?_; (case hd => rfl); (case hg => rfl); (case hr => first | (go_simp; done) | (go_simp; rfl)); intro gb436 hg w35 hbox hb; have n0_ := Aside0.mk (blk_below (g := gb423) (o := .cells #[.bool a1_0, .string a1_1, .int .i64 a1_2] 23 (0, 0)) (by (with_reducible repeat (first | refine blk_drewN ?_ _ | refine blk_drew ?_ | refine blk_alloc ?_ _)); exact BK423.out) hb); have n1_ := Aside0.mk (blk_below (g := gb431) (o := .cells #[.bool t427, .string t428, .int .i64 t429] 23 (0, 0)) (by (with_reducible repeat (first | refine blk_drewN ?_ _ | refine blk_drew ?_ | refine blk_alloc ?_ _)); exact BK431.out) hb); have n2_ := Aside0.mk (below_step (by repeat (first | (with_reducible first | exact HB.out | apply below_alloc | apply pw_below_drewN | apply below_drew1 | refine below_set ?_ GE423.out | refine below_set ?_ GE431.out) | exact HB.out)) hb); have n3_ := Aside0.mk (hbox); have n4_ := Aside0.mk ((by rw [hg]; exact (below_size (by repeat (first | (with_reducible first | exact HB.out | apply below_alloc | apply pw_below_drewN | apply below_drew1 | refine below_set ?_ GE423.out | refine below_set ?_ GE431.out) | exact HB.out))) : w.heap.size ≤ gb436)); have n5_ := Aside0.mk ((by rw [hg]; exact (below_size (by repeat (first | (with_reducible first | exact HB.out | apply below_alloc | apply pw_below_drewN | apply below_drew1 | refine below_set ?_ GE423.out | refine below_set ?_ GE431.out) | exact HB.out))) : w.heap.size ≤ gb436)); have n6_ := Aside0.mk ((by rw [hg]; exact Nat.ne_of_lt (blk_lt (g := gb423) (o := .cells #[.bool a1_0, .string a1_1, .int .i64 a1_2] 23 (0, 0)) (by (with_reducible repeat (first | refine blk_drewN ?_ _ | refine blk_drew ?_ | refine blk_alloc ?_ _)); exact BK423.out)) : gb423 ≠ gb436)); have n7_ := Aside0.mk ((by rw [hg]; exact Nat.ne_of_gt (blk_lt (g := gb423) (o := .cells #[.bool a1_0, .string a1_1, .int .i64 a1_2] 23 (0, 0)) (by (with_reducible repeat (first | refine blk_drewN ?_ _ | refine blk_drew ?_ | refine blk_alloc ?_ _)); exact BK423.out)) : gb436 ≠ gb423)); have n8_ := Aside0.mk ((by rw [hg]; exact Nat.ne_of_lt (blk_lt (g := gb431) (o := .cells #[.bool t427, .string t428, .int .i64 t429] 23 (0, 0)) (by (with_reducible repeat (first | refine blk_drewN ?_ _ | refine blk_drew ?_ | refine blk_alloc ?_ _)); exact BK431.out)) : gb431 ≠ gb436)); have n9_ := Aside0.mk ((by rw [hg]; exact Nat.ne_of_gt (blk_lt (g := gb431) (o := .cells #[.bool t427, .string t428, .int .i64 t429] 23 (0, 0)) (by (with_reducible repeat (first | refine blk_drewN ?_ _ | refine blk_drew ?_ | refine blk_alloc ?_ _)); exact BK431.out)) : gb436 ≠ gb431)); clear BK423; clear BK431; clear HB; have BK423 := n0_; have BK431 := n1_; have HB := n2_; have BK436 := n3_; have GW436 := n4_; have GE436 := n5_; have NB423_436 := n6_; have NB436_423 := n7_; have NB431_436 := n8_; have NB436_431 := n9_; clear n0_ n1_ n2_ n3_ n4_ n5_ n6_ n7_ n8_ n9_; clear hb hbox hg; have hnb36 := NB436_423.out; have hnc36 := NB423_436.out; have hnb37 := NB436_431.out; have hnc37 := NB431_436.out; have hcz38_0 : w35.cell? ⟨gb436, 0, none⟩ = some (.bool false) := (blk_cell BK436.out 0).trans rfl; have hcz38_1 : w35.cell? ⟨gb436, 1, none⟩ = some (.string (⟨#[]⟩ : ByteArray)) := (blk_cell BK436.out 1).trans rfl; have hcz38_2 : w35.cell? ⟨gb436, 2, none⟩ = some (.int .i64 0) := (blk_cell BK436.out 2).trans rfl; have hfz38_0 := blk_frozen BK436.out 0; have hfz38_1 := blk_frozen BK436.out 1; have hfz38_2 := blk_frozen BK436.out 2) | ((with_reducible refine gate_callee (f := 9) rfl ?_); refine goesL_ (some 62) rfl rfl Tryd.func9 (by kernel_rfl) rfl #[] rfl (by (try simp only [List.map_toArray]); (try simp only [List.map_cons]); (try simp only [List.map_nil]); first | done | rfl | (simp only [List.length_drop, List.length_take]; rfl)) ?_; (with_reducible refine (figureheadlaw10_answers.calls k2  true _ ?side1 ?side2 A25.out).mono ?_); (case side1 => exact Fig.Glob.below HG.out (by repeat (first | (with_reducible first | exact HB.out | apply below_alloc | apply pw_below_drewN | apply below_drew1 | refine below_set ?_ GE423.out | refine below_set ?_ GE431.out | refine below_set ?_ GE436.out) | exact HB.out))); (case side2 => exact ⟨by first | rfl | exact HT.out⟩); rintro e w39 ⟨rfl, hb⟩; refine ⟨_, rfl, ?_⟩; have n0_ := Aside0.mk (blk_below (g := gb423) (o := .cells #[.bool a1_0, .string a1_1, .int .i64 a1_2] 23 (0, 0)) (by (with_reducible repeat (first | refine blk_drewN ?_ _ | refine blk_drew ?_ | refine blk_alloc ?_ _)); refine blk_far ?_ NB423_436.out _; (with_reducible repeat (first | refine blk_drewN ?_ _ | refine blk_drew ?_ | refine blk_alloc ?_ _)); refine blk_far ?_ NB423_436.out _; (with_reducible repeat (first | refine blk_drewN ?_ _ | refine blk_drew ?_ | refine blk_alloc ?_ _)); refine blk_far ?_ NB423_436.out _; (with_reducible repeat (first | refine blk_drewN ?_ _ | refine blk_drew ?_ | refine blk_alloc ?_ _)); exact BK423.out) hb); have n1_ := Aside0.mk (blk_below (g := gb431) (o := .cells #[.bool t427, .string t428, .int .i64 t429] 23 (0, 0)) (by (with_reducible repeat (first | refine blk_drewN ?_ _ | refine blk_drew ?_ | refine blk_alloc ?_ _)); refine blk_far ?_ NB431_436.out _; (with_reducible repeat (first | refine blk_drewN ?_ _ | refine blk_drew ?_ | refine blk_alloc ?_ _)); refine blk_far ?_ NB431_436.out _; (with_reducible repeat (first | refine blk_drewN ?_ _ | refine blk_drew ?_ | refine blk_alloc ?_ _)); refine blk_far ?_ NB431_436.out _; (with_reducible repeat (first | refine blk_drewN ?_ _ | refine blk_drew ?_ | refine blk_alloc ?_ _)); exact BK431.out) hb); have n2_ := Aside0.mk (blk_below (g := gb436) (o := .cells #[.bool t432, .string t433, .int .i64 t434] 23 (0, 0)) (by (with_reducible repeat (first | refine blk_drewN ?_ _ | refine blk_drew ?_ | refine blk_alloc ?_ _)); refine blk_put (cs := #[.bool t432, .string t433, .int .i64 0]) ?_ 2 _ rfl; (with_reducible repeat (first | refine blk_drewN ?_ _ | refine blk_drew ?_ | refine blk_alloc ?_ _)); refine blk_put (cs := #[.bool t432, .string (⟨#[]⟩ : ByteArray), .int .i64 0]) ?_ 1 _ rfl; (with_reducible repeat (first | refine blk_drewN ?_ _ | refine blk_drew ?_ | refine blk_alloc ?_ _)); refine blk_put (cs := #[.bool false, .string (⟨#[]⟩ : ByteArray), .int .i64 0]) ?_ 0 _ rfl; (with_reducible repeat (first | refine blk_drewN ?_ _ | refine blk_drew ?_ | refine blk_alloc ?_ _)); exact BK436.out) hb); have n3_ := Aside0.mk (below_step (by repeat (first | (with_reducible first | exact HB.out | apply below_alloc | apply pw_below_drewN | apply below_drew1 | refine below_set ?_ GE423.out | refine below_set ?_ GE431.out | refine below_set ?_ GE436.out) | exact HB.out)) hb); clear BK423; clear BK431; clear BK436; clear HB; have BK423 := n0_; have BK431 := n1_; have BK436 := n2_; have HB := n3_; clear n0_ n1_ n2_ n3_; (try clear hb); (try clear hb2); (try clear hk); (try clear hi); have hcz40_0 : w39.cell? ⟨gb431, 0, none⟩ = some (.bool t427) := (blk_cell BK431.out 0).trans rfl; have hcz40_1 : w39.cell? ⟨gb431, 1, none⟩ = some (.string t428) := (blk_cell BK431.out 1).trans rfl; have hcz40_2 : w39.cell? ⟨gb431, 2, none⟩ = some (.int .i64 t429) := (blk_cell BK431.out 2).trans rfl; have hfz40_0 := blk_frozen BK431.out 0; have hfz40_1 := blk_frozen BK431.out 1; have hfz40_2 := blk_frozen BK431.out 2; have hcz41_0 : w39.cell? ⟨gb436, 0, none⟩ = some (.bool t432) := (blk_cell BK436.out 0).trans rfl; have hcz41_1 : w39.cell? ⟨gb436, 1, none⟩ = some (.string t433) := (blk_cell BK436.out 1).trans rfl; have hcz41_2 : w39.cell? ⟨gb436, 2, none⟩ = some (.int .i64 t434) := (blk_cell BK436.out 2).trans rfl; have hfz41_0 := blk_frozen BK436.out 0; have hfz41_1 := blk_frozen BK436.out 1; have hfz41_2 := blk_frozen BK436.out 2))
                  go_ret
                  exact ⟨by first | rfl | (simp [errW_none, errW_some] <;> rfl) | (simp [*, errW_none, errW_some] <;> rfl), by repeat (first | (with_reducible first | exact HB.out | apply below_alloc | apply pw_below_drewN | apply below_drew1 | refine below_set ?_ GE423.out | refine below_set ?_ GE431.out | refine below_set ?_ GE436.out) | exact HB.out)⟩
                · rw [if_neg c27] at H
                  have c27b0 : (t430 == t435) = false := beq_eq_false_iff_ne.mpr c27
                  have c27b1 : (t430 != t435) = true := bne_iff_ne.mpr c27
                  exact absurd ((Option.some.inj H).trans HT.out) (by decide)
              · replace c26 := Bool.eq_false_iff.mpr c26
                subst c26
                have H1 : (some false) = some r := by rw [if_neg (show ¬ (false = true) by decide)] at H; exact H
                clear H
                have H := H1
                clear H1
                exact absurd ((Option.some.inj H).trans HT.out) (by decide)
end Go.Proofs.YtekkpmoppihlaaaDoor.Px
end
section
namespace Go.Proofs.YtekkpmoppihlaaaDoor.Px
open Fig Go.RowKit Go.Proofs.YtekkpmoppihlaaaDoorW.PrintWords Go.Proofs.YtekkpmoppihlaaaDoorW.PrintLast Go.Proofs.YtekkpmoppihlaaaDoorW.PrintMore
attribute [local go_sem] max2_int min2_int max_two min_two max_three min_three max_four min_four   -- for this text's walks alone
attribute [local go_sem] fieldA23_0 fieldA23_1 fieldA23_2
theorem Digits_loop (s : ByteArray) (hs : s.size ≤ 4611686018427387904) : ∀ (d n : Nat), s.size - n = d → n ≤ s.size → Ev (fun k => figureheadref05_Digits.l0 k s (n : Int)) (digL (s.data.toList.drop n) && decide (s.size ≠ 0))
  | 0, n, hd, hn => by
    refine evDone (r' := (s.toList != ([] : List UInt8))) (fun k => ?_) ?_
    · simp only [figureheadref05_Digits.l0]; rw [if_neg (by omega)]
    · rw [List.drop_of_length_le (by rw [← size_eq]; omega), bne_nil, ByteArray.toList_eq, size_eq]
      cases s.data.toList <;> simp [digL]
  | d + 1, n, hd, hn => by
    have hlt : n < s.size := by omega
    have hbt := bt_get hlt
    have hc := List.drop_eq_getElem_cons (l := s.data.toList) (i := n) (by rw [← size_eq]; exact hlt)
    rw [hc]
    generalize hx : s.data.toList[n]'(by rw [← size_eq]; exact hlt) = c at hbt
    by_cases h1 : c.toNat < 48
    · refine evDone (r' := false) (fun k => ?_) ?_
      · simp only [figureheadref05_Digits.l0]; rw [if_pos (by omega), if_pos (by omega), hbt, if_pos (by omega)]
      · have : isD c = false := by unfold isD; simp; omega
        simp [digL, this]
    · by_cases h2 : c.toNat > 57
      · refine evDone (r' := false) (fun k => ?_) ?_
        · simp only [figureheadref05_Digits.l0]; rw [if_pos (by omega), if_pos (by omega), hbt, if_neg (by omega), if_pos (by omega)]
        · have : isD c = false := by unfold isD; simp; omega
          simp [digL, this]
      · have hd1 : isD c = true := isD_iff.2 ⟨by omega, by omega⟩
        refine evIs (Ev.step (f := fun k => figureheadref05_Digits.l0 k s ((n + 1 : Nat) : Int)) (fun k => ?_) (Digits_loop s hs d (n + 1) (by omega) (by omega))) ?_
        · simp only [figureheadref05_Digits.l0]; rw [if_pos (by omega), if_pos (by omega), hbt, if_neg (by omega), if_neg (by omega), succ64 _ (by omega)]
        · simp [digL, hd1]
theorem Digits05_ev {s : ByteArray} (hs : s.size ≤ 4611686018427387904) : Ev (fun k => figureheadref05_Digits.f k s) (dB s && decide (s.size ≠ 0)) := by
  have := Digits_loop s hs s.size 0 (by omega) (by omega)
  rw [List.drop_zero] at this
  exact this
end Go.Proofs.YtekkpmoppihlaaaDoor.Px
end
section
namespace Go.Proofs.YtekkpmoppihlaaaDoor.Px
open Fig Go.RowKit Go.Proofs.YtekkpmoppihlaaaDoorW.PrintWords Go.Proofs.YtekkpmoppihlaaaDoorW.PrintLast Go.Proofs.YtekkpmoppihlaaaDoorW.PrintMore
attribute [local go_sem] max2_int min2_int max_two min_two max_three min_three max_four min_four   -- for this text's walks alone
attribute [local go_sem] fieldA23_0 fieldA23_1 fieldA23_2
theorem Good05_ev {b : Bool} {s : ByteArray} {e : Int} (hs : s.size ≤ 4611686018427387904) : Ev (fun k => figureheadref05_Good.f k b s e) (goodD s e) := by
  unfold figureheadref05_Good.f
  refine Ev.bind (Digits05_ev hs) ?_
  unfold goodD
  cases hd : (dB s && decide (s.size ≠ 0))
  · simp only [Bool.false_eq_true, if_false, Bool.false_and]
    exact Ev.now _
  · simp only [if_true, Bool.true_and]
    by_cases h1 : s.size ≤ 1000
    · have h1' : (s.size : Int) ≤ 1000 := by omega
      simp only [h1', h1, if_true, decide_true, Bool.true_and]
      by_cases h2 : e ≥ -1000
      · have h2' : -1000 ≤ e := h2
        simp only [h2, h2', if_true, decide_true, Bool.true_and]
        exact Ev.now _
      · have h2' : ¬ -1000 ≤ e := h2
        simp only [h2, h2', if_false, decide_false, Bool.false_and]
        exact Ev.now _
    · have h1' : ¬ (s.size : Int) ≤ 1000 := by omega
      simp only [h1', h1, if_false, decide_false, Bool.false_and]
      exact Ev.now _
end Go.Proofs.YtekkpmoppihlaaaDoor.Px
end
section
namespace Go.Proofs.YtekkpmoppihlaaaDoor.Px
open Fig Go.RowKit Go.Proofs.YtekkpmoppihlaaaDoorW.PrintWords Go.Proofs.YtekkpmoppihlaaaDoorW.PrintLast Go.Proofs.YtekkpmoppihlaaaDoorW.PrintMore
attribute [local go_sem] max2_int min2_int max_two min_two max_three min_three max_four min_four   -- for this text's walks alone
attribute [local go_sem] fieldA23_0 fieldA23_1 fieldA23_2
def goodP10 (s : ByteArray) (e p : Int) : Bool := goodD s e && decide (s.size ≤ 60) && decide (-100 ≤ p) && decide (p ≤ 100) && decide (-100 ≤ e) && decide (e ≤ 100)
theorem goodP10_iff {s : ByteArray} {e p : Int} : goodP10 s e p = true ↔ goodD s e = true ∧ s.size ≤ 60 ∧ -100 ≤ p ∧ p ≤ 100 ∧ -100 ≤ e ∧ e ≤ 100 := by
  unfold goodP10; simp only [Bool.and_eq_true, decide_eq_true_eq, and_assoc]
theorem good10_ev {b : Bool} {s : ByteArray} {e p : Int} (hs : s.size ≤ 4611686018427387904) : Ev (fun k => figureheadlaw10_good.f k b s e p) (goodP10 s e p) := by
  unfold figureheadlaw10_good.f
  refine Ev.bind (Good05_ev hs) ?_
  unfold goodP10
  cases goodD s e
  · exact evF (by decide) (evIs (Ev.now _) (by simp))
  refine evT rfl ?_
  by_cases h1 : s.size ≤ 60
  · refine evT (by omega) ?_
    by_cases h2 : p ≥ -100
    · refine evT h2 ?_
      by_cases h3 : p ≤ 100
      · refine evT h3 ?_
        by_cases h4 : e ≥ -100
        · have h2' : -100 ≤ p := h2
          have h4' : -100 ≤ e := h4
          exact evT h4 (evIs (Ev.now _) (by simp [h1, h2', h3, h4']))
        · have h4' : ¬ -100 ≤ e := h4
          exact evF h4 (evIs (Ev.now _) (by simp [h4']))
      · exact evF h3 (evIs (Ev.now _) (by simp [h3]))
    · have h2' : ¬ -100 ≤ p := h2
      exact evF h2 (evIs (Ev.now _) (by simp [h2']))
  · exact evF (by omega) (evIs (Ev.now _) (by simp [h1]))
theorem goodP10_ok {s : ByteArray} {e p : Int} (h : goodP10 s e p = true) : OkS s e ∧ (digB (vB s)).size ≤ 60 ∧ -100 ≤ p ∧ p ≤ 100 ∧ -100 ≤ e ∧ e ≤ 100 := by
  obtain ⟨a, b, c, d, f, g⟩ := goodP10_iff.1 h
  have ok := OkS.of_good a
  have := ok.ok.val
  exact ⟨ok, by have := digs_size_lt (vB_lt ok.d); omega, c, d, f, g⟩
theorem inc_wf_u8 {x : Int} (h : (Lit.int .u8 x).wf = true) : 0 ≤ x ∧ x < 256 := by
  simp [Lit.wf, IntKind.min, IntKind.max, IntKind.signed, IntKind.bits] at h; omega
end Go.Proofs.YtekkpmoppihlaaaDoor.Px
end
section
namespace Go.Proofs.YtekkpmoppihlaaaDoor.Px
open Fig Go.RowKit Go.Proofs.YtekkpmoppihlaaaDoorW.PrintWords Go.Proofs.YtekkpmoppihlaaaDoorW.PrintLast Go.Proofs.YtekkpmoppihlaaaDoorW.PrintMore
attribute [local go_sem] max2_int min2_int max_two min_two max_three min_three max_four min_four   -- for this text's walks alone
attribute [local go_sem] fieldA23_0 fieldA23_1 fieldA23_2
theorem modeP (m : Int) : mode_Good.f m = some (decide (0 ≤ m ∧ m < 8)) := by
  unfold mode_Good.f
  by_cases h : m ≥ 0
  · rw [if_pos h]; congr 1; rw [decide_eq_decide]; omega
  · rw [if_neg h]; congr 1; symm; rw [decide_eq_false_iff_not]; omega
end Go.Proofs.YtekkpmoppihlaaaDoor.Px
end
section
namespace Go.Proofs.YtekkpmoppihlaaaDoor.Px
open Fig Go.RowKit Go.Proofs.YtekkpmoppihlaaaDoorW.PrintWords Go.Proofs.YtekkpmoppihlaaaDoorW.PrintLast Go.Proofs.YtekkpmoppihlaaaDoorW.PrintMore
attribute [local go_sem] max2_int min2_int max_two min_two max_three min_three max_four min_four   -- for this text's walks alone
attribute [local go_sem] fieldA23_0 fieldA23_1 fieldA23_2
theorem guess_mid (p q : Nat) (hp : p ≤ 1000000000) (hq : q ≤ 1000000000) : (((p : Int) + (q : Int)) % 4294967296) / 2 = (((p + q) / 2 : Nat) : Int) := by omega
theorem guess_loop (r b : List Int) (gr : goodL r = true) (gb : goodL b = true) (lr : r.length ≤ 1000001) (lb : b.length ≤ 1000000) : ∀ (d p q : Nat), q - p = d → p < q → q ≤ 1000000000 → valL b * p ≤ valL r → valL r < valL b * q →
    Ev (fun k => div_guess.l0 k r b (p : Int) (q : Int)) (((valL r / valL b : Nat) : Int), limbs (valL r % valL b)) := by
  intro d
  induction d using Nat.strongRecOn with
  | _ d ih =>
  intro p q hd hpq hq h1 h2
  by_cases hs : 1 < q - p
  · have hm1 : p < (p + q) / 2 := by omega
    have hm2 : (p + q) / 2 < q := by omega
    have lm : (limbs (valL b * ((p + q) / 2) + 0)).length ≤ 1000001 := by
      have := valL_lt gb
      have h3 : valL b * ((p + q) / 2) < 1000000000 ^ b.length * 1000000000 := Nat.mul_lt_mul'' this (by omega)
      rw [← Nat.pow_succ] at h3
      exact limbs_pow9 h3 (by omega)
    refine Ev.step (f := fun k => (mul_Small.f k b (((p + q) / 2 : Nat) : Int) ((0 : Nat) : Int)).bind fun t => (nat_Cmp.f t r).bind fun t2 => if t2 ≤ 0 then div_guess.l0 k r b (((p + q) / 2 : Nat) : Int) (q : Int) else div_guess.l0 k r b (p : Int) (((p + q) / 2 : Nat) : Int)) (fun k => ?_) (Ev.bind (Small_ev gb lb (by omega) (by omega)) (Ev.bind (evSome fun _ => cmpF_eq (limbs_good _) gr (by omega) (by omega)) ?_))
    · simp only [div_guess.l0]
      rw [if_pos (by omega), guess_mid p q (by omega) hq]; rfl
    · rw [limbs_val, Nat.add_zero]
      by_cases hc : valL b * ((p + q) / 2) ≤ valL r
      · have c0 : cmpN (valL b * ((p + q) / 2)) (valL r) ≤ 0 := by
          unfold cmpN
          split
          · omega
          · rw [if_neg (by omega)]; omega
        simp only [c0, if_true]
        exact ih _ (by omega) _ _ rfl hm2 hq hc h2
      · have c0 : ¬ cmpN (valL b * ((p + q) / 2)) (valL r) ≤ 0 := by unfold cmpN; rw [if_neg (by omega), if_pos (by omega)]; omega
        simp only [c0, if_false]
        exact ih _ (by omega) _ _ rfl hm1 (by omega) h1 (by omega)
  · have hq1 : q = p + 1 := by omega
    subst hq1
    have hb0 : 0 < valL b := by
      rcases Nat.eq_zero_or_pos (valL b) with h0 | h0
      · rw [h0] at h2; omega
      · exact h0
    have e1 : valL r / valL b = p := by
      rw [Nat.mul_add] at h2
      exact Nat.div_eq_of_lt_le (by rw [Nat.mul_comm]; exact h1) (by rw [Nat.add_mul, Nat.mul_comm p]; omega)
    have e2 : valL r % valL b = valL r - valL b * p := by
      have := Nat.div_add_mod (valL r) (valL b)
      rw [e1] at this; omega
    have lm : (limbs (valL b * p + 0)).length ≤ 1000001 := by
      exact limbs_pow9 (Nat.lt_of_le_of_lt h1 (valL_lt gr)) lr
    refine Ev.step (f := fun k => (mul_Small.f k b ((p : Nat) : Int) ((0 : Nat) : Int)).bind fun t => (nat_Sub.f r t).bind fun t2 => some (((p : Nat) : Int), t2.1)) (fun k => ?_) (Ev.bind (Small_ev gb lb (by omega) (by omega)) (Ev.bind (evSome fun _ => subF_ge gr (limbs_good _) (by omega) (by omega) (by rw [limbs_val]; omega)) ?_))
    · simp only [div_guess.l0]
      rw [if_neg (by omega)]; rfl
    · rw [limbs_val, Nat.add_zero, e1, e2]; exact Ev.now _
theorem guess_ev {r b : List Int} (gr : goodL r = true) (gb : goodL b = true) (lr : r.length ≤ 1000001) (lb : b.length ≤ 1000000) (h : valL r < 1000000000 * valL b) : Ev (fun k => div_guess.f k r b) (((valL r / valL b : Nat) : Int), limbs (valL r % valL b)) := by
  have := guess_loop r b gr gb lr lb _ 0 1000000000 rfl (by omega) (by omega) (by omega) (by rw [Nat.mul_comm]; exact h)
  exact this
end Go.Proofs.YtekkpmoppihlaaaDoor.Px
end
section
namespace Go.Proofs.YtekkpmoppihlaaaDoor.Px
open Fig Go.RowKit Go.Proofs.YtekkpmoppihlaaaDoorW.PrintWords Go.Proofs.YtekkpmoppihlaaaDoorW.PrintLast Go.Proofs.YtekkpmoppihlaaaDoorW.PrintMore
attribute [local go_sem] max2_int min2_int max_two min_two max_three min_three max_four min_four   -- for this text's walks alone
attribute [local go_sem] fieldA23_0 fieldA23_1 fieldA23_2
def div_Small.l0 : Nat → List Int → Int → List Int → Int → Int → Option (List Int × Int × Bool)
  | 0, _, _, _, _, _ => none
  | k + 1, x0, x1, x4, x7, x8 => if x8 ≥ 0 then (if 0 ≤ x8 then (if x8 < (x0.length : Int) then (if (IntKind.u64.wrap (x1)) = 0 then (none) else (if x8 < (x4.length : Int) then (div_Small.l0 k x0 x1 (x4.set (x8 : Int).toNat ((IntKind.u64.wrap (Int.tdiv (IntKind.u64.wrap ((IntKind.u64.wrap (x7 * 1000000000)) + (IntKind.u64.wrap (rd x0 x8)))) (IntKind.u64.wrap (x1)))) % 4294967296)) (Int.tmod (IntKind.u64.wrap ((IntKind.u64.wrap (x7 * 1000000000)) + (IntKind.u64.wrap (rd x0 x8)))) (IntKind.u64.wrap (x1))) (wrap64 (x8 - 1))) else (none))) else (none)) else (none)) else ((nat_Trim.f x4).bind fun t443 => (some (t443, (x7) % 4294967296, true)))
def div_Small.f (k : Nat) (l0 : List Int) (a1 : Int) : Option (List Int × Int × Bool) := if a1 = 0 then (some (([] : List Int), 0, false)) else (if 0 ≤ (l0.length : Int) then (if ((l0.length : Int) : Int).toNat ≤ 70368744177664 then (div_Small.l0 k l0 a1 (List.replicate ((l0.length : Int) : Int).toNat 0) 0 (wrap64 ((l0.length : Int) - 1))) else (none)) else (none))
theorem div_Small.mono_l : ∀ k, (∀ y0 y1 y2 y3 y4, LeO (div_Small.l0 k y0 y1 y2 y3 y4) (div_Small.l0 (k + 1) y0 y1 y2 y3 y4))
  | 0 => fun _ _ _ _ _ r h => by simp [div_Small.l0] at h
  | k + 1 => by
    have ih0 := div_Small.mono_l k
    · intro y0 y1 y2 y3 y4
      unfold div_Small.l0
      repeat' first
      | (with_reducible exact ih0 _ _ _ _ _)
      | (with_reducible exact LeO.refl _)
      | (with_reducible exact LeO.none _)
      | (with_reducible refine LeO.ite ?_ ?_)
      | (with_reducible refine LeO.bind ?_ (fun _ => ?_))
      | exact ih0 _ _ _ _ _
      | exact LeO.none _
      | refine LeO.ite ?_ ?_
      | refine LeO.bind ?_ (fun _ => ?_)
theorem div_Small.mono : ∀ a0 a1 k, LeO (div_Small.f k a0 a1) (div_Small.f (k + 1) a0 a1) := by
  intro a0 a1 k
  have ih0 := div_Small.mono_l k
  unfold div_Small.f
  repeat' first
      | (with_reducible exact ih0 _ _ _ _ _)
      | (with_reducible exact LeO.refl _)
      | (with_reducible exact LeO.none _)
      | (with_reducible refine LeO.ite ?_ ?_)
      | (with_reducible refine LeO.bind ?_ (fun _ => ?_))
      | exact ih0 _ _ _ _ _
      | exact LeO.none _
      | refine LeO.ite ?_ ?_
      | refine LeO.bind ?_ (fun _ => ?_)
set_option maxHeartbeats 8000000 in
set_option maxRecDepth 100000 in
theorem div_Small.calls (k : Nat) (A0 : Option Addr) (c0 : Nat) (l0 : List Int) (a1 : Int) (r1 : List Int) (r2 : Int) (r3 : Bool) (w : World) (hr0 : Kd.C (Kd.int .u32) w A0 l0.length l0) (hc0 : l0.length ≤ c0) (h : div_Small.f k l0 a1 = some (r1, r2, r3)) :
    Calls Tryd.prog 72 #[.slice A0 l0.length c0, .int .u32 a1] w fun e w' => ∃ v0_ : Value, e = .returned (.tuple #[v0_, .int .u32 r2, .bool r3]) ∧ Kd.R (Kd.int .u32) 48 w' w.heap.size (fun _ => True) v0_ r1 ∧ Below w.heap.size w w' := by
  have HR0 := Aside0.mk hr0
  have HC0 := Aside0.mk hc0
  clear hr0 hc0
  have HB := Aside0.mk (Below.refl w.heap.size w)
  have H : (if a1 = 0 then (some (([] : List Int), 0, false)) else (if 0 ≤ (l0.length : Int) then (if ((l0.length : Int) : Int).toNat ≤ 70368744177664 then (div_Small.l0 k l0 a1 (List.replicate ((l0.length : Int) : Int).toNat 0) 0 (wrap64 ((l0.length : Int) - 1))) else (none)) else (none))) = some (r1, r2, r3) := h
  clear h
  by_cases c3 : a1 = 0
  · rw [if_pos c3] at H
    have c3b0 : (a1 == 0) = true := beq_iff_eq.mpr c3
    have c3b1 : (a1 != 0) = false := bne_eq_false_iff_eq.mpr c3
    clear c3
    simp only [Option.some.injEq, Prod.mk.injEq] at H
    obtain ⟨rfl, rfl, rfl⟩ := H
    go_enter Tryd.func72, Tryd.ntmps72
    go_wp2
    go_ret3
    exact ⟨_, by first | rfl | (simp [errW_none, errW_some] <;> rfl) | (simp [*, errW_none, errW_some] <;> rfl), by first | exact Kd.R_nil _ _ _ _ _ | exact Kd.N_nil _ _ _ _ _ | exact Kd.V_nil _ _ _ _ _ | exact Kd.Q_nil _ _ _ _ _ | exact Kd.S_nil _ _ _ _ _, by repeat (first | (with_reducible first | exact HB.out | apply below_alloc | apply pw_below_drewN | apply below_drew1) | exact HB.out)⟩
  · rw [if_neg c3] at H
    have c3b0 : (a1 == 0) = false := beq_eq_false_iff_ne.mpr c3
    have c3b1 : (a1 != 0) = true := bne_iff_ne.mpr c3
    by_cases c4 : 0 ≤ (l0.length : Int)
    · rw [if_pos c4] at H
      have c4b0 := eq_true c4
      have c4b1 : decide (0 ≤ (l0.length : Int)) = true := decide_eq_true c4
      clear c4
      by_cases c5 : ((l0.length : Int) : Int).toNat ≤ 70368744177664
      · rw [if_pos c5] at H
        have c5b0 := eq_true c5
        have c5b1 : decide (((l0.length : Int) : Int).toNat ≤ 70368744177664) = true := decide_eq_true c5
        clear c5
        obtain ⟨y438, hy438⟩ : ∃ y_ : List Int, y_ = (List.replicate ((l0.length : Int) : Int).toNat 0) := ⟨_, rfl⟩
        replace H : (div_Small.l0 k l0 a1 y438 0 (wrap64 ((l0.length : Int) - 1))) = some (r1, r2, r3) := by first | (rw [hy438]; with_reducible exact H) | (have H2_ := (Option.bind_some _ _).symm.trans H; rw [hy438]; with_reducible exact H2_) | (have H2_ := (Option.bind_some _ _).symm.trans H; with_reducible exact H2_) | with_reducible exact H | (rw [hy438]; exact H) | exact H
        have Ny438 := Aside0.mk hy438
        clear hy438
        have H' := Aside0.mk H
        clear H
        go_enter Tryd.func72, Tryd.ntmps72
        go_wp2_with (first | ((with_reducible refine gate_dst (N := 13) rfl ?_); refine Kd.R_make (Kd.int .u32) _ 48 rfl (N := 13) rfl 39 _ _ rfl (l0.length : Int) rfl rfl Tryd.underlying39 (.int .u32 0) 4 info48 rfl (by decide) (by omega) 0 (ok := fun _ => True) (okp := fun _ => True) rfl (fun _ hk => hk) trivial (of_decide_eq_true (by first | (with_reducible assumption) | assumption)) (Nat.le_trans (Nat.mul_le_mul_right _ (of_decide_eq_true (by first | (with_reducible assumption) | assumption) : (l0.length : Int).toNat ≤ 70368744177664)) (by omega)) (Below.refl _ _) (Nat.le_refl _) ?_; intro v439 w6 ho7 hb hg_ hnew_; clear hg_ hnew_; (first | rw [← Ny438.out] at ho7 | (simp only [Int.reduceToNat] at ho7; rw [← Ny438.out] at ho7)); have n0_ := Aside0.mk (Kd.R_lower ho7 (below_size (by repeat (first | (with_reducible first | exact HB.out | apply below_alloc | apply pw_below_drewN | apply below_drew1) | exact HB.out)))); have n1_ := Aside0.mk (below_step (by repeat (first | (with_reducible first | exact HB.out | apply below_alloc | apply pw_below_drewN | apply below_drew1) | exact HB.out)) hb); clear HB; have HO440 := n0_; have HB := n1_; clear n0_ n1_; clear hb ho7))
        go_loopg [7, 8] k (fun kq v7 v8 w' => ∃ (x4_1 : List Int) (x7_1 : Int) (x8_1 : Int), v7 = .int .u64 x7_1 ∧ v8 = .int .i64 x8_1 ∧ Aside0 (div_Small.l0 kq l0 a1 x4_1 x7_1 x8_1 = some (r1, r2, r3)) ∧ Aside0 (kq ≤ k) ∧ Aside0 (Kd.R (Kd.int .u32) 48 w' w.heap.size (fun _ => True) v439 x4_1) ∧ Aside0 (Below w.heap.size w w'))
        case atStart => exact ⟨(y438), (0), (wrap64 ((l0.length : Int) - 1)), (by first | rfl | (simp; done) | (simp [*]; done) | (simp [*, Fig.bne_nil]; done)), (by first | rfl | (simp; done) | (simp [*]; done) | (simp [*, Fig.bne_nil]; done)), H', ⟨Nat.le_refl _⟩, ⟨by (with_reducible repeat (first | apply Kd.R_alloc | apply Kd.R_drewN | apply Kd.R_drew)); exact HO440.out⟩, ⟨by repeat (first | (with_reducible first | exact HB.out | apply below_alloc | apply pw_below_drewN | apply below_drew1) | exact HB.out)⟩⟩
        case round =>
          clear H'
          try clear p2
          try clear c3
          try clear c3b0
          try clear c3b1
          try clear c4
          try clear c4b0
          try clear c4b1
          try clear c5
          try clear c5b0
          try clear c5b1
          try clear p6
          try clear c7
          obtain ⟨x4_1, x7_1, x8_1, rfl, rfl, HA, HK1, HO_4, HB⟩ := hrel
          cases gk with
          | zero => exact absurd HA.out (by simp [div_Small.l0])
          | succ k1 =>
            have H := HA.out
            clear HA
            simp only [div_Small.l0] at H
            by_cases c8 : x8_1 ≥ 0
            · rw [if_pos c8] at H
              have c8b0 : decide (0 ≤ x8_1) = true := decide_eq_true c8
              clear c8
              by_cases c9 : 0 ≤ x8_1
              · rw [if_pos c9] at H
                have c9b0 : decide (0 ≤ x8_1) = true := decide_eq_true c9
                clear c9
                by_cases c10 : x8_1 < (l0.length : Int)
                · rw [if_pos c10] at H
                  have c10b0 : decide (x8_1 < (l0.length : Int)) = true := decide_eq_true c10
                  clear c10
                  by_cases c11 : (IntKind.u64.wrap (a1)) = 0
                  · rw [if_pos c11] at H
                    exact absurd H (by simp)
                  · rw [if_neg c11] at H
                    have c11b0 : ((IntKind.u64.wrap (a1)) == 0) = false := beq_eq_false_iff_ne.mpr c11
                    have c11b1 : ((IntKind.u64.wrap (a1)) != 0) = true := bne_iff_ne.mpr c11
                    by_cases c12 : x8_1 < (x4_1.length : Int)
                    · rw [if_pos c12] at H
                      have c12b0 : decide (x8_1 < (x4_1.length : Int)) = true := decide_eq_true c12
                      clear c12
                      obtain ⟨y442, hy442⟩ : ∃ y_ : List Int, y_ = (x4_1.set (x8_1 : Int).toNat ((IntKind.u64.wrap (Int.tdiv (IntKind.u64.wrap ((IntKind.u64.wrap (x7_1 * 1000000000)) + (IntKind.u64.wrap (rd l0 x8_1)))) (IntKind.u64.wrap (a1)))) % 4294967296)) := ⟨_, rfl⟩
                      replace H : (div_Small.l0 k1 l0 a1 y442 (Int.tmod (IntKind.u64.wrap ((IntKind.u64.wrap (x7_1 * 1000000000)) + (IntKind.u64.wrap (rd l0 x8_1)))) (IntKind.u64.wrap (a1))) (wrap64 (x8_1 - 1))) = some (r1, r2, r3) := by first | (rw [hy442]; with_reducible exact H) | (have H2_ := (Option.bind_some _ _).symm.trans H; rw [hy442]; with_reducible exact H2_) | (have H2_ := (Option.bind_some _ _).symm.trans H; with_reducible exact H2_) | with_reducible exact H | (rw [hy442]; exact H) | exact H
                      have Ny442 := Aside0.mk hy442
                      clear hy442
                      have H' := Aside0.mk H
                      clear H
                      have p441 : 0 ≤ (x8_1 : Int) := of_decide_eq_true (by first | (with_reducible assumption) | assumption)
                      have q441 : x8_1 < (l0.length : Int) := of_decide_eq_true (by first | (with_reducible assumption) | assumption)
                      obtain ⟨ad441, e441, hx441_0⟩ := Kd.at_int HR0.out x8_1 p441 q441
                      cases e441
                      replace hx441_0 := (HB.out.cell (World.block_lt_of_cell? w _ hx441_0)).trans hx441_0
                      replace p441 := eq_true p441
                      replace q441 := eq_true q441
                      have p13 : 0 ≤ (x8_1 : Int) := of_decide_eq_true (by first | (with_reducible assumption) | assumption)
                      have q13 : (x8_1 : Int) < ((x4_1.length : Int) : Int) := of_decide_eq_true (by first | (with_reducible assumption) | assumption)
                      obtain ⟨go13, co13, eo13, gb13, gl13, cl13, HG13⟩ := Kd.R_form HO_4.out (by omega)
                      (first | cases eo13 | (injection eo13 with ea_ en_ ec_; (first | subst ea_ | (injection ea_ with ea_; subst ea_)); subst ec_; clear en_))
                      have GB13 := Aside0.mk gb13
                      have GG13 := Aside0.mk HG13
                      clear gb13 gl13 HG13
                      obtain ⟨hx13_0, hf13_0⟩ := Kd.R_celln 0 HO_4.out (x8_1 : Int) p13 q13
                      replace p13 := eq_true p13
                      replace q13 := eq_true q13
                      have HP14 := Kd.R_putg HO_4.out (x8_1 : Int) ((IntKind.u64.wrap (Int.tdiv (IntKind.u64.wrap ((IntKind.u64.wrap (x7_1 * 1000000000)) + (IntKind.u64.wrap (rd l0 x8_1)))) (IntKind.u64.wrap (a1)))) % 4294967296)
                      go_wp2_with (first | ((with_reducible refine gate_store (t := 48) (p := 36) rfl ?_); refine store_event (t := 48) (p := 36) (v := ?vo_w15) (w1 := (wr.setCell ⟨go13, (x8_1 : Int).toNat, none⟩ (.int .u32 ((IntKind.u64.wrap (Int.tdiv (IntKind.u64.wrap ((IntKind.u64.wrap (x7_1 * 1000000000)) + (IntKind.u64.wrap (rd l0 x8_1)))) (IntKind.u64.wrap (a1)))) % 4294967296)))) ?hg ?ho ?hn ?hr ?_; (case ho => rfl); (case hg => rfl); (case hn => rfl); (case hr => first | (go_simp; done) | (go_simp; rfl)); intro w15 hw; have hg : wr.grownBy w15 (some go13) := (by rw [hw]; exact HP14.2); have hp_ : Kd.R (Kd.int .u32) 48 w15 w.heap.size (fun _ => True) (.slice (some ⟨go13, 0, none⟩) x4_1.length co13) y442 := (by rw [hw, Ny442.out]; exact HP14.1); clear HP14; have n0_ := Aside0.mk (hp_); have n1_ := Aside0.mk ((by rw [hw]; exact below_set (HB.out) GB13.out : Below w.heap.size w w15)); clear HO_4; clear HB; have HO_4 := n0_; have HB := n1_; clear n0_ n1_; clear hg hw hp_))
                      go_roundg k1
                      case measure => have := HK1.out; omega
                      case rel => exact ⟨(y442), (Int.tmod (IntKind.u64.wrap ((IntKind.u64.wrap (x7_1 * 1000000000)) + (IntKind.u64.wrap (rd l0 x8_1)))) (IntKind.u64.wrap (a1))), (wrap64 (x8_1 - 1)), (by first | rfl | (simp; done) | (simp [*]; done) | (simp [*, Fig.bne_nil]; done)), (by first | rfl | (simp; done) | (simp [*]; done) | (simp [*, Fig.bne_nil]; done)), H', ⟨by have := HK1.out; omega⟩, ⟨by (with_reducible repeat (first | apply Kd.R_alloc | apply Kd.R_drewN | apply Kd.R_drew)); exact HO_4.out⟩, ⟨by repeat (first | (with_reducible first | exact HB.out | apply below_alloc | apply pw_below_drewN | apply below_drew1) | exact HB.out)⟩⟩
                    · rw [if_neg c12] at H
                      exact absurd H (by simp)
                · rw [if_neg c10] at H
                  exact absurd H (by simp)
              · rw [if_neg c9] at H
                exact absurd H (by simp)
            · rw [if_neg c8] at H
              have c8b0 : decide (0 ≤ x8_1) = false := decide_eq_false c8
              clear c8
              replace H := Option.bind_eq_some_iff.mp H
              obtain ⟨t443, A160, H⟩ := H
              replace H : (some (t443, (x7_1) % 4294967296, true)) = some (r1, r2, r3) := H
              have A16 := Aside0.mk A160
              clear A160
              simp only [Option.some.injEq, Prod.mk.injEq] at H
              obtain ⟨rfl, rfl, rfl⟩ := H
              obtain ⟨Ao17, co17, eo17⟩ := Kd.R_slice HO_4.out
              subst eo17
              go_wp2_with (first | ((with_reducible refine gate_callee (f := 44) rfl ?_); refine goesL_ (some 42) rfl rfl Tryd.func44 (by kernel_rfl) rfl #[.slice Ao17 x4_1.length co17] rfl (by (try simp only [List.map_toArray]); (try simp only [List.map_cons]); (try simp only [List.map_nil]); first | done | rfl | (simp only [List.length_drop, List.length_take]; rfl)) ?_; (with_reducible refine (nat_Trim.calls _ _ x4_1 t443 _ ?side1 ?side2 A16.out).mono ?_); (case side1 => repeat (first | exact (Kd.R_reads' HO_4.out).2.2 | (with_reducible refine Kd.C_alloc ?_ _) | (with_reducible refine Kd.C_drewN ?_ _) | (with_reducible refine Kd.C_drew ?_))); (case side2 => exact (Kd.R_reads' HO_4.out).2.1); rintro e w18 ⟨v444, rfl, ho0, hb⟩; refine ⟨_, rfl, ?_⟩; have n0_ := Aside0.mk (Kd.R_elder' (by (with_reducible repeat (first | apply Kd.R_alloc | apply Kd.R_drewN | apply Kd.R_drew)); exact HO_4.out) (Kd.R_base ho0) hb); have n1_ := Aside0.mk (Kd.R_lower (Kd.R_new' ho0 (Kd.R_lt (by (with_reducible repeat (first | apply Kd.R_alloc | apply Kd.R_drewN | apply Kd.R_drew)); exact HO_4.out))) (below_size (by repeat (first | (with_reducible first | exact HB.out | apply below_alloc | apply pw_below_drewN | apply below_drew1) | exact HB.out)))); have n2_ := Aside0.mk (below_step (by repeat (first | (with_reducible first | exact HB.out | apply below_alloc | apply pw_below_drewN | apply below_drew1) | exact HB.out)) hb); clear HO_4; clear HB; have HO_4 := n0_; have HO445 := n1_; have HB := n2_; clear n0_ n1_ n2_; (try clear hb); (try clear hb2); (try clear hk); (try clear hi); (try clear ho0)))
              go_ret3
              exact ⟨_, by first | rfl | (simp [errW_none, errW_some] <;> rfl) | (simp [*, errW_none, errW_some] <;> rfl), by (with_reducible repeat (first | apply Kd.R_alloc | apply Kd.R_drewN | apply Kd.R_drew)); exact Kd.R_mono HO445.out (fun _ hk => trivial), by repeat (first | (with_reducible first | exact HB.out | apply below_alloc | apply pw_below_drewN | apply below_drew1) | exact HB.out)⟩
      · rw [if_neg c5] at H
        exact absurd H (by simp)
    · rw [if_neg c4] at H
      exact absurd H (by simp)
end Go.Proofs.YtekkpmoppihlaaaDoor.Px
end
section
namespace Go.Proofs.YtekkpmoppihlaaaDoor.Px
open Fig Go.RowKit Go.Proofs.YtekkpmoppihlaaaDoorW.PrintWords Go.Proofs.YtekkpmoppihlaaaDoorW.PrintLast Go.Proofs.YtekkpmoppihlaaaDoorW.PrintMore
attribute [local go_sem] max2_int min2_int max_two min_two max_three min_three max_four min_four   -- for this text's walks alone
attribute [local go_sem] fieldA23_0 fieldA23_1 fieldA23_2
theorem cast_bd {x : Nat} (h : x < 1000000000) : (0 : Int) ≤ (x : Int) ∧ (x : Int) < 1000000000 := by omega
theorem drop_set_self : ∀ (q : List Int) (n : Nat) (v : Int), n < q.length → (q.set n v).drop n = v :: q.drop (n + 1)
  | x :: q, 0, v, h => rfl
  | x :: q, n + 1, v, h => by simpa using drop_set_self q n v (by simpa using h)
end Go.Proofs.YtekkpmoppihlaaaDoor.Px
end
section
namespace Go.Proofs.YtekkpmoppihlaaaDoor.Px
open Fig Go.RowKit Go.Proofs.YtekkpmoppihlaaaDoorW.PrintWords Go.Proofs.YtekkpmoppihlaaaDoorW.PrintLast Go.Proofs.YtekkpmoppihlaaaDoorW.PrintMore
attribute [local go_sem] max2_int min2_int max_two min_two max_three min_three max_four min_four   -- for this text's walks alone
attribute [local go_sem] fieldA23_0 fieldA23_1 fieldA23_2
theorem divm_val (A V y p r X Q R : Nat) (h : X * y + r = V) (hq : Q = (p + 1000000000 * r) / y) (hr : R = (p + 1000000000 * r) % y) : (Q + 1000000000 * X) * y + R = p + 1000000000 * V := by
  have := Nat.div_add_mod (p + 1000000000 * r) y
  rw [← hq, ← hr] at this
  rw [Nat.add_mul, Nat.mul_assoc, Nat.mul_comm _ y, ← h, Nat.mul_add]; omega
theorem DivMod_loop (a b : List Int) (ga : goodL a = true) (gb : goodL b = true) (la : a.length ≤ 1000000) (lb : b.length ≤ 1000000) (hb : 0 < valL b) : ∀ (n : Nat) (q r : List Int), n ≤ a.length → q.length = a.length → goodL q = true → goodL r = true → r.length ≤ 1000000 → valL r < valL b → valL (q.drop n) * valL b + valL r = valL (a.drop n) →
    Ev (fun k => div_DivMod.l0 k a b q r ((n : Int) - 1)) (limbs (valL a / valL b), limbs (valL a % valL b), true)
  | 0, q, r, hn, hq, gq, gr, lr, hr, hv => by
    rw [List.drop_zero, List.drop_zero] at hv
    have e1 : valL q = valL a / valL b := by rw [← hv, Nat.mul_comm, Nat.mul_add_div hb, Nat.div_eq_of_lt hr]; rfl
    have e2 : valL r = valL a % valL b := by rw [← hv, Nat.mul_comm, Nat.mul_add_mod, Nat.mod_eq_of_lt hr]
    refine evIs (Ev.step (f := fun _ => (nat_Trim.f q).bind fun t => (nat_Trim.f r).bind fun t2 => some (t, t2, true)) (fun k => ?_) (Ev.bind (evSome fun _ => trimF_eq gq (by omega)) (Ev.bind (evSome fun _ => trimF_eq gr (by omega)) (Ev.now _)))) ?_
    · simp only [div_DivMod.l0]; rw [if_neg (by omega)]
    · rw [e1, e2]
  | n + 1, q, r, hn, hq, gq, gr, lr, hr, hv => by
    have hna : n < a.length := by omega
    have hnq : n < q.length := by omega
    have pa := goodL_iff.1 ga _ (List.getElem_mem hna)
    obtain ⟨p, hp⟩ : ∃ v : Nat, a[n] = (v : Int) := ⟨a[n].toNat, by omega⟩
    have hp9 : p < 1000000000 := by omega
    have gpr : goodL ([(p : Int)] ++ r) = true := goodL_append.2 ⟨goodL_cons.2 ⟨by omega, rfl⟩, gr⟩
    have vpr : valL ([(p : Int)] ++ r) = p + 1000000000 * valL r := by simp [valL]
    have hlt : p + 1000000000 * valL r < 1000000000 * valL b := by omega
    have hqb : (p + 1000000000 * valL r) / valL b < 1000000000 := by rw [Nat.div_lt_iff_lt_mul hb]; exact hlt
    have hmod := Nat.mod_lt (p + 1000000000 * valL r) hb
    have lt2 : (limbs (p + 1000000000 * valL r)).length ≤ 1000001 := by
      rw [← vpr]
      exact Nat.le_trans (limbs_len_le (valL_lt gpr)) (by simp; omega)
    have lm : (limbs ((p + 1000000000 * valL r) % valL b)).length ≤ 1000000 := by
      have := valL_lt gb
      exact limbs_pow9 (Nat.lt_trans hmod this) lb
    have ex : (((n + 1 : Nat) : Int) - 1) = (n : Int) := by omega
    refine Ev.step (f := fun k => (nat_Trim.f ([(p : Int)] ++ r)).bind fun t => (div_guess.f k t b).bind fun t2 => div_DivMod.l0 k a b (q.set n t2.1) t2.2 ((n : Int) - 1)) (fun k => ?_) (Ev.bind (evSome fun _ => trimF_eq gpr (by simp; omega)) ?_)
    · simp only [ex, div_DivMod.l0, Option.bind_some]
      rw [if_pos (by omega), if_pos (by omega), if_pos (by omega), rd_get hna, hp, if_pos (by simp; omega)]
      have c1 : (n : Int) < (q.length : Int) := by omega
      simp only [c1, if_true, Int.toNat_natCast, w64 (x := (n : Int) - 1) (by omega) (by omega)]
    · rw [vpr]
      refine Ev.bind (guess_ev (limbs_good _) gb (by omega) lb (by rw [limbs_val]; exact hlt)) ?_
      rw [limbs_val]
      refine DivMod_loop a b ga gb la lb hb n _ _ (by omega) (by simpa using hq) (goodL_set gq n (cast_bd hqb)) (limbs_good _) lm (by rw [limbs_val]; exact hmod) ?_
      rw [limbs_val, drop_set_self q n _ hnq, List.drop_eq_getElem_cons hna, hp]
      exact divm_val 0 _ _ p _ _ _ _ hv rfl rfl
theorem DivMod_ev {a b : List Int} (ga : goodL a = true) (gb : goodL b = true) (la : a.length ≤ 1000000) (lb : b.length ≤ 1000000) (hb : 0 < valL b) : Ev (fun k => div_DivMod.f k a b) (limbs (valL a / valL b), limbs (valL a % valL b), true) := by
  unfold div_DivMod.f
  refine Ev.bind (evSome fun _ => trimF_eq gb (by omega)) ?_
  have lb2 : (limbs (valL b)).length ≤ 1000000 := Nat.le_trans (limbs_len_le (valL_lt gb)) lb
  have h0 : ¬ ((limbs (valL b)).length : Int) = 0 := by
    intro h
    have : limbs (valL b) = [] := List.eq_nil_of_length_eq_zero (by omega)
    have := limbs_nil_iff.1 this; omega
  have h1 : (0 : Int) ≤ (a.length : Int) := by omega
  have h2 : a.length ≤ 70368744177664 := by omega
  simp only [h0, h1, if_true, if_false, Int.toNat_natCast, h2]
  rw [w64 (by omega) (by omega)]
  have := DivMod_loop a (limbs (valL b)) ga (limbs_good _) la lb2 (by rw [limbs_val]; exact hb) a.length (List.replicate a.length 0) [] (Nat.le_refl _) (by simp) (goodL_replicate _) rfl (by simp) (by rw [limbs_val]; exact hb) (by
    rw [List.drop_of_length_le (by simp), List.drop_of_length_le (Nat.le_refl _)]; simp [valL])
  rwa [limbs_val] at this
end Go.Proofs.YtekkpmoppihlaaaDoor.Px
end
section
namespace Go.Proofs.YtekkpmoppihlaaaDoor.Px
open Fig Go.RowKit Go.Proofs.YtekkpmoppihlaaaDoorW.PrintWords Go.Proofs.YtekkpmoppihlaaaDoorW.PrintLast Go.Proofs.YtekkpmoppihlaaaDoorW.PrintMore
attribute [local go_sem] max2_int min2_int max_two min_two max_three min_three max_four min_four   -- for this text's walks alone
attribute [local go_sem] fieldA23_0 fieldA23_1 fieldA23_2
theorem numP {s : ByteArray} (h : dB s = true) (hne : s.size ≠ 0) (hs : s.size ≤ 140737488351232) : ten_Number.f s = some (limbs (vB s), true) := by
  unfold ten_Number.f; rw [if_pos hs, if_pos ⟨h, hne⟩]
end Go.Proofs.YtekkpmoppihlaaaDoor.Px
end
section
namespace Go.Proofs.YtekkpmoppihlaaaDoor.Px
open Fig Go.RowKit Go.Proofs.YtekkpmoppihlaaaDoorW.PrintWords Go.Proofs.YtekkpmoppihlaaaDoorW.PrintLast Go.Proofs.YtekkpmoppihlaaaDoorW.PrintMore
attribute [local go_sem] max2_int min2_int max_two min_two max_three min_three max_four min_four   -- for this text's walks alone
attribute [local go_sem] fieldA23_0 fieldA23_1 fieldA23_2
theorem coefP {b : Bool} {s : ByteArray} {e : Int} (h : OkD s e) : dec_Coef.f b s e = some (limbs (vB s)) := by
  have := h.sz
  unfold dec_Coef.f; rw [numP h.d h.ne (by omega)]; rfl
theorem coef_len {s : ByteArray} {e : Int} (h : OkD s e) : (limbs (vB s)).length ≤ 100000 := by
  have := limbs_len_digB (vB s)
  have := h.val
  have := h.sz
  omega
theorem shiftP {l : List Int} {n : Int} (g : goodL l = true) (hl : l.length ≤ 500000) (hn : n ≤ 1000000) : ten_Shift.f l n = some (limbs (valL l * 10 ^ n.toNat)) := by unfold ten_Shift.f; rw [if_pos ⟨g, hl, hn⟩]
end Go.Proofs.YtekkpmoppihlaaaDoor.Px
end
section
namespace Go.Proofs.YtekkpmoppihlaaaDoor.Px
open Fig Go.RowKit Go.Proofs.YtekkpmoppihlaaaDoorW.PrintWords Go.Proofs.YtekkpmoppihlaaaDoorW.PrintLast Go.Proofs.YtekkpmoppihlaaaDoorW.PrintMore
attribute [local go_sem] max2_int min2_int max_two min_two max_three min_three max_four min_four   -- for this text's walks alone
attribute [local go_sem] fieldA23_0 fieldA23_1 fieldA23_2
theorem w_add (e : Int) (p : Nat) (h1 : -1000000 ≤ e) (h2 : e ≤ 1000000) (hp : p ≤ 1000000) : wrap64 (e + (p : Int)) = e + (p : Int) := w64 (by omega) (by omega)
theorem w_norm (e : Int) (p q : Nat) (h1 : -1000000 ≤ e) (h2 : e ≤ 1000000) (hp : p ≤ 1000000) (hq : q ≤ 1000000) : wrap64 (wrap64 (e + (p : Int)) - (q : Int)) = e + (p : Int) - (q : Int) := by rw [w_add e p h1 h2 hp, w64 (by omega) (by omega)]
theorem normP {b : Bool} {s : ByteArray} {e : Int} (h : OkD s e) : dec_Norm.f b s e = some (b, nD (vB s), nE (vB s) e) := by
  have hz := h.val
  have h1 := h.sz
  have h2 := h.lo
  have h3 := h.hi
  unfold dec_Norm.f
  rw [show strings_TrimLeft.f s (⟨#[48]⟩ : ByteArray) = some (digB (vB s)) by unfold strings_TrimLeft.f; rw [if_pos rfl, stripB_eq h.d]]
  simp only [Option.bind_some]
  by_cases h0 : vB s = 0
  · rw [if_pos (digB_toList_nil.2 h0), h0]; rfl
  · rw [if_neg (fun hh => h0 (digB_toList_nil.1 hh))]
    have hl := digB_len_core h0
    have ht : strings_TrimRight.f (digB (vB s)) (⟨#[48]⟩ : ByteArray) = some (digB (core (vB s))) := by
      unfold strings_TrimRight.f
      rw [if_pos ⟨rfl, by omega⟩]
      show some (⟨(Lib.trimRightB (digs (vB s)) 48).toArray⟩ : ByteArray) = _
      unfold Lib.trimRightB; rw [trimR_digs h0]; rfl
    rw [ht]
    simp only [Option.bind_some]
    rw [w_norm e _ _ (by omega) (by omega) (by omega) (by omega)]
    unfold nD nE
    rw [if_neg h0, if_neg h0, show e + ((digB (vB s)).size : Int) - ((digB (core (vB s))).size : Int) = e + (tz (vB s) : Int) by omega]
end Go.Proofs.YtekkpmoppihlaaaDoor.Px
end
section
namespace Go.Proofs.YtekkpmoppihlaaaDoor.Px
open Fig Go.RowKit Go.Proofs.YtekkpmoppihlaaaDoorW.PrintWords Go.Proofs.YtekkpmoppihlaaaDoorW.PrintLast Go.Proofs.YtekkpmoppihlaaaDoorW.PrintMore
attribute [local go_sem] max2_int min2_int max_two min_two max_three min_three max_four min_four   -- for this text's walks alone
attribute [local go_sem] fieldA23_0 fieldA23_1 fieldA23_2
theorem away_up (m : Int) (neg odd : Bool) (half : Int) : mode_Away.f m neg odd half = some (upB m neg odd half) := rfl
end Go.Proofs.YtekkpmoppihlaaaDoor.Px
end
section
namespace Go.Proofs.YtekkpmoppihlaaaDoor.Px
open Fig Go.RowKit Go.Proofs.YtekkpmoppihlaaaDoorW.PrintWords Go.Proofs.YtekkpmoppihlaaaDoorW.PrintLast Go.Proofs.YtekkpmoppihlaaaDoorW.PrintMore
attribute [local go_sem] max2_int min2_int max_two min_two max_three min_three max_four min_four   -- for this text's walks alone
attribute [local go_sem] fieldA23_0 fieldA23_1 fieldA23_2
theorem Mul_loop (a b : List Int) (ga : goodL a = true) (gb : goodL b = true) (la : a.length ≤ 1000000) (lb : b.length ≤ 1000000) : ∀ (d n : Nat) (x : List Int), b.length - n = d → n ≤ b.length → goodL x = true → x.length = a.length + b.length + 1 → valL x = valL a * valL (b.take n) →
    Ev (fun k => mul_Mul.l0 k a x b (b.length : Int) (n : Int)) (limbs (valL a * valL b))
  | 0, n, x, h1, h2, gx, hx, hv => by
    refine evDone (r' := limbs (valL x)) (fun k => ?_) ?_
    · simp only [mul_Mul.l0, nat_Trim.f]; rw [if_neg (by omega), trimF_eq gx (by omega)]; rfl
    · rw [hv, List.take_of_length_le (by omega)]
  | d + 1, n, x, h1, h2, gx, hx, hv => by
    have hnb : n < b.length := by omega
    have pb := goodL_iff.1 gb _ (List.getElem_mem hnb)
    obtain ⟨y, hy⟩ : ∃ v : Nat, b[n] = (v : Int) := ⟨b[n].toNat, by omega⟩
    have e : valL (b.take (n + 1)) = valL (b.take n) + 1000000000 ^ n * y := by
      rw [List.take_succ_eq_append_getElem hnb, valL_snoc, hy, Int.toNat_natCast, List.length_take, Nat.min_eq_left (by omega)]
    have key : valL x + 1000000000 ^ n * (valL a * y) = valL a * valL (b.take (n + 1)) := by
      rw [hv, e, Nat.mul_add, Nat.mul_left_comm (1000000000 ^ n)]
    have hlt : valL x + 1000000000 ^ n * (valL a * y) < 1000000000 ^ x.length := by
      rw [key, hx]
      have va := valL_lt ga
      have vb := valL_lt (goodL_take gb (n + 1))
      have h3 := Nat.mul_lt_mul'' va vb
      rw [← Nat.pow_add] at h3
      exact Nat.lt_of_lt_of_le h3 (Nat.pow_le_pow_right (by omega) (by rw [List.length_take]; omega))
    obtain ⟨r, hr, g1, g2, g3⟩ := row_ev (p := n) gx ga (show y < 1000000000 by omega) (by omega) (by omega) hlt
    refine Ev.step (f := fun k => (mul_row.f k x a (y : Int) (n : Int)).bind fun t => mul_Mul.l0 k a t b (b.length : Int) ((n + 1 : Nat) : Int)) (fun k => ?_) (Ev.bind hr (Mul_loop a b ga gb la lb d (n + 1) r (by omega) (by omega) g1 (by omega) (by rw [g3, key])))
    simp only [mul_Mul.l0]; rw [if_pos (by omega), if_pos (by omega), if_pos (by omega), rd_get hnb, hy, succ64 _ (by omega)]
theorem Mul_ev {a b : List Int} (ga : goodL a = true) (gb : goodL b = true) (la : a.length ≤ 1000000) (lb : b.length ≤ 1000000) : Ev (fun k => mul_Mul.f k a b) (limbs (valL a * valL b)) := by
  unfold mul_Mul.f
  rw [times_len _ _ la lb]
  have c1 : (0 : Int) ≤ ((a.length + b.length + 1 : Nat) : Int) := by omega
  have c2 : a.length + b.length + 1 ≤ 70368744177664 := by omega
  simp only [Int.toNat_natCast, c1, c2, if_true]
  exact Mul_loop a b ga gb la lb b.length 0 _ rfl (by omega) (goodL_replicate _) (by simp) (by rw [valL_replicate]; simp [valL])
end Go.Proofs.YtekkpmoppihlaaaDoor.Px
end
section
namespace Go.Proofs.YtekkpmoppihlaaaDoor.Px
open Fig Go.RowKit Go.Proofs.YtekkpmoppihlaaaDoorW.PrintWords Go.Proofs.YtekkpmoppihlaaaDoorW.PrintLast Go.Proofs.YtekkpmoppihlaaaDoorW.PrintMore
attribute [local go_sem] max2_int min2_int max_two min_two max_three min_three max_four min_four   -- for this text's walks alone
attribute [local go_sem] fieldA23_0 fieldA23_1 fieldA23_2
theorem mnP (a b : Int) : mn a b = min b a := by unfold mn; split <;> omega
theorem inc_head {q : Nat} (h : q ≠ 0) : (limbs q).length > 0 ∧ rd (limbs q) 0 = ((q % 1000000000 : Nat) : Int) := by
  have hv := limbs_val q
  have hg := limbs_good q
  rcases hl : limbs q with _ | ⟨x, l⟩
  · exact absurd (limbs_nil_iff.1 hl) h
  · rw [hl] at hv hg
    obtain ⟨hx, _⟩ := goodL_cons.1 hg
    simp only [valL] at hv
    refine ⟨by simp, ?_⟩
    show x = _
    omega
theorem inc_zeroB (v : Nat) : dB (zeroB v) = true ∧ (zeroB v).size ≠ 0 ∧ vB (zeroB v) = v := by
  unfold zeroB
  by_cases h : v = 0
  · rw [if_pos h, h]; exact ⟨rfl, by decide, rfl⟩
  · rw [if_neg h]; exact ⟨dB_digB v, fun e => h (digB_empty_iff.1 e), vB_digB v⟩
theorem inc_zeroB_size {v k : Nat} (h : (digB v).size ≤ k) (hk : 1 ≤ k) : (zeroB v).size ≤ k := by
  unfold zeroB
  by_cases h0 : v = 0
  · rw [if_pos h0]; exact hk
  · rw [if_neg h0]; exact h
theorem inc_digits {v k : Nat} (h : (digB v).size ≤ k) (hk : k ≤ 1000000) : ten_Digits.f (limbs v) = some (zeroB v) := by
  have := limbs_len_digB v
  unfold ten_Digits.f; rw [if_pos ⟨limbs_good v, by omega⟩, limbs_val]
theorem inc_end {b : Bool} {v : Nat} {p : Int} (hz : (digB v).size ≤ 100000) (h1 : -100000 ≤ p) (h2 : p ≤ 100000) : ((ten_Digits.f (limbs v)).bind fun t => (dec_Norm.f b t p).bind fun u => some (u.1, u.2.1, u.2.2, (0 : Int))) = some (b, nD v, nE v p, 0) := by
  obtain ⟨d1, d2, d3⟩ := inc_zeroB v
  have d4 := inc_zeroB_size (k := 100000) hz (by decide)
  rw [inc_digits hz (by decide)]
  simp only [Option.bind_some]
  rw [normP ⟨d1, d2, by omega, h1, h2⟩, d3]; rfl
theorem inc_add {q : Nat} (h : (digB q).size ≤ 1000000) : nat_Add.f (limbs q) ([1] : List Int) = some (limbs (q + 1)) := by
  have hl := limbs_len_digB q
  have h1 : ([1] : List Int).length ≤ 1000000000000 := by show 1 ≤ 1000000000000; omega
  have := addF_eq (limbs_good q) (b := [1]) (by decide) (by omega) h1
  rwa [limbs_val, show valL [1] = 1 from rfl] at this
theorem inc_j1 {b : Bool} {s : ByteArray} {e E : Int} {q B : Nat} {u : Bool} (hz : (digB q).size ≤ 40000) (hB : (digB B).size ≤ 40000) (h1 : -100000 ≤ E) (h2 : E ≤ 100000) : Ev (fun k => inc_Round.j1 k (limbs B) E (limbs q) u b s e) (b, nD ((q + if u = true then 1 else 0) * B), nE ((q + if u = true then 1 else 0) * B) E, 0) := by
  have lB := limbs_len_digB B
  cases u
  · have lq := limbs_len_digB q
    have hm := digB_mul_le hz hB
    have := Mul_ev (limbs_good q) (limbs_good B) (by omega) (by omega)
    rw [limbs_val, limbs_val] at this
    refine Ev.step (fun k => by simp only [inc_Round.j1, Bool.false_eq_true, if_false]; rfl) (Ev.bind this (evSome fun _ => ?_))
    simp only [Bool.false_eq_true, if_false, Nat.add_zero]
    exact inc_end (by omega) h1 h2
  · have ha := inc_add (q := q) (by omega)
    have h3 := digB_add_le (m := q) (n := 1) (p := 40000) hz (by rw [digB_one_size]; omega)
    have lq := limbs_len_digB (q + 1)
    have hm := digB_mul_le h3 hB
    have := Mul_ev (limbs_good (q + 1)) (limbs_good B) (by omega) (by omega)
    rw [limbs_val, limbs_val] at this
    refine Ev.step (fun k => by simp only [inc_Round.j1, if_true]; rfl) (evE ha (Ev.bind this (evSome fun _ => ?_)))
    simp only [if_true]
    exact inc_end (by omega) h1 h2
theorem inc_err (m p : Int) (l : List Int) (b : Bool) (s : ByteArray) (e : Int) : Ev (fun k => inc_Round.j0 k m p l true b s e) (false, (⟨#[]⟩ : ByteArray), 0, 1) :=
  evDone (r' := (false, (⟨#[]⟩ : ByteArray), 0, 1)) (fun k => by simp only [inc_Round.j0, if_true]) rfl
theorem inc_j0 {m : Int} {b : Bool} {s : ByteArray} {e p : Int} {S : Nat} (h : OkS s e) (hS0 : S ≠ 0) (hS : (digB S).size ≤ 1000) (h1 : -10000 ≤ p) (h2 : p ≤ 10000) : Ev (fun k => inc_Round.j0 k m p (limbs S) false b s e) (roundD m b (vB s) e S p) := by
  have hv := h.ok.val
  have hz := h.sz
  have hlo := h.lo
  have hhi := h.hi
  have hc := coef_len h.ok
  have lS := limbs_len_digB S
  obtain ⟨E, hE⟩ : ∃ E, E = mn e p := ⟨_, rfl⟩
  have hE2 : E = min e p := by rw [hE, mnP]; omega
  have sB : ten_Shift.f (limbs S) (wrap64 (p - E)) = some (limbs (atE S p E)) := by
    rw [w64 (x := p - E) (by omega) (by omega), shiftP (limbs_good _) (by omega) (by omega), limbs_val]; rfl
  have sN : ten_Shift.f (limbs (vB s)) (wrap64 (e - E)) = some (limbs (atE (vB s) e E)) := by
    rw [w64 (x := e - E) (by omega) (by omega), shiftP (limbs_good _) (by omega) (by omega), limbs_val]; rfl
  have zB : (digB (atE S p E)).size ≤ 30000 := by
    unfold atE; rw [digB_len_pow hS0]; omega
  have zN := size_vZ b (n := vB s) (p := 10000) e E (by omega)
  rw [vZ_natAbs] at zN
  have hB0 := atE_pos hS0 p E
  refine Ev.step (fun k => by simp only [inc_Round.j0, Bool.false_eq_true, if_false, ← hE]; rfl) ?_
  refine evE sB (evE (coefP h.ok) (evE sN ?_))
  obtain ⟨N, hN⟩ : ∃ N, N = atE (vB s) e E := ⟨_, rfl⟩
  obtain ⟨B, hBB⟩ : ∃ B, B = atE S p E := ⟨_, rfl⟩
  rw [← hN, ← hBB]
  rw [← hN] at zN
  rw [← hBB] at zB hB0
  have zN2 : (digB N).size ≤ 30000 := by omega
  have zr := digB_mono (Nat.mod_le N B) zN2
  have zq := digB_mono (Nat.div_le_self N B) zN2
  have lN := limbs_len_digB N
  have lB := limbs_len_digB B
  have lr := limbs_len_digB (N % B)
  have z2 := digB_add_le zr zr
  have l2 := limbs_len_digB (N % B + N % B)
  have hd := DivMod_ev (limbs_good N) (limbs_good B) (by omega) (by omega) (by rw [limbs_val]; exact hB0)
  rw [limbs_val, limbs_val] at hd
  refine Ev.bind hd ?_
  dsimp only
  by_cases hf : N % B = 0
  · have hf2 : atE (vB s) e (min e p) % atE S p (min e p) = 0 := by rw [← hE2, ← hN, ← hBB]; exact hf
    rw [roundD_fit hf2]
    exact evT (by rw [hf, limbs_zero]; rfl) (evE (normP h.ok) (Ev.now _))
  have hf2 : ¬ atE (vB s) e (min e p) % atE S p (min e p) = 0 := by rw [← hE2, ← hN, ← hBB]; exact hf
  refine evF (fun hh => hf (limbs_nil_iff.1 (List.eq_nil_of_length_eq_zero (by omega)))) ?_
  by_cases h7 : m = 7
  · subst h7
    rw [roundD_exact hf2]
    exact evT rfl (Ev.now _)
  refine evF h7 ?_
  have ha : nat_Add.f (limbs (N % B)) (limbs (N % B)) = some (limbs (N % B + N % B)) := by
    have := addF_eq (limbs_good (N % B)) (limbs_good (N % B)) (by omega) (by omega)
    rwa [limbs_val] at this
  have hcm : nat_Cmp.f (limbs (N % B + N % B)) (limbs B) = some (cmpN (N % B + N % B) B) := by
    have := cmpF_eq (limbs_good (N % B + N % B)) (limbs_good B) (by omega) (by omega)
    rwa [limbs_val, limbs_val] at this
  have hres : roundD m b (vB s) e S p = (b, nD ((N / B + if upB m b (N / B % 2 == 1) (cmpN (N % B + N % B) B) = true then 1 else 0) * B), nE ((N / B + if upB m b (N / B % 2 == 1) (cmpN (N % B + N % B) B) = true then 1 else 0) * B) E, 0) := by
    rw [roundD_ok h7, ← hE2]
    unfold rv0
    rw [← hN, ← hBB]
    have hq : rq m b N B = N / B + if upB m b (N / B % 2 == 1) (cmpN (N % B + N % B) B) = true then 1 else 0 := by
      unfold rq; simp only [ne_eq, hf, not_false_eq_true, true_and]
    rw [hq]
  rw [hres]
  by_cases hq0 : N / B = 0
  · refine evF (by rw [hq0, limbs_zero]; decide) (evE ha (evE hcm (evE (away_up _ _ _ _) ?_)))
    have : (N / B % 2 == 1) = false := by rw [hq0]; rfl
    rw [this]
    exact inc_j1 (by omega) (by omega) (by omega) (by omega)
  · obtain ⟨g1, g2⟩ := inc_head hq0
    refine evT (by omega) (evT (by omega) (evE ha (evE hcm ?_)))
    have : (Int.tmod (rd (limbs (N / B)) 0) 2 == 1) = (N / B % 2 == 1) := by
      rw [g2, Int.tmod_eq_emod_of_nonneg (by omega), Bool.eq_iff_iff, beq_iff_eq, beq_iff_eq]; omega
    rw [this]
    refine evE (away_up _ _ _ _) ?_
    exact inc_j1 (by omega) (by omega) (by omega) (by omega)
theorem inc_num {st : ByteArray} (hst : st.size ≤ 140737488351232) : ten_Number.f st = some (if dB st = true ∧ st.size ≠ 0 then (limbs (vB st), true) else ([], false)) := by unfold ten_Number.f; rw [if_pos hst]
theorem incRound_bad {m : Int} {b : Bool} {s st : ByteArray} {e p : Int} (hst : st.size ≤ 140737488351232) (h : m < 0 ∨ 7 < m ∨ ¬ (dB st = true ∧ st.size ≠ 0) ∨ 40 < st.size ∨ vB st = 0) : Ev (fun k => inc_Round.f k m b s e st p) (false, (⟨#[]⟩ : ByteArray), 0, 1) := by
  unfold inc_Round.f
  refine evE (inc_num hst) (evE (modeP m) ?_)
  by_cases hg : 0 ≤ m ∧ m < 8
  · refine evT (decide_eq_true hg) ?_
    by_cases hd : dB st = true ∧ st.size ≠ 0
    · rw [if_pos hd]
      refine evT rfl ?_
      by_cases hz : (st.size : Int) > 40
      · exact evT hz (inc_err _ _ _ _ _ _)
      · refine evF hz ?_
        have hv : vB st = 0 := by
          rcases h with h | h | h | h | h
          · omega
          · omega
          · exact absurd hd h
          · omega
          · exact h
        have : (((limbs (vB st)).length : Int) == 0) = true := by rw [hv, limbs_zero]; rfl
        dsimp only
        rw [this]; exact inc_err _ _ _ _ _ _
    · rw [if_neg hd]
      exact evF (by decide) (inc_err _ _ _ _ _ _)
  · exact evF (by simpa using hg) (inc_err _ _ _ _ _ _)
theorem incRound_ev {m : Int} {b : Bool} {s st : ByteArray} {e p : Int} (hm : 0 ≤ m) (hm7 : m ≤ 7) (h : OkS s e) (hd : dB st = true) (hs0 : vB st ≠ 0) (hsz : st.size ≤ 40) (h1 : -10000 ≤ p) (h2 : p ≤ 10000) : Ev (fun k => inc_Round.f k m b s e st p) (roundD m b (vB s) e (vB st) p) := by
  have hn0 : st.size ≠ 0 := by
    intro h0
    rw [ByteArray.size_eq_zero_iff.1 h0] at hs0; exact hs0 rfl
  have hst := digs_size_lt (vB_lt hd)
  unfold inc_Round.f
  refine evE (inc_num (by omega)) (evE (modeP m) (evT (by simp; omega) ?_))
  rw [if_pos ⟨hd, hn0⟩]
  refine evT rfl (evF (by omega) ?_)
  have : (((limbs (vB st)).length : Int) == 0) = false := by
    rw [beq_eq_false_iff_ne]
    intro hh
    exact hs0 (limbs_nil_iff.1 (List.eq_nil_of_length_eq_zero (by omega)))
  dsimp only
  rw [this]
  exact inc_j0 h hs0 (by omega) h1 h2
end Go.Proofs.YtekkpmoppihlaaaDoor.Px
end
section
namespace Go.Proofs.YtekkpmoppihlaaaDoor.Px
open Fig Go.RowKit Go.Proofs.YtekkpmoppihlaaaDoorW.PrintWords Go.Proofs.YtekkpmoppihlaaaDoorW.PrintLast Go.Proofs.YtekkpmoppihlaaaDoorW.PrintMore
attribute [local go_sem] max2_int min2_int max_two min_two max_three min_three max_four min_four   -- for this text's walks alone
attribute [local go_sem] fieldA23_0 fieldA23_1 fieldA23_2
theorem nD_lit10 {n m k : Nat} {s : ByteArray} (h : n = m * 10 ^ k) (hm : m % 10 ≠ 0) (hd : dB s = true) (hv : vB s = m) (hs : stripB s = s) : nD n = s := by
  rw [h, nD_pow, nD_of hm, ← hv, ← stripB_eq hd, hs]
theorem nE_lit10 {n m k : Nat} {e : Int} (h : n = m * 10 ^ k) (hm : m % 10 ≠ 0) : nE n e = e + (k : Int) := by rw [h, nE_pow, nE_of hm]
theorem answers10_ev : Ev (fun k => figureheadlaw10_answers.f k) true := by
  have ok1 : OkS (⟨#[52]⟩ : ByteArray) (-1) := OkS.of_good (by decide)
  have v1 : vB (⟨#[52]⟩ : ByteArray) = 4 := by decide
  have v2 : vB (⟨#[50, 53]⟩ : ByteArray) = 25 := by decide
  have n50 : nD 50 = (⟨#[53]⟩ : ByteArray) := nD_lit10 (m := 5) (k := 1) (by decide) (by decide) (by decide) (by decide) (by decide)
  have e50 : nE 50 (-2) = -1 := by rw [nE_lit10 (m := 5) (k := 1) (by decide) (by decide)]; decide
  have r1 : roundD 5 false 4 (-1) 25 (-2) = (false, (⟨#[53]⟩ : ByteArray), -1, 0) := by
    rw [roundD_ok (by decide), show rv0 5 false 4 (-1) 25 (-2) (min (-1) (-2)) = 50 by decide, n50, show min (-1 : Int) (-2) = -2 by decide, e50]
  unfold figureheadlaw10_answers.f
  refine Ev.bind (incRound_ev (by decide) (by decide) ok1 (by decide) (by decide) (by decide) (by decide) (by decide)) ?_
  rw [v1, v2, r1]
  refine Ev.bind (incRound_bad (by decide) (.inr (.inr (.inr (.inr (by decide)))))) ?_
  exact evT rfl (evT (by simp [ByteArray.toList_eq]) (evIs (Ev.now _) (by decide)))
end Go.Proofs.YtekkpmoppihlaaaDoor.Px
end
section
namespace Go.Proofs.YtekkpmoppihlaaaDoor.Px
open Fig Go.RowKit Go.Proofs.YtekkpmoppihlaaaDoorW.PrintWords Go.Proofs.YtekkpmoppihlaaaDoorW.PrintLast Go.Proofs.YtekkpmoppihlaaaDoorW.PrintMore
attribute [local go_sem] max2_int min2_int max_two min_two max_three min_three max_four min_four   -- for this text's walks alone
attribute [local go_sem] fieldA23_0 fieldA23_1 fieldA23_2
theorem over_rv (l : List UInt8) : l.any (fun c => decide (48 < c.toNat)) = decide (rv l ≠ 0) := by
  induction l with
  | nil => rfl
  | cons c l ih =>
    rw [List.any_cons, ih, Bool.eq_iff_iff]
    rw [Bool.or_eq_true, decide_eq_true_eq, decide_eq_true_eq, decide_eq_true_eq]
    show _ ↔ c.toNat - 48 + 10 * rv l ≠ 0
    omega
theorem over_vB (s : ByteArray) : s.data.toList.any (fun c => decide (48 < c.toNat)) = decide (vB s ≠ 0) := by
  unfold vB; rw [← over_rv, List.any_reverse]
def mayB (s : ByteArray) : Bool := dB s && decide (vB s ≠ 0) && decide (s.size ≤ 40)
theorem mayB_iff {s : ByteArray} : mayB s = true ↔ dB s = true ∧ vB s ≠ 0 ∧ s.size ≤ 40 := by
  unfold mayB; simp only [Bool.and_eq_true, decide_eq_true_eq, and_assoc]
theorem may_loop (s : ByteArray) (hs : s.size ≤ 4611686018427387904) : ∀ (d n : Nat) (o : Bool), s.size - n = d → n ≤ s.size → Ev (fun k => figureheadlaw10_may.l0 k s o (n : Int)) (digL (s.data.toList.drop n) && (o || (s.data.toList.drop n).any (fun c => decide (48 < c.toNat))) && decide (s.size ≤ 40))
  | 0, n, o, hd, hn => by
    rw [List.drop_of_length_le (by rw [← size_eq]; omega)]
    refine evDone (r' := o && decide (s.size ≤ 40)) (fun k => ?_) (by simp [digL])
    simp only [figureheadlaw10_may.l0]; rw [if_neg (by omega)]
    cases o
    · rfl
    · simp only [if_true, Bool.true_and, Option.some.injEq]
      rw [decide_eq_decide]; omega
  | d + 1, n, o, hd, hn => by
    have hlt : n < s.size := by omega
    have hbt := bt_get hlt
    have hc := List.drop_eq_getElem_cons (l := s.data.toList) (i := n) (by rw [← size_eq]; exact hlt)
    rw [hc]
    generalize hx : s.data.toList[n]'(by rw [← size_eq]; exact hlt) = c at hbt
    by_cases h1 : c.toNat < 48
    · refine evDone (r' := false) (fun k => ?_) ?_
      · simp only [figureheadlaw10_may.l0]; rw [if_pos (by omega), if_pos (by omega), hbt, if_pos (by omega)]
      · have : isD c = false := by unfold isD; simp; omega
        simp [digL, this]
    · by_cases h2 : c.toNat > 57
      · refine evDone (r' := false) (fun k => ?_) ?_
        · simp only [figureheadlaw10_may.l0]; rw [if_pos (by omega), if_pos (by omega), hbt, if_neg (by omega), if_pos (by omega)]
        · have : isD c = false := by unfold isD; simp; omega
          simp [digL, this]
      · have hd1 : isD c = true := isD_iff.2 ⟨by omega, by omega⟩
        refine evIs (Ev.step (f := fun k => figureheadlaw10_may.l0 k s (o || decide (48 < c.toNat)) ((n + 1 : Nat) : Int)) (fun k => ?_) (may_loop s hs d (n + 1) _ (by omega) (by omega))) ?_
        · simp only [figureheadlaw10_may.l0]; rw [if_pos (by omega), if_pos (by omega), hbt, if_neg (by omega), if_neg (by omega), succ64 _ (by omega)]
          cases o
          · rw [if_neg (by decide), show decide ((c.toNat : Int) > 48) = (false || decide (48 < c.toNat)) by rw [Bool.false_or, decide_eq_decide]; show ((48 : Nat) : Int) < _ ↔ _; rw [Int.ofNat_lt]]
          · rw [if_pos rfl, Bool.true_or]
        · simp [digL, hd1, Bool.or_assoc]
theorem may_ev {s : ByteArray} (hs : s.size ≤ 4611686018427387904) : Ev (fun k => figureheadlaw10_may.f k s) (mayB s) := by
  have := may_loop s hs s.size 0 false (by omega) (by omega)
  rw [List.drop_zero, Bool.false_or, over_vB] at this
  exact this
end Go.Proofs.YtekkpmoppihlaaaDoor.Px
end
section
namespace Go.Proofs.YtekkpmoppihlaaaDoor.Px
open Fig Go.RowKit Go.Proofs.YtekkpmoppihlaaaDoorW.PrintWords Go.Proofs.YtekkpmoppihlaaaDoorW.PrintLast Go.Proofs.YtekkpmoppihlaaaDoorW.PrintMore
attribute [local go_sem] max2_int min2_int max_two min_two max_three min_three max_four min_four   -- for this text's walks alone
attribute [local go_sem] fieldA23_0 fieldA23_1 fieldA23_2
theorem IncTens_true (a0 a3 a4 : Int) (st : ByteArray) (b : Bool) (s : ByteArray) (e : Int) : Ev (fun k => figureheadlaw10_IncTens.j0 k a0 st a3 a4 true b s e) true :=
  Ev.step (fun k => by simp only [figureheadlaw10_IncTens.j0, if_true]) (Ev.bind answers10_ev (Ev.now true))
theorem IncTens_loop {a0 a3 e : Int} {st s : ByteArray} {b : Bool} {K : Nat} (hK : K < 9) (ok : OkS s e) (hd : dB st = true) (hs0 : vB st ≠ 0) (hsz : st.size ≤ 30) (hp1 : -100 ≤ a3) (hp2 : a3 ≤ 100) : ∀ (d i : Nat) (t : ByteArray), i + d = K → dB t = true → vB t = vB st * 10 ^ i → t.size = st.size + i → Ev (fun k => figureheadlaw10_IncTens.l0 k a0 st a3 (K : Int) t (i : Int) b s e) true
  | 0, i, t, hi, h1, h2, h3 => by
    have hiK : i = K := by omega
    subst hiK
    refine Ev.step (fun k => by simp only [figureheadlaw10_IncTens.l0, Int.lt_irrefl, if_false]; rfl) ?_
    rw [w64 (x := a3 + (i : Int)) (by omega) (by omega)]
    by_cases hm : a0 < 0 ∨ 7 < a0
    · have hb : ∀ {x : ByteArray} {p : Int}, x.size ≤ 140737488351232 → Ev (fun k => inc_Round.f k a0 b s e x p) (false, (⟨#[]⟩ : ByteArray), 0, 1) := fun hx => incRound_bad hx (by omega)
      refine Ev.bind (hb (by omega)) (Ev.bind (hb (by omega)) (Ev.bind answers10_ev (evT rfl (evT rfl (evIs (Ev.now _) (by simp))))))
    · have ht0 : vB t ≠ 0 := by
        rw [h2]; have := pow10_pos i; intro h; rcases Nat.mul_eq_zero.1 h with h | h
        · exact hs0 h
        · omega
      have e1 : roundD a0 b (vB s) e (vB t) a3 = roundD a0 b (vB s) e (vB st) (a3 + (i : Int)) := by rw [h2, roundD_step]
      refine Ev.bind (evIs (incRound_ev (by omega) (by omega) ok h1 ht0 (by omega) (by omega) (by omega)) e1) (Ev.bind (incRound_ev (by omega) (by omega) ok hd hs0 (by omega) (by omega) (by omega)) ?_)
      exact Ev.bind answers10_ev (evT rfl (evT rfl (evIs (Ev.now _) (by simp))))
  | d + 1, i, t, hi, h1, h2, h3 => by
    have v0 : vB (⟨#[48]⟩ : ByteArray) = 0 := by decide
    have s0 : (⟨#[48]⟩ : ByteArray).size = 1 := by decide
    refine Ev.step (f := fun k => figureheadlaw10_IncTens.l0 k a0 st a3 (K : Int) (t ++ (⟨#[48]⟩ : ByteArray)) ((i + 1 : Nat) : Int) b s e) (fun k => ?_) (IncTens_loop hK ok hd hs0 hsz hp1 hp2 d (i + 1) _ (by omega) (dB_append.2 ⟨h1, by decide⟩) (by rw [vB_append, h2, v0, s0, Nat.pow_succ, Nat.pow_succ, Nat.pow_zero, Nat.one_mul, Nat.mul_assoc, Nat.add_zero]) (by rw [ByteArray.size_append, s0]; omega))
    simp only [figureheadlaw10_IncTens.l0]; rw [if_pos (by omega), if_pos (by omega), w64 (by omega) (by omega)]; rfl
theorem IncTens_pure (a0 : Int) (a1_0 : Bool) (a1_1 : ByteArray) (a1_2 : Int) (a2 : ByteArray) (a3 a4 : Int) (w0 : (Lit.int .i64 a0).wf = true) (w1_1 : a1_1.size ≤ 140737488351232) (w1_2 : (Lit.int .i64 a1_2).wf = true) (w2 : a2.size ≤ 140737488351232) (w3 : (Lit.int .i64 a3).wf = true) (w4 : (Lit.int .u8 a4).wf = true) : ∃ k, figureheadlaw10_IncTens.f k a0 a1_0 a1_1 a1_2 a2 a3 a4 = some true := by
  obtain ⟨u1, u2⟩ := inc_wf_u8 w4
  refine Ev.rounds (g := fun k => figureheadlaw10_IncTens.f k a0 a1_0 a1_1 a1_2 a2 a3 a4) ?_
  unfold figureheadlaw10_IncTens.f
  refine Ev.bind (good10_ev (by omega)) ?_
  cases hg : goodP10 a1_1 a1_2 a3
  · exact evF (by decide) (IncTens_true _ _ _ _ _ _ _)
  obtain ⟨ok, hz, hp1, hp2, he1, he2⟩ := goodP10_ok hg
  refine evT rfl (Ev.bind (may_ev (by omega)) ?_)
  cases hmy : mayB a2
  · exact evF (by decide) (IncTens_true _ _ _ _ _ _ _)
  obtain ⟨hd, hs0, hsz⟩ := mayB_iff.1 hmy
  refine evT rfl ?_
  by_cases h30 : (a2.size : Int) > 30
  · rw [decide_eq_true h30]; exact IncTens_true _ _ _ _ _ _ _
  rw [decide_eq_false h30]
  obtain ⟨K, hK⟩ : ∃ K : Nat, K = (a4 % 9).toNat := ⟨_, rfl⟩
  have hw : wrap64 (Int.tmod a4 9) = (K : Int) := by
    rw [Int.tmod_eq_emod_of_nonneg u1, w64 (x := a4 % 9) (by omega) (by omega)]; omega
  refine Ev.step (fun k => by simp only [figureheadlaw10_IncTens.j0, Bool.false_eq_true, if_false, hw]; rfl) ?_
  exact IncTens_loop (by omega) ok hd hs0 (by omega) hp1 hp2 K 0 a2 (by omega) hd (by simp) (by omega)
end Go.Proofs.YtekkpmoppihlaaaDoor.Px
end
section
namespace Go.Proofs.YtekkpmoppihlaaaDoorW.PrintWords
open Go.ChangeShapes Go.WideShapes
end Go.Proofs.YtekkpmoppihlaaaDoorW.PrintWords
end
section
namespace Fig
open Go Go.ChangeShapes
theorem one_cell {α : Type} {l : List α} {i n : Nat} (hl : l.length = n) (hi : i < n) : ∃ v, (l.drop i).take 1 = [v] ∧ l[i]? = some v := by
  refine ⟨l[i], ?_, List.getElem?_eq_getElem (by omega)⟩
  rw [List.drop_eq_getElem_cons (by omega)]; rfl
theorem func_cell {P : Program} {W : World} {name : String} {d : DataW Unit} (h : funcsAt P W name d) {g : Nat} {t e : TypeId} {n : Nat} {fld : Field} {ps rs : Array TypeId} {va : Bool}
    (hg : P.globalNamed name = some g) (hty : (P.globals[g]?).map (·.type) = some t) (ht : P.underlying t = some (.array n e)) (he : P.underlying e = some (.struct #[fld])) (hft : P.underlying fld.type = some (.func ps rs va))
    (ce : P.cellsOf e = 1) (cf : P.cellsOf fld.type = 1) (ho : fld.offset = 0) (ct : P.cellsOf t = n) {ds : List (DataW (List UInt8))} (hd : d.funcsOut = .agg ds)
    {i : Nat} (hi : i < n) {b : UInt8} {r : List UInt8} (hdi : ds[i]? = some (.agg [.held (b :: r)])) {f0 : FuncId}
    (hone : ((List.range P.funcs.size).filter fun f => (P.funcs[f]?).any (·.name.toUTF8.data.toList == b :: r)) = [f0]) : W.cell? ⟨g, i, none⟩ = some (.func (.func f0) #[] #[]) := by
  obtain ⟨g', t', cs, fuel, p, hg', ht', hv, hr⟩ := h
  obtain rfl := Option.some.inj (hg.symm.trans hg')
  obtain rfl := Option.some.inj (hty.symm.trans ht')
  obtain ⟨xs, m, _, ex, hcl, hl, hel⟩ := DataW.trod_array ht hr
  rw [hd] at ex
  have e3 : xs.map (·.1) = ds := (DataW.agg.inj (Prod.mk.inj ex).1).symm
  obtain ⟨v, hv1, hv2⟩ := one_cell (l := cs.toList) (n := n) (hcl.trans ct) hi
  have hE := hel i hi
  rw [ce, Nat.mul_one, hv1] at hE
  rw [← e3, List.getElem?_map] at hdi
  cases hx : xs[i]? with
  | none => rw [hx] at hdi; cases hdi
  | some x =>
    rw [hx] at hE hdi
    simp only [Option.map_some, Option.some.injEq] at hdi
    obtain ⟨y0, k, rfl, _, hy⟩ := trod_struct1 he hE
    rw [cf, ho, List.drop_zero] at hy
    have hy0 : y0.1 = .held (b :: r) := by simpa using hdi
    obtain ⟨y1, y2⟩ := y0
    subst hy0
    obtain rfl := func_of_trod hft hone (show DataW.trod _ P W 0 _ true k fld.type [v] = _ from hy)
    rw [World.var?_cell hg hv i]
    simpa using hv2
theorem setCells_os (g : Nat) : ∀ (l : List Value) (i : Nat) (w : World), ((l.zipIdx i).foldl (fun w x => w.setCell ⟨g, x.2, none⟩ x.1) w).os = w.os
  | [], _, _ => rfl
  | _ :: l, i, w => by rw [List.zipIdx_cons, List.foldl_cons, setCells_os g l (i + 1)]; rfl
end Fig
end
section
namespace Fig
open Go Go.Proofs Go.Proofs.YtekkpmoppihlaaaDoor
set_option maxRecDepth 100000
def plainL : List (String × DataW Unit) := [("unicode/utf8.acceptRanges", Rows.laid_unicode_utf8_acceptRanges), ("figurehead/ten.powers", Rows.laid_figurehead_ten_powers), ("unicode/utf8.first", Rows.laid_unicode_utf8_first)]
def laidL : List (String × DataW Unit) := [("figurehead/mode.ways", Rows.laid_figurehead_mode_ways), ("unicode/utf8.acceptRanges", Rows.laid_unicode_utf8_acceptRanges), ("figurehead/ten.powers", Rows.laid_figurehead_ten_powers), ("unicode/utf8.first", Rows.laid_unicode_utf8_first)]
def wayCells : List Value := [.func (.func 105) #[] #[], .func (.func 106) #[] #[], .func (.func 107) #[] #[], .func (.func 108) #[] #[], .func (.func 109) #[] #[], .func (.func 110) #[] #[], .func (.func 111) #[] #[], .func (.func 112) #[] #[]]
noncomputable def startW (os : Os) : World := (wayCells.zipIdx 0).foldl (fun w x => w.setCell ⟨1, x.2, none⟩ x.1) (World.laidAll Tryd.prog os plainL)
theorem startW_os (os : Os) : (startW os).os = os := (setCells_os _ _ _ _).trans (World.laidAll_os _ _ _)
theorem met (os : Os) (args : Array Value) : laidMetH Tryd.prog laidL ((startW os).forCall (fun _ _ => 0) ⟨#[], args, []⟩).memory :=
  laidMetH_of_parts3 (fuel := 8) (laidMet_of_run' 8 (by kernel_rfl) (by kernel_rfl)) (by kernel_rfl) (by kernel_rfl)
theorem plainFilter : (laidL.filter fun x => x.2.handleName?.isNone) = plainL := by kernel_rfl
theorem plain_of {W : World} (h : laidMetH Tryd.prog laidL W) : laidMet Tryd.prog plainL W := plainFilter ▸ (laidMetH_iff.1 h).1
theorem ways_of {W : World} (h : laidMetH Tryd.prog laidL W) : ∀ i f, ([105, 106, 107, 108, 109, 110, 111, 112] : List Nat)[i]? = some f → W.cell? ⟨1, i, none⟩ = some (.func (.func f) #[] #[]) := by
  have hF := h.funcs (n := "figurehead/mode.ways") (List.mem_cons_self)
  have gN : Tryd.prog.globalNamed "figurehead/mode.ways" = some 1 := by kernel_rfl
  have gT : (Tryd.prog.globals[1]?).map (·.type) = some 70 := by kernel_rfl
  have c1 : Tryd.prog.cellsOf 69 = 1 := by kernel_rfl
  have c2 : Tryd.prog.cellsOf 67 = 1 := by kernel_rfl
  have c3 : Tryd.prog.cellsOf 70 = 8 := by kernel_rfl
  intro i f hf
  have key : ∀ {b : UInt8} {r : List UInt8} {j : Nat} {f0 : FuncId}, j < 8 → _ → _ → W.cell? ⟨1, j, none⟩ = some (.func (.func f0) #[] #[]) := fun {b} {r} {j} {f0} hj hdi hone => func_cell (b := b) (r := r) hF gN gT Tryd.underlying70 Tryd.underlying69 Tryd.underlying67 c1 c2 rfl c3 rfl hj hdi hone
  match i, hf with
  | 0, hf => obtain rfl := Option.some.inj hf; exact key (b := 102) (r := [105, 103, 117, 114, 101, 104, 101, 97, 100, 47, 109, 111, 100, 101, 46, 119, 97, 121, 115, 36, 49]) (by decide) rfl (by kernel_rfl)
  | 1, hf => obtain rfl := Option.some.inj hf; exact key (b := 102) (r := [105, 103, 117, 114, 101, 104, 101, 97, 100, 47, 109, 111, 100, 101, 46, 119, 97, 121, 115, 36, 50]) (by decide) rfl (by kernel_rfl)
  | 2, hf => obtain rfl := Option.some.inj hf; exact key (b := 102) (r := [105, 103, 117, 114, 101, 104, 101, 97, 100, 47, 109, 111, 100, 101, 46, 119, 97, 121, 115, 36, 51]) (by decide) rfl (by kernel_rfl)
  | 3, hf => obtain rfl := Option.some.inj hf; exact key (b := 102) (r := [105, 103, 117, 114, 101, 104, 101, 97, 100, 47, 109, 111, 100, 101, 46, 119, 97, 121, 115, 36, 52]) (by decide) rfl (by kernel_rfl)
  | 4, hf => obtain rfl := Option.some.inj hf; exact key (b := 102) (r := [105, 103, 117, 114, 101, 104, 101, 97, 100, 47, 109, 111, 100, 101, 46, 119, 97, 121, 115, 36, 53]) (by decide) rfl (by kernel_rfl)
  | 5, hf => obtain rfl := Option.some.inj hf; exact key (b := 102) (r := [105, 103, 117, 114, 101, 104, 101, 97, 100, 47, 109, 111, 100, 101, 46, 119, 97, 121, 115, 36, 54]) (by decide) rfl (by kernel_rfl)
  | 6, hf => obtain rfl := Option.some.inj hf; exact key (b := 102) (r := [105, 103, 117, 114, 101, 104, 101, 97, 100, 47, 109, 111, 100, 101, 46, 119, 97, 121, 115, 36, 55]) (by decide) rfl (by kernel_rfl)
  | 7, hf => obtain rfl := Option.some.inj hf; exact key (b := 102) (r := [105, 103, 117, 114, 101, 104, 101, 97, 100, 47, 109, 111, 100, 101, 46, 119, 97, 121, 115, 36, 56]) (by decide) rfl (by kernel_rfl)
  | k + 8, hf => simp at hf
theorem pows_of {W : World} (h : laidMetH Tryd.prog laidL W) : ∀ i, i < 9 → W.cell? ⟨0, i, none⟩ = some (.int .u32 (([1, 10, 100, 1000, 10000, 100000, 1000000, 10000000, 100000000] : List Int).getD i 0)) := by
  have gN : Tryd.prog.globalNamed "figurehead/ten.powers" = some 0 := by kernel_rfl
  have gT : (Tryd.prog.globals[0]?).map (·.type) = some 64 := by kernel_rfl
  have hT := Lib.tabIs_of_head (k := .u32) (zs := [1, 10, 100, 1000, 10000, 100000, 1000000, 10000000, 100000000]) gN gT Tryd.underlying64 Tryd.underlying48 (by kernel_rfl) (by kernel_rfl) (laidMet.tail (plain_of h))
  exact fun i hi => hT.cell gN i hi
theorem of_laid {W : World} (h : laidMetH Tryd.prog laidL W) : Glob W := ⟨ways_of h, pows_of h⟩
end Fig
end
section
namespace Fig
open Go Go.ChangeShapes Go.WideShapes Go.RowKit Go.Deep Go.WideElems Go.Joins
theorem open_dec {H : Type} {enc : TypeId × Value → H} {P : Program} {w : World} {base : Nat} {spare : Nat → Bool} {held : Bool} {r : Reach} {b0 : Nat} {t : TypeId} {f0 f1 f2 : Field} {v : Value} {d : DataW H} {p : List MemPlace} {k : IntKind} (hs : P.underlying t = some (.struct #[f0, f1, f2])) (hone : oneCellFields P #[f0, f1, f2] = true) (hC : P.cellsOf t = 3)
    (u0 : P.underlying f0.type = some .bool) (u1 : P.underlying f1.type = some .string) (u2 : P.underlying f2.type = some (.int k)) (hv : Value.okWide P w r b0 t v) (h : DataW.Trod enc P w base spare held t v d p) :
    ∃ (x : Bool) (s : ByteArray) (n : Int), v = .agg #[.bool x, .string s, .int k n] ∧ d = .agg [.lit (.bool x), .lit (.string s.data.toList), .lit (.int k n)] ∧ p = [] ∧ s.size ≤ maxLen ∧ (Lit.int k n).wf = true := by
  obtain ⟨v0, v1, v2, y0, y1, y2, n, rfl, rfl, rfl, h0, h1, h2⟩ := open_agg3 hs hone hC hv h
  obtain ⟨x, e0, rfl⟩ := DataW.trod_bool u0 h0
  obtain ⟨s, e1, rfl, hl⟩ := DataW.trod_string u1 h1
  obtain ⟨m, e2, rfl, hw⟩ := DataW.trod_int u2 h2
  simp only [List.cons.injEq, and_true] at e0 e1 e2
  subst e0 e1 e2
  exact ⟨x, s, m, rfl, rfl, rfl, hl, hw⟩
theorem shut_dec {H : Type} {enc : TypeId × Value → H} {P : Program} {w : World} {base : Nat} {spare : Nat → Bool} {held : Bool} {t : TypeId} {f0 f1 f2 : Field} {k : IntKind} {x : Bool} {s : ByteArray} {n : Int} (hs : P.underlying t = some (.struct #[f0, f1, f2])) (hone : oneCellFields P #[f0, f1, f2] = true) (hC : P.cellsOf t = 3)
    (u0 : P.underlying f0.type = some .bool) (u1 : P.underlying f1.type = some .string) (u2 : P.underlying f2.type = some (.int k)) (hl : s.size ≤ maxLen) (hw : (Lit.int k n).wf = true) :
    DataW.Trod enc P w base spare held t (.agg #[.bool x, .string s, .int k n]) (.agg [.lit (.bool x), .lit (.string s.data.toList), .lit (.int k n)]) [] :=
  shut_agg3 (y0 := (.lit (.bool x), [])) (y1 := (.lit (.string s.data.toList), [])) (y2 := (.lit (.int k n), [])) hs hone hC ⟨1, by simp [DataW.trod, u0]⟩ ⟨1, by simp [DataW.trod, u1, hl]⟩ ⟨1, by simp [DataW.trod, u2, hw]⟩
theorem sized_dec {H : Type} {P : Program} {ts : List TypeId} {ds : List (DataW H)} (h : (DataW.weightsEach P ts ds).all (· ≤ reachBytes) = true) {j : Nat} {t : TypeId} {f0 f1 f2 : Field} {x y : DataW H} {bytes : List UInt8} (ht : ts[j]? = some t) (hd : ds[j]? = some (.agg [x, .lit (.string bytes), y])) (hs : P.underlying t = some (.struct #[f0, f1, f2])) : bytes.length ≤ reachBytes := by
  have := List.all_eq_true.1 h _ (DataW.weights_mem_each ht hd bytes.length (by simp [DataW.weights, DataW.weightsEach, hs]))
  simpa using this
end Fig
end
