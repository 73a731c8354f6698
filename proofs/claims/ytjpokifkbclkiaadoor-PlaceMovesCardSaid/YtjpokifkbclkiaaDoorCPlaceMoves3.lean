/- The functions that the law PlaceMoves reaches, told as plain functions, with what is proved of them, and the words they need (part 3). -/
import Derived.Test.YtjpokifkbclkiaaDoorCPlaceMoves0
import Derived.Test.YtjpokifkbclkiaaDoorCPlaceMoves2
import Derived.Test.YtjpokifkbclkiaaDoorCPlaceMoves1
import Derived.SizedLaws
import Derived.ChangeSlices
import Derived.LaidMore
import Derived.LaidHandle
import Derived.LaidSub
import Derived.OpenShut
import Derived.ChangeSame
import Derived.Lay
import Derived.Lib.LaidTab
import Derived.Test.YtjpokifkbclkiaaDoorRows
import Derived.Stop.LaidErr
import Derived.Lib.SmallJoins
import Derived.ChangeMaps5
set_option linter.unusedVariables false
set_option linter.unusedSimpArgs false
section
namespace Go.Proofs.YtjpokifkbclkiaaDoor.Px
open Fig Go.RowKit Go.Proofs.YtjpokifkbclkiaaDoorW.PrintWords Go.Proofs.YtjpokifkbclkiaaDoorW.PrintLast Go.Proofs.YtjpokifkbclkiaaDoorW.PrintMore
attribute [local go_sem] max2_int min2_int max_two min_two max_three min_three max_four min_four   -- for this text's walks alone
attribute [local go_sem high] eqA23
attribute [local go_sem] fieldA23_0 fieldA23_1 fieldA23_2
def figureheadlaw08_PlaceMoves.f (k : Nat) (a0 : Int) (a1_0 : Bool) (a1_1 : ByteArray) (a1_2 : Int) (a2 : Int) (a3 : Int) : Option (Bool) := (figureheadlaw08_good.f k a1_0 a1_1 a1_2 a2).bind fun t419 => (if t419 = true then ((place_Round.f k a0 a1_0 a1_1 a1_2 a2).bind fun bt422 => ((place_Round.f k a0 a1_0 a1_1 (wrap64 (a1_2 + (wrap64 (a3)))) (wrap64 (a2 + (wrap64 (a3))))).bind fun bt427 => (if bt422.2.2.2 = 0 then ((figureheadlaw08_answers.f k).bind fun t432 => (if t432 = true then (if bt427.2.2.2 = 0 then ((figureheadref05_Norm.f k bt422.1 bt422.2.1 (wrap64 (bt422.2.2.1 + (wrap64 (a3))))).bind fun bt433 => (some (bt433.1 == bt427.1 && (bt433.2.1.toList == bt427.2.1.toList && (bt433.2.2 == bt427.2.2.1))))) else (some false)) else (some false))) else ((figureheadlaw08_answers.f k).bind fun t436 => (if t436 = true then (some (bt422.2.2.2 == bt427.2.2.2)) else (some false)))))) else ((figureheadlaw08_answers.f k).bind fun t420 => (some t420)))
theorem figureheadlaw08_PlaceMoves.mono : ∀ a0 a1 a2 a3 a4 a5 k, LeO (figureheadlaw08_PlaceMoves.f k a0 a1 a2 a3 a4 a5) (figureheadlaw08_PlaceMoves.f (k + 1) a0 a1 a2 a3 a4 a5) := by
  intro a0 a1 a2 a3 a4 a5 k
  unfold figureheadlaw08_PlaceMoves.f
  repeat' first
      | (with_reducible exact figureheadlaw08_answers.mono _)
      | (with_reducible exact figureheadlaw08_good.mono _ _ _ _ _)
      | (with_reducible exact figureheadref05_Norm.mono _ _ _ _)
      | (with_reducible exact place_Round.mono _ _ _ _ _ _)
      | (with_reducible exact LeO.refl _)
      | (with_reducible exact LeO.none _)
      | (with_reducible refine LeO.ite ?_ ?_)
      | (with_reducible refine LeO.bind ?_ (fun _ => ?_))
      | exact figureheadlaw08_answers.mono _
      | exact figureheadlaw08_good.mono _ _ _ _ _
      | exact figureheadref05_Norm.mono _ _ _ _
      | exact place_Round.mono _ _ _ _ _ _
      | exact LeO.none _
      | refine LeO.ite ?_ ?_
      | refine LeO.bind ?_ (fun _ => ?_)
def figureheadlaw08_PlaceMoves.T10 : Bool × List (List Nat × List Nat) := (true, [([], []), ([0, 0], [0]), ([1], [1]), ([2, 1], [1, 2]), ([1, 3], [1, 3]), ([4, 1], [4]), ([5], [5]), ([6, 5, 5], [5, 6]), ([5], [5]), ([7, 8, 5], [5, 7, 8]), ([5, 9], [5, 9]), ([10, 7, 0, 1, 2, 3, 4, 5, 6, 7, 8, 9, 10], [10])])
def figureheadlaw08_PlaceMoves.B10 : List Nat := [0, 1, 3, 7, 15, 31, 63, 127, 63, 511, 1023, 2047]
theorem figureheadlaw08_PlaceMoves.tab10 : rtab .any (opsOf Tryd.f8 10) = figureheadlaw08_PlaceMoves.T10 := by kernel_rfl
theorem figureheadlaw08_PlaceMoves.bits10 : waitsOk figureheadlaw08_PlaceMoves.T10.2 figureheadlaw08_PlaceMoves.B10 = true := by kernel_rfl
set_option maxHeartbeats 8000000 in
set_option maxRecDepth 100000 in
theorem figureheadlaw08_PlaceMoves.calls (k : Nat) (a0 : Int) (a1_0 : Bool) (a1_1 : ByteArray) (a1_2 : Int) (a2 : Int) (a3 : Int) (r : Bool) (w : World) (hG : Fig.Glob w) (HT : Aside0 (r = true)) (h : figureheadlaw08_PlaceMoves.f k a0 a1_0 a1_1 a1_2 a2 a3 = some r) :
    Calls Tryd.prog 8 #[.int .i64 a0, .agg #[.bool a1_0, .string a1_1, .int .i64 a1_2], .int .i64 a2, .int .u8 a3] w fun e w' => e = .returned (.bool r) ∧ Below w.heap.size w w' := by
  have hu23 := Tryd.underlying23
  have HG := Aside0.mk hG
  clear hG
  have HB := Aside0.mk (Below.refl w.heap.size w)
  have H : ((figureheadlaw08_good.f k a1_0 a1_1 a1_2 a2).bind fun t419 => (if t419 = true then ((place_Round.f k a0 a1_0 a1_1 a1_2 a2).bind fun bt422 => ((place_Round.f k a0 a1_0 a1_1 (wrap64 (a1_2 + (wrap64 (a3)))) (wrap64 (a2 + (wrap64 (a3))))).bind fun bt427 => (if bt422.2.2.2 = 0 then ((figureheadlaw08_answers.f k).bind fun t432 => (if t432 = true then (if bt427.2.2.2 = 0 then ((figureheadref05_Norm.f k bt422.1 bt422.2.1 (wrap64 (bt422.2.2.1 + (wrap64 (a3))))).bind fun bt433 => (some (bt433.1 == bt427.1 && (bt433.2.1.toList == bt427.2.1.toList && (bt433.2.2 == bt427.2.2.1))))) else (some false)) else (some false))) else ((figureheadlaw08_answers.f k).bind fun t436 => (if t436 = true then (some (bt422.2.2.2 == bt427.2.2.2)) else (some false)))))) else ((figureheadlaw08_answers.f k).bind fun t420 => (some t420)))) = some r := h
  clear h
  replace H := Option.bind_eq_some_iff.mp H
  obtain ⟨t419, A50, H⟩ := H
  replace H : (if t419 = true then ((place_Round.f k a0 a1_0 a1_1 a1_2 a2).bind fun bt422 => ((place_Round.f k a0 a1_0 a1_1 (wrap64 (a1_2 + (wrap64 (a3)))) (wrap64 (a2 + (wrap64 (a3))))).bind fun bt427 => (if bt422.2.2.2 = 0 then ((figureheadlaw08_answers.f k).bind fun t432 => (if t432 = true then (if bt427.2.2.2 = 0 then ((figureheadref05_Norm.f k bt422.1 bt422.2.1 (wrap64 (bt422.2.2.1 + (wrap64 (a3))))).bind fun bt433 => (some (bt433.1 == bt427.1 && (bt433.2.1.toList == bt427.2.1.toList && (bt433.2.2 == bt427.2.2.1))))) else (some false)) else (some false))) else ((figureheadlaw08_answers.f k).bind fun t436 => (if t436 = true then (some (bt422.2.2.2 == bt427.2.2.2)) else (some false)))))) else ((figureheadlaw08_answers.f k).bind fun t420 => (some t420))) = some r := H
  have A5 := Aside0.mk A50
  clear A50
  by_cases c6 : t419 = true
  · subst c6
    have H1 : ((place_Round.f k a0 a1_0 a1_1 a1_2 a2).bind fun bt422 => ((place_Round.f k a0 a1_0 a1_1 (wrap64 (a1_2 + (wrap64 (a3)))) (wrap64 (a2 + (wrap64 (a3))))).bind fun bt427 => (if bt422.2.2.2 = 0 then ((figureheadlaw08_answers.f k).bind fun t432 => (if t432 = true then (if bt427.2.2.2 = 0 then ((figureheadref05_Norm.f k bt422.1 bt422.2.1 (wrap64 (bt422.2.2.1 + (wrap64 (a3))))).bind fun bt433 => (some (bt433.1 == bt427.1 && (bt433.2.1.toList == bt427.2.1.toList && (bt433.2.2 == bt427.2.2.1))))) else (some false)) else (some false))) else ((figureheadlaw08_answers.f k).bind fun t436 => (if t436 = true then (some (bt422.2.2.2 == bt427.2.2.2)) else (some false)))))) = some r := by rw [if_pos rfl] at H; exact H
    clear H
    have H := H1
    clear H1
    replace H := Option.bind_eq_some_iff.mp H
    obtain ⟨⟨t422, t423, t424, t425⟩, A70, H⟩ := H
    replace H : ((place_Round.f k a0 a1_0 a1_1 (wrap64 (a1_2 + (wrap64 (a3)))) (wrap64 (a2 + (wrap64 (a3))))).bind fun bt427 => (if t425 = 0 then ((figureheadlaw08_answers.f k).bind fun t432 => (if t432 = true then (if bt427.2.2.2 = 0 then ((figureheadref05_Norm.f k t422 t423 (wrap64 (t424 + (wrap64 (a3))))).bind fun bt433 => (some (bt433.1 == bt427.1 && (bt433.2.1.toList == bt427.2.1.toList && (bt433.2.2 == bt427.2.2.1))))) else (some false)) else (some false))) else ((figureheadlaw08_answers.f k).bind fun t436 => (if t436 = true then (some (t425 == bt427.2.2.2)) else (some false))))) = some r := H
    have A7 := Aside0.mk A70
    clear A70
    replace H := Option.bind_eq_some_iff.mp H
    obtain ⟨⟨t427, t428, t429, t430⟩, A80, H⟩ := H
    replace H : (if t425 = 0 then ((figureheadlaw08_answers.f k).bind fun t432 => (if t432 = true then (if t430 = 0 then ((figureheadref05_Norm.f k t422 t423 (wrap64 (t424 + (wrap64 (a3))))).bind fun bt433 => (some (bt433.1 == t427 && (bt433.2.1.toList == t428.toList && (bt433.2.2 == t429))))) else (some false)) else (some false))) else ((figureheadlaw08_answers.f k).bind fun t436 => (if t436 = true then (some (t425 == t430)) else (some false)))) = some r := H
    have A8 := Aside0.mk A80
    clear A80
    by_cases c9 : t425 = 0
    · rw [if_pos c9] at H
      have c9b0 : (t425 == 0) = true := beq_iff_eq.mpr c9
      have c9b1 : (t425 != 0) = false := bne_eq_false_iff_eq.mpr c9
      clear c9
      replace H := Option.bind_eq_some_iff.mp H
      obtain ⟨t432, A100, H⟩ := H
      replace H : (if t432 = true then (if t430 = 0 then ((figureheadref05_Norm.f k t422 t423 (wrap64 (t424 + (wrap64 (a3))))).bind fun bt433 => (some (bt433.1 == t427 && (bt433.2.1.toList == t428.toList && (bt433.2.2 == t429))))) else (some false)) else (some false)) = some r := H
      have A10 := Aside0.mk A100
      clear A100
      by_cases c11 : t432 = true
      · subst c11
        have H1 : (if t430 = 0 then ((figureheadref05_Norm.f k t422 t423 (wrap64 (t424 + (wrap64 (a3))))).bind fun bt433 => (some (bt433.1 == t427 && (bt433.2.1.toList == t428.toList && (bt433.2.2 == t429))))) else (some false)) = some r := by rw [if_pos rfl] at H; exact H
        clear H
        have H := H1
        clear H1
        by_cases c12 : t430 = 0
        · rw [if_pos c12] at H
          have c12b0 : (t430 == 0) = true := beq_iff_eq.mpr c12
          have c12b1 : (t430 != 0) = false := bne_eq_false_iff_eq.mpr c12
          clear c12
          replace H := Option.bind_eq_some_iff.mp H
          obtain ⟨⟨t433, t434, t435⟩, A130, H⟩ := H
          replace H : (some (t433 == t427 && (t434.toList == t428.toList && (t435 == t429)))) = some r := H
          have A13 := Aside0.mk A130
          clear A130
          obtain rfl := Option.some.inj H
          go_enter Tryd.func8, Tryd.ntmps8
          try go_wp2_with (first | ((with_reducible refine gate_dst (N := 5) rfl ?_); refine box_event ?hg (N := 5) ?hd (cs := #[.bool a1_0, .string a1_1, .int .i64 a1_2]) (t := 23) ?hr ?_; (case hd => rfl); (case hg => rfl); (case hr => first | (go_simp; done) | (go_simp; rfl)); intro gb418 hg w14 hbox hb; have n0_ := Aside0.mk (below_step (by repeat (first | (with_reducible first | exact HB.out | apply below_alloc | apply pw_below_drewN | apply below_drew1) | exact HB.out)) hb); have n1_ := Aside0.mk (hbox); have n2_ := Aside0.mk ((by rw [hg]; exact (below_size (by repeat (first | (with_reducible first | exact HB.out | apply below_alloc | apply pw_below_drewN | apply below_drew1) | exact HB.out))) : w.heap.size ≤ gb418)); have n3_ := Aside0.mk ((by rw [hg]; exact (below_size (by repeat (first | (with_reducible first | exact HB.out | apply below_alloc | apply pw_below_drewN | apply below_drew1) | exact HB.out))) : w.heap.size ≤ gb418)); clear HB; have HB := n0_; have BK418 := n1_; have GW418 := n2_; have GE418 := n3_; clear n0_ n1_ n2_ n3_; clear hb hbox hg; have hcz15_0 : w14.cell? ⟨gb418, 0, none⟩ = some (.bool a1_0) := (blk_cell BK418.out 0).trans rfl; have hcz15_1 : w14.cell? ⟨gb418, 1, none⟩ = some (.string a1_1) := (blk_cell BK418.out 1).trans rfl; have hcz15_2 : w14.cell? ⟨gb418, 2, none⟩ = some (.int .i64 a1_2) := (blk_cell BK418.out 2).trans rfl; have hfz15_0 := blk_frozen BK418.out 0; have hfz15_1 := blk_frozen BK418.out 1; have hfz15_2 := blk_frozen BK418.out 2) | ((with_reducible refine gate_callee (f := 14) rfl ?_); refine goesL_ (some 16) rfl rfl Tryd.func14 (by kernel_rfl) rfl #[.agg #[.bool a1_0, .string a1_1, .int .i64 a1_2], .int .i64 a2] rfl (by (try simp only [List.map_toArray]); (try simp only [List.map_cons]); (try simp only [List.map_nil]); first | done | rfl | (simp only [List.length_drop, List.length_take]; rfl)) ?_; (with_reducible refine (figureheadlaw08_good.calls k a1_0 a1_1 a1_2 a2 true _ A5.out).mono ?_); rintro e w16 ⟨rfl, hb⟩; refine ⟨_, rfl, ?_⟩; have n0_ := Aside0.mk (blk_below (g := gb418) (o := .cells #[.bool a1_0, .string a1_1, .int .i64 a1_2] 23 (0, 0)) (by (with_reducible repeat (first | refine blk_drewN ?_ _ | refine blk_drew ?_ | refine blk_alloc ?_ _)); exact BK418.out) hb); have n1_ := Aside0.mk (below_step (by repeat (first | (with_reducible first | exact HB.out | apply below_alloc | apply pw_below_drewN | apply below_drew1 | refine below_set ?_ GE418.out) | exact HB.out)) hb); clear BK418; clear HB; have BK418 := n0_; have HB := n1_; clear n0_ n1_; (try clear hb); (try clear hb2); (try clear hk); (try clear hi); have hcz17_0 : w16.cell? ⟨gb418, 0, none⟩ = some (.bool a1_0) := (blk_cell BK418.out 0).trans rfl; have hcz17_1 : w16.cell? ⟨gb418, 1, none⟩ = some (.string a1_1) := (blk_cell BK418.out 1).trans rfl; have hcz17_2 : w16.cell? ⟨gb418, 2, none⟩ = some (.int .i64 a1_2) := (blk_cell BK418.out 2).trans rfl; have hfz17_0 := blk_frozen BK418.out 0; have hfz17_1 := blk_frozen BK418.out 1; have hfz17_2 := blk_frozen BK418.out 2) | ((with_reducible refine gate_dst (N := 9) rfl ?_); refine box_event ?hg (N := 9) ?hd (cs := #[.bool false, .string (⟨#[]⟩ : ByteArray), .int .i64 0]) (t := 23) ?hr ?_; (case hd => rfl); (case hg => rfl); (case hr => first | (go_simp; done) | (go_simp; rfl)); intro gb421 hg w18 hbox hb; have n0_ := Aside0.mk (blk_below (g := gb418) (o := .cells #[.bool a1_0, .string a1_1, .int .i64 a1_2] 23 (0, 0)) (by (with_reducible repeat (first | refine blk_drewN ?_ _ | refine blk_drew ?_ | refine blk_alloc ?_ _)); exact BK418.out) hb); have n1_ := Aside0.mk (below_step (by repeat (first | (with_reducible first | exact HB.out | apply below_alloc | apply pw_below_drewN | apply below_drew1 | refine below_set ?_ GE418.out) | exact HB.out)) hb); have n2_ := Aside0.mk (hbox); have n3_ := Aside0.mk ((by rw [hg]; exact (below_size (by repeat (first | (with_reducible first | exact HB.out | apply below_alloc | apply pw_below_drewN | apply below_drew1 | refine below_set ?_ GE418.out) | exact HB.out))) : w.heap.size ≤ gb421)); have n4_ := Aside0.mk ((by rw [hg]; exact (below_size (by repeat (first | (with_reducible first | exact HB.out | apply below_alloc | apply pw_below_drewN | apply below_drew1 | refine below_set ?_ GE418.out) | exact HB.out))) : w.heap.size ≤ gb421)); have n5_ := Aside0.mk ((by rw [hg]; exact Nat.ne_of_lt (blk_lt (g := gb418) (o := .cells #[.bool a1_0, .string a1_1, .int .i64 a1_2] 23 (0, 0)) (by (with_reducible repeat (first | refine blk_drewN ?_ _ | refine blk_drew ?_ | refine blk_alloc ?_ _)); exact BK418.out)) : gb418 ≠ gb421)); have n6_ := Aside0.mk ((by rw [hg]; exact Nat.ne_of_gt (blk_lt (g := gb418) (o := .cells #[.bool a1_0, .string a1_1, .int .i64 a1_2] 23 (0, 0)) (by (with_reducible repeat (first | refine blk_drewN ?_ _ | refine blk_drew ?_ | refine blk_alloc ?_ _)); exact BK418.out)) : gb421 ≠ gb418)); clear BK418; clear HB; have BK418 := n0_; have HB := n1_; have BK421 := n2_; have GW421 := n3_; have GE421 := n4_; have NB418_421 := n5_; have NB421_418 := n6_; clear n0_ n1_ n2_ n3_ n4_ n5_ n6_; clear hb hbox hg; have hnb19 := NB421_418.out; have hnc19 := NB418_421.out; have hcz20_0 : w18.cell? ⟨gb421, 0, none⟩ = some (.bool false) := (blk_cell BK421.out 0).trans rfl; have hcz20_1 : w18.cell? ⟨gb421, 1, none⟩ = some (.string (⟨#[]⟩ : ByteArray)) := (blk_cell BK421.out 1).trans rfl; have hcz20_2 : w18.cell? ⟨gb421, 2, none⟩ = some (.int .i64 0) := (blk_cell BK421.out 2).trans rfl; have hfz20_0 := blk_frozen BK421.out 0; have hfz20_1 := blk_frozen BK421.out 1; have hfz20_2 := blk_frozen BK421.out 2; have hcz21_0 : w18.cell? ⟨gb418, 0, none⟩ = some (.bool a1_0) := (blk_cell BK418.out 0).trans rfl; have hcz21_1 : w18.cell? ⟨gb418, 1, none⟩ = some (.string a1_1) := (blk_cell BK418.out 1).trans rfl; have hcz21_2 : w18.cell? ⟨gb418, 2, none⟩ = some (.int .i64 a1_2) := (blk_cell BK418.out 2).trans rfl; have hfz21_0 := blk_frozen BK418.out 0; have hfz21_1 := blk_frozen BK418.out 1; have hfz21_2 := blk_frozen BK418.out 2) | ((with_reducible refine gate_callee (f := 16) rfl ?_); refine goesL_ (some 30) rfl rfl Tryd.func16 (by kernel_rfl) rfl #[.int .i64 a0, .agg #[.bool a1_0, .string a1_1, .int .i64 a1_2], .int .i64 a2] rfl (by (try simp only [List.map_toArray]); (try simp only [List.map_cons]); (try simp only [List.map_nil]); first | done | rfl | (simp only [List.length_drop, List.length_take]; rfl)) ?_; (with_reducible refine (place_Round.calls k a0 a1_0 a1_1 a1_2 a2 t422 t423 t424 t425 _ ?side1 A7.out).mono ?_); (case side1 => exact Fig.Glob.below HG.out (by repeat (first | (with_reducible first | exact HB.out | apply below_alloc | apply pw_below_drewN | apply below_drew1 | refine below_set ?_ GE418.out | refine below_set ?_ GE421.out) | exact HB.out))); rintro e w22 ⟨rfl, hb⟩; refine ⟨_, rfl, ?_⟩; have n0_ := Aside0.mk (blk_below (g := gb418) (o := .cells #[.bool a1_0, .string a1_1, .int .i64 a1_2] 23 (0, 0)) (by (with_reducible repeat (first | refine blk_drewN ?_ _ | refine blk_drew ?_ | refine blk_alloc ?_ _)); refine blk_far ?_ NB418_421.out _; (with_reducible repeat (first | refine blk_drewN ?_ _ | refine blk_drew ?_ | refine blk_alloc ?_ _)); refine blk_far ?_ NB418_421.out _; (with_reducible repeat (first | refine blk_drewN ?_ _ | refine blk_drew ?_ | refine blk_alloc ?_ _)); refine blk_far ?_ NB418_421.out _; (with_reducible repeat (first | refine blk_drewN ?_ _ | refine blk_drew ?_ | refine blk_alloc ?_ _)); refine blk_far ?_ NB418_421.out _; (with_reducible repeat (first | refine blk_drewN ?_ _ | refine blk_drew ?_ | refine blk_alloc ?_ _)); exact BK418.out) hb); have n1_ := Aside0.mk (blk_below (g := gb421) (o := .cells #[.bool a1_0, .string a1_1, .int .i64 (wrap64 (a1_2 + (wrap64 (a3))))] 23 (0, 0)) (by (with_reducible repeat (first | refine blk_drewN ?_ _ | refine blk_drew ?_ | refine blk_alloc ?_ _)); refine blk_put (cs := #[.bool a1_0, .string a1_1, .int .i64 a1_2]) ?_ 2 _ rfl; (with_reducible repeat (first | refine blk_drewN ?_ _ | refine blk_drew ?_ | refine blk_alloc ?_ _)); refine blk_put (cs := #[.bool a1_0, .string a1_1, .int .i64 0]) ?_ 2 _ rfl; (with_reducible repeat (first | refine blk_drewN ?_ _ | refine blk_drew ?_ | refine blk_alloc ?_ _)); refine blk_put (cs := #[.bool a1_0, .string (⟨#[]⟩ : ByteArray), .int .i64 0]) ?_ 1 _ rfl; (with_reducible repeat (first | refine blk_drewN ?_ _ | refine blk_drew ?_ | refine blk_alloc ?_ _)); refine blk_put (cs := #[.bool false, .string (⟨#[]⟩ : ByteArray), .int .i64 0]) ?_ 0 _ rfl; (with_reducible repeat (first | refine blk_drewN ?_ _ | refine blk_drew ?_ | refine blk_alloc ?_ _)); exact BK421.out) hb); have n2_ := Aside0.mk (below_step (by repeat (first | (with_reducible first | exact HB.out | apply below_alloc | apply pw_below_drewN | apply below_drew1 | refine below_set ?_ GE418.out | refine below_set ?_ GE421.out) | exact HB.out)) hb); clear BK418; clear BK421; clear HB; have BK418 := n0_; have BK421 := n1_; have HB := n2_; clear n0_ n1_ n2_; (try clear hb); (try clear hb2); (try clear hk); (try clear hi)) | ((with_reducible refine gate_dst (N := 10) rfl ?_); refine box_event ?hg (N := 10) ?hd (cs := #[.bool false, .string (⟨#[]⟩ : ByteArray), .int .i64 0]) (t := 23) ?hr ?_; (case hd => rfl); (case hg => rfl); (case hr => first | (go_simp; done) | (go_simp; rfl)); intro gb426 hg w23 hbox hb; have n0_ := Aside0.mk (blk_below (g := gb418) (o := .cells #[.bool a1_0, .string a1_1, .int .i64 a1_2] 23 (0, 0)) (by (with_reducible repeat (first | refine blk_drewN ?_ _ | refine blk_drew ?_ | refine blk_alloc ?_ _)); exact BK418.out) hb); have n1_ := Aside0.mk (blk_below (g := gb421) (o := .cells #[.bool a1_0, .string a1_1, .int .i64 (wrap64 (a1_2 + (wrap64 (a3))))] 23 (0, 0)) (by (with_reducible repeat (first | refine blk_drewN ?_ _ | refine blk_drew ?_ | refine blk_alloc ?_ _)); exact BK421.out) hb); have n2_ := Aside0.mk (below_step (by repeat (first | (with_reducible first | exact HB.out | apply below_alloc | apply pw_below_drewN | apply below_drew1 | refine below_set ?_ GE418.out | refine below_set ?_ GE421.out) | exact HB.out)) hb); have n3_ := Aside0.mk (hbox); have n4_ := Aside0.mk ((by rw [hg]; exact (below_size (by repeat (first | (with_reducible first | exact HB.out | apply below_alloc | apply pw_below_drewN | apply below_drew1 | refine below_set ?_ GE418.out | refine below_set ?_ GE421.out) | exact HB.out))) : w.heap.size ≤ gb426)); have n5_ := Aside0.mk ((by rw [hg]; exact (below_size (by repeat (first | (with_reducible first | exact HB.out | apply below_alloc | apply pw_below_drewN | apply below_drew1 | refine below_set ?_ GE418.out | refine below_set ?_ GE421.out) | exact HB.out))) : w.heap.size ≤ gb426)); have n6_ := Aside0.mk ((by rw [hg]; exact Nat.ne_of_lt (blk_lt (g := gb418) (o := .cells #[.bool a1_0, .string a1_1, .int .i64 a1_2] 23 (0, 0)) (by (with_reducible repeat (first | refine blk_drewN ?_ _ | refine blk_drew ?_ | refine blk_alloc ?_ _)); exact BK418.out)) : gb418 ≠ gb426)); have n7_ := Aside0.mk ((by rw [hg]; exact Nat.ne_of_gt (blk_lt (g := gb418) (o := .cells #[.bool a1_0, .string a1_1, .int .i64 a1_2] 23 (0, 0)) (by (with_reducible repeat (first | refine blk_drewN ?_ _ | refine blk_drew ?_ | refine blk_alloc ?_ _)); exact BK418.out)) : gb426 ≠ gb418)); have n8_ := Aside0.mk ((by rw [hg]; exact Nat.ne_of_lt (blk_lt (g := gb421) (o := .cells #[.bool a1_0, .string a1_1, .int .i64 (wrap64 (a1_2 + (wrap64 (a3))))] 23 (0, 0)) (by (with_reducible repeat (first | refine blk_drewN ?_ _ | refine blk_drew ?_ | refine blk_alloc ?_ _)); exact BK421.out)) : gb421 ≠ gb426)); have n9_ := Aside0.mk ((by rw [hg]; exact Nat.ne_of_gt (blk_lt (g := gb421) (o := .cells #[.bool a1_0, .string a1_1, .int .i64 (wrap64 (a1_2 + (wrap64 (a3))))] 23 (0, 0)) (by (with_reducible repeat (first | refine blk_drewN ?_ _ | refine blk_drew ?_ | refine blk_alloc ?_ _)); exact BK421.out)) : gb426 ≠ gb421)); clear BK418; clear BK421; clear HB; have BK418 := n0_; have BK421 := n1_; have HB := n2_; have BK426 := n3_; have GW426 := n4_; have GE426 := n5_; have NB418_426 := n6_; have NB426_418 := n7_; have NB421_426 := n8_; have NB426_421 := n9_; clear n0_ n1_ n2_ n3_ n4_ n5_ n6_ n7_ n8_ n9_; clear hb hbox hg; have hnb24 := NB426_418.out; have hnc24 := NB418_426.out; have hnb25 := NB426_421.out; have hnc25 := NB421_426.out; have hcz26_0 : w23.cell? ⟨gb426, 0, none⟩ = some (.bool false) := (blk_cell BK426.out 0).trans rfl; have hcz26_1 : w23.cell? ⟨gb426, 1, none⟩ = some (.string (⟨#[]⟩ : ByteArray)) := (blk_cell BK426.out 1).trans rfl; have hcz26_2 : w23.cell? ⟨gb426, 2, none⟩ = some (.int .i64 0) := (blk_cell BK426.out 2).trans rfl; have hfz26_0 := blk_frozen BK426.out 0; have hfz26_1 := blk_frozen BK426.out 1; have hfz26_2 := blk_frozen BK426.out 2; have hcz27_0 : w23.cell? ⟨gb421, 0, none⟩ = some (.bool a1_0) := (blk_cell BK421.out 0).trans rfl; have hcz27_1 : w23.cell? ⟨gb421, 1, none⟩ = some (.string a1_1) := (blk_cell BK421.out 1).trans rfl; have hcz27_2 : w23.cell? ⟨gb421, 2, none⟩ = some (.int .i64 (wrap64 (a1_2 + (wrap64 (a3))))) := (blk_cell BK421.out 2).trans rfl; have hfz27_0 := blk_frozen BK421.out 0; have hfz27_1 := blk_frozen BK421.out 1; have hfz27_2 := blk_frozen BK421.out 2) | ((with_reducible refine gate_callee (f := 16) rfl ?_); refine goesL_ (some 40) rfl rfl Tryd.func16 (by kernel_rfl) rfl #[.int .i64 a0, .agg #[.bool a1_0, .string a1_1, .int .i64 (wrap64 (a1_2 + (wrap64 (a3))))], .int .i64 (wrap64 (a2 + (wrap64 (a3))))] rfl (by (try simp only [List.map_toArray]); (try simp only [List.map_cons]); (try simp only [List.map_nil]); first | done | rfl | (simp only [List.length_drop, List.length_take]; rfl)) ?_; (with_reducible refine (place_Round.calls k a0 a1_0 a1_1 (wrap64 (a1_2 + (wrap64 (a3)))) (wrap64 (a2 + (wrap64 (a3)))) t427 t428 t429 t430 _ ?side1 A8.out).mono ?_); (case side1 => exact Fig.Glob.below HG.out (by repeat (first | (with_reducible first | exact HB.out | apply below_alloc | apply pw_below_drewN | apply below_drew1 | refine below_set ?_ GE418.out | refine below_set ?_ GE421.out | refine below_set ?_ GE426.out) | exact HB.out))); rintro e w28 ⟨rfl, hb⟩; refine ⟨_, rfl, ?_⟩; have n0_ := Aside0.mk (blk_below (g := gb418) (o := .cells #[.bool a1_0, .string a1_1, .int .i64 a1_2] 23 (0, 0)) (by (with_reducible repeat (first | refine blk_drewN ?_ _ | refine blk_drew ?_ | refine blk_alloc ?_ _)); refine blk_far ?_ NB418_426.out _; (with_reducible repeat (first | refine blk_drewN ?_ _ | refine blk_drew ?_ | refine blk_alloc ?_ _)); refine blk_far ?_ NB418_426.out _; (with_reducible repeat (first | refine blk_drewN ?_ _ | refine blk_drew ?_ | refine blk_alloc ?_ _)); refine blk_far ?_ NB418_426.out _; (with_reducible repeat (first | refine blk_drewN ?_ _ | refine blk_drew ?_ | refine blk_alloc ?_ _)); exact BK418.out) hb); have n1_ := Aside0.mk (blk_below (g := gb421) (o := .cells #[.bool a1_0, .string a1_1, .int .i64 (wrap64 (a1_2 + (wrap64 (a3))))] 23 (0, 0)) (by (with_reducible repeat (first | refine blk_drewN ?_ _ | refine blk_drew ?_ | refine blk_alloc ?_ _)); refine blk_far ?_ NB421_426.out _; (with_reducible repeat (first | refine blk_drewN ?_ _ | refine blk_drew ?_ | refine blk_alloc ?_ _)); refine blk_far ?_ NB421_426.out _; (with_reducible repeat (first | refine blk_drewN ?_ _ | refine blk_drew ?_ | refine blk_alloc ?_ _)); refine blk_far ?_ NB421_426.out _; (with_reducible repeat (first | refine blk_drewN ?_ _ | refine blk_drew ?_ | refine blk_alloc ?_ _)); exact BK421.out) hb); have n2_ := Aside0.mk (blk_below (g := gb426) (o := .cells #[.bool t422, .string t423, .int .i64 t424] 23 (0, 0)) (by (with_reducible repeat (first | refine blk_drewN ?_ _ | refine blk_drew ?_ | refine blk_alloc ?_ _)); refine blk_put (cs := #[.bool t422, .string t423, .int .i64 0]) ?_ 2 _ rfl; (with_reducible repeat (first | refine blk_drewN ?_ _ | refine blk_drew ?_ | refine blk_alloc ?_ _)); refine blk_put (cs := #[.bool t422, .string (⟨#[]⟩ : ByteArray), .int .i64 0]) ?_ 1 _ rfl; (with_reducible repeat (first | refine blk_drewN ?_ _ | refine blk_drew ?_ | refine blk_alloc ?_ _)); refine blk_put (cs := #[.bool false, .string (⟨#[]⟩ : ByteArray), .int .i64 0]) ?_ 0 _ rfl; (with_reducible repeat (first | refine blk_drewN ?_ _ | refine blk_drew ?_ | refine blk_alloc ?_ _)); exact BK426.out) hb); have n3_ := Aside0.mk (below_step (by repeat (first | (with_reducible first | exact HB.out | apply below_alloc | apply pw_below_drewN | apply below_drew1 | refine below_set ?_ GE418.out | refine below_set ?_ GE421.out | refine below_set ?_ GE426.out) | exact HB.out)) hb); clear BK418; clear BK421; clear BK426; clear HB; have BK418 := n0_; have BK421 := n1_; have BK426 := n2_; have HB := n3_; clear n0_ n1_ n2_ n3_; (try clear hb); (try clear hb2); (try clear hk); (try clear hi)) | ((with_reducible refine gate_dst (N := 12) rfl ?_); refine box_event ?hg (N := 12) ?hd (cs := #[.bool false, .string (⟨#[]⟩ : ByteArray), .int .i64 0]) (t := 23) ?hr ?_; (case hd => rfl); (case hg => rfl); (case hr => first | (go_simp; done) | (go_simp; rfl)); intro gb431 hg w29 hbox hb; have n0_ := Aside0.mk (blk_below (g := gb418) (o := .cells #[.bool a1_0, .string a1_1, .int .i64 a1_2] 23 (0, 0)) (by (with_reducible repeat (first | refine blk_drewN ?_ _ | refine blk_drew ?_ | refine blk_alloc ?_ _)); exact BK418.out) hb); have n1_ := Aside0.mk (blk_below (g := gb421) (o := .cells #[.bool a1_0, .string a1_1, .int .i64 (wrap64 (a1_2 + (wrap64 (a3))))] 23 (0, 0)) (by (with_reducible repeat (first | refine blk_drewN ?_ _ | refine blk_drew ?_ | refine blk_alloc ?_ _)); exact BK421.out) hb); have n2_ := Aside0.mk (blk_below (g := gb426) (o := .cells #[.bool t422, .string t423, .int .i64 t424] 23 (0, 0)) (by (with_reducible repeat (first | refine blk_drewN ?_ _ | refine blk_drew ?_ | refine blk_alloc ?_ _)); exact BK426.out) hb); have n3_ := Aside0.mk (below_step (by repeat (first | (with_reducible first | exact HB.out | apply below_alloc | apply pw_below_drewN | apply below_drew1 | refine below_set ?_ GE418.out | refine below_set ?_ GE421.out | refine below_set ?_ GE426.out) | exact HB.out)) hb); have n4_ := Aside0.mk (hbox); have n5_ := Aside0.mk ((by rw [hg]; exact (below_size (by repeat (first | (with_reducible first | exact HB.out | apply below_alloc | apply pw_below_drewN | apply below_drew1 | refine below_set ?_ GE418.out | refine below_set ?_ GE421.out | refine below_set ?_ GE426.out) | exact HB.out))) : w.heap.size ≤ gb431)); have n6_ := Aside0.mk ((by rw [hg]; exact (below_size (by repeat (first | (with_reducible first | exact HB.out | apply below_alloc | apply pw_below_drewN | apply below_drew1 | refine below_set ?_ GE418.out | refine below_set ?_ GE421.out | refine below_set ?_ GE426.out) | exact HB.out))) : w.heap.size ≤ gb431)); have n7_ := Aside0.mk ((by rw [hg]; exact Nat.ne_of_lt (blk_lt (g := gb418) (o := .cells #[.bool a1_0, .string a1_1, .int .i64 a1_2] 23 (0, 0)) (by (with_reducible repeat (first | refine blk_drewN ?_ _ | refine blk_drew ?_ | refine blk_alloc ?_ _)); exact BK418.out)) : gb418 ≠ gb431)); have n8_ := Aside0.mk ((by rw [hg]; exact Nat.ne_of_gt (blk_lt (g := gb418) (o := .cells #[.bool a1_0, .string a1_1, .int .i64 a1_2] 23 (0, 0)) (by (with_reducible repeat (first | refine blk_drewN ?_ _ | refine blk_drew ?_ | refine blk_alloc ?_ _)); exact BK418.out)) : gb431 ≠ gb418)); have n9_ := Aside0.mk ((by rw [hg]; exact Nat.ne_of_lt (blk_lt (g := gb421) (o := .cells #[.bool a1_0, .string a1_1, .int .i64 (wrap64 (a1_2 + (wrap64 (a3))))] 23 (0, 0)) (by (with_reducible repeat (first | refine blk_drewN ?_ _ | refine blk_drew ?_ | refine blk_alloc ?_ _)); exact BK421.out)) : gb421 ≠ gb431)); have n10_ := Aside0.mk ((by rw [hg]; exact Nat.ne_of_gt (blk_lt (g := gb421) (o := .cells #[.bool a1_0, .string a1_1, .int .i64 (wrap64 (a1_2 + (wrap64 (a3))))] 23 (0, 0)) (by (with_reducible repeat (first | refine blk_drewN ?_ _ | refine blk_drew ?_ | refine blk_alloc ?_ _)); exact BK421.out)) : gb431 ≠ gb421)); have n11_ := Aside0.mk ((by rw [hg]; exact Nat.ne_of_lt (blk_lt (g := gb426) (o := .cells #[.bool t422, .string t423, .int .i64 t424] 23 (0, 0)) (by (with_reducible repeat (first | refine blk_drewN ?_ _ | refine blk_drew ?_ | refine blk_alloc ?_ _)); exact BK426.out)) : gb426 ≠ gb431)); have n12_ := Aside0.mk ((by rw [hg]; exact Nat.ne_of_gt (blk_lt (g := gb426) (o := .cells #[.bool t422, .string t423, .int .i64 t424] 23 (0, 0)) (by (with_reducible repeat (first | refine blk_drewN ?_ _ | refine blk_drew ?_ | refine blk_alloc ?_ _)); exact BK426.out)) : gb431 ≠ gb426)); clear BK418; clear BK421; clear BK426; clear HB; have BK418 := n0_; have BK421 := n1_; have BK426 := n2_; have HB := n3_; have BK431 := n4_; have GW431 := n5_; have GE431 := n6_; have NB418_431 := n7_; have NB431_418 := n8_; have NB421_431 := n9_; have NB431_421 := n10_; have NB426_431 := n11_; have NB431_426 := n12_; clear n0_ n1_ n2_ n3_ n4_ n5_ n6_ n7_ n8_ n9_ n10_ n11_ n12_; clear hb hbox hg; have hnb30 := NB431_418.out; have hnc30 := NB418_431.out; have hnb31 := NB431_421.out; have hnc31 := NB421_431.out; have hnb32 := NB431_426.out; have hnc32 := NB426_431.out; have hcz33_0 : w29.cell? ⟨gb431, 0, none⟩ = some (.bool false) := (blk_cell BK431.out 0).trans rfl; have hcz33_1 : w29.cell? ⟨gb431, 1, none⟩ = some (.string (⟨#[]⟩ : ByteArray)) := (blk_cell BK431.out 1).trans rfl; have hcz33_2 : w29.cell? ⟨gb431, 2, none⟩ = some (.int .i64 0) := (blk_cell BK431.out 2).trans rfl; have hfz33_0 := blk_frozen BK431.out 0; have hfz33_1 := blk_frozen BK431.out 1; have hfz33_2 := blk_frozen BK431.out 2; have hcz34_0 : w29.cell? ⟨gb426, 0, none⟩ = some (.bool t422) := (blk_cell BK426.out 0).trans rfl; have hcz34_1 : w29.cell? ⟨gb426, 1, none⟩ = some (.string t423) := (blk_cell BK426.out 1).trans rfl; have hcz34_2 : w29.cell? ⟨gb426, 2, none⟩ = some (.int .i64 t424) := (blk_cell BK426.out 2).trans rfl; have hfz34_0 := blk_frozen BK426.out 0; have hfz34_1 := blk_frozen BK426.out 1; have hfz34_2 := blk_frozen BK426.out 2))
          have n0_ : Aside0 (((((w29.setCell ⟨gb431, 0, none⟩ (.bool t427)).setCell ⟨gb431, 1, none⟩ (.string t428)).setCell ⟨gb431, 2, none⟩ (.int .i64 t429)).setCell ⟨gb426, 2, none⟩ (.int .i64 (wrap64 (t424 + (wrap64 (a3)))))).heap[gb418]? = some (.cells #[.bool a1_0, .string a1_1, .int .i64 a1_2] 23 (0, 0))) := ⟨by (with_reducible repeat (first | refine blk_drewN ?_ _ | refine blk_drew ?_ | refine blk_alloc ?_ _)); refine blk_far ?_ NB418_426.out _; (with_reducible repeat (first | refine blk_drewN ?_ _ | refine blk_drew ?_ | refine blk_alloc ?_ _)); refine blk_far ?_ NB418_431.out _; (with_reducible repeat (first | refine blk_drewN ?_ _ | refine blk_drew ?_ | refine blk_alloc ?_ _)); refine blk_far ?_ NB418_431.out _; (with_reducible repeat (first | refine blk_drewN ?_ _ | refine blk_drew ?_ | refine blk_alloc ?_ _)); refine blk_far ?_ NB418_431.out _; (with_reducible repeat (first | refine blk_drewN ?_ _ | refine blk_drew ?_ | refine blk_alloc ?_ _)); exact BK418.out⟩
          have n1_ : Aside0 (((((w29.setCell ⟨gb431, 0, none⟩ (.bool t427)).setCell ⟨gb431, 1, none⟩ (.string t428)).setCell ⟨gb431, 2, none⟩ (.int .i64 t429)).setCell ⟨gb426, 2, none⟩ (.int .i64 (wrap64 (t424 + (wrap64 (a3)))))).heap[gb421]? = some (.cells #[.bool a1_0, .string a1_1, .int .i64 (wrap64 (a1_2 + (wrap64 (a3))))] 23 (0, 0))) := ⟨by (with_reducible repeat (first | refine blk_drewN ?_ _ | refine blk_drew ?_ | refine blk_alloc ?_ _)); refine blk_far ?_ NB421_426.out _; (with_reducible repeat (first | refine blk_drewN ?_ _ | refine blk_drew ?_ | refine blk_alloc ?_ _)); refine blk_far ?_ NB421_431.out _; (with_reducible repeat (first | refine blk_drewN ?_ _ | refine blk_drew ?_ | refine blk_alloc ?_ _)); refine blk_far ?_ NB421_431.out _; (with_reducible repeat (first | refine blk_drewN ?_ _ | refine blk_drew ?_ | refine blk_alloc ?_ _)); refine blk_far ?_ NB421_431.out _; (with_reducible repeat (first | refine blk_drewN ?_ _ | refine blk_drew ?_ | refine blk_alloc ?_ _)); exact BK421.out⟩
          have n2_ : Aside0 (((((w29.setCell ⟨gb431, 0, none⟩ (.bool t427)).setCell ⟨gb431, 1, none⟩ (.string t428)).setCell ⟨gb431, 2, none⟩ (.int .i64 t429)).setCell ⟨gb426, 2, none⟩ (.int .i64 (wrap64 (t424 + (wrap64 (a3)))))).heap[gb426]? = some (.cells #[.bool t422, .string t423, .int .i64 (wrap64 (t424 + (wrap64 (a3))))] 23 (0, 0))) := ⟨by (with_reducible repeat (first | refine blk_drewN ?_ _ | refine blk_drew ?_ | refine blk_alloc ?_ _)); refine blk_put (cs := #[.bool t422, .string t423, .int .i64 t424]) ?_ 2 _ rfl; (with_reducible repeat (first | refine blk_drewN ?_ _ | refine blk_drew ?_ | refine blk_alloc ?_ _)); refine blk_far ?_ NB426_431.out _; (with_reducible repeat (first | refine blk_drewN ?_ _ | refine blk_drew ?_ | refine blk_alloc ?_ _)); refine blk_far ?_ NB426_431.out _; (with_reducible repeat (first | refine blk_drewN ?_ _ | refine blk_drew ?_ | refine blk_alloc ?_ _)); refine blk_far ?_ NB426_431.out _; (with_reducible repeat (first | refine blk_drewN ?_ _ | refine blk_drew ?_ | refine blk_alloc ?_ _)); exact BK426.out⟩
          have n3_ : Aside0 (((((w29.setCell ⟨gb431, 0, none⟩ (.bool t427)).setCell ⟨gb431, 1, none⟩ (.string t428)).setCell ⟨gb431, 2, none⟩ (.int .i64 t429)).setCell ⟨gb426, 2, none⟩ (.int .i64 (wrap64 (t424 + (wrap64 (a3)))))).heap[gb431]? = some (.cells #[.bool t427, .string t428, .int .i64 t429] 23 (0, 0))) := ⟨by (with_reducible repeat (first | refine blk_drewN ?_ _ | refine blk_drew ?_ | refine blk_alloc ?_ _)); refine blk_far ?_ NB431_426.out _; (with_reducible repeat (first | refine blk_drewN ?_ _ | refine blk_drew ?_ | refine blk_alloc ?_ _)); refine blk_put (cs := #[.bool t427, .string t428, .int .i64 0]) ?_ 2 _ rfl; (with_reducible repeat (first | refine blk_drewN ?_ _ | refine blk_drew ?_ | refine blk_alloc ?_ _)); refine blk_put (cs := #[.bool t427, .string (⟨#[]⟩ : ByteArray), .int .i64 0]) ?_ 1 _ rfl; (with_reducible repeat (first | refine blk_drewN ?_ _ | refine blk_drew ?_ | refine blk_alloc ?_ _)); refine blk_put (cs := #[.bool false, .string (⟨#[]⟩ : ByteArray), .int .i64 0]) ?_ 0 _ rfl; (with_reducible repeat (first | refine blk_drewN ?_ _ | refine blk_drew ?_ | refine blk_alloc ?_ _)); exact BK431.out⟩
          have n4_ : Aside0 (Below w.heap.size w ((((w29.setCell ⟨gb431, 0, none⟩ (.bool t427)).setCell ⟨gb431, 1, none⟩ (.string t428)).setCell ⟨gb431, 2, none⟩ (.int .i64 t429)).setCell ⟨gb426, 2, none⟩ (.int .i64 (wrap64 (t424 + (wrap64 (a3))))))) := ⟨by repeat (first | (with_reducible first | exact HB.out | apply below_alloc | apply pw_below_drewN | apply below_drew1 | refine below_set ?_ GE418.out | refine below_set ?_ GE421.out | refine below_set ?_ GE426.out | refine below_set ?_ GE431.out) | exact HB.out)⟩
          (try clear BK418)
          (try clear BK421)
          (try clear BK426)
          (try clear BK431)
          (try clear HB)
          generalize ((((w29.setCell ⟨gb431, 0, none⟩ (.bool t427)).setCell ⟨gb431, 1, none⟩ (.string t428)).setCell ⟨gb431, 2, none⟩ (.int .i64 t429)).setCell ⟨gb426, 2, none⟩ (.int .i64 (wrap64 (t424 + (wrap64 (a3)))))) = w35 at n0_ n1_ n2_ n3_ n4_ ⊢
          have BK418 := n0_
          have BK421 := n1_
          have BK426 := n2_
          have BK431 := n3_
          have HB := n4_
          clear n0_ n1_ n2_ n3_ n4_
          (try (rw [drewN_self w35]; generalize hq_ : World.drewN w35 _ = w35; have n0_ : Aside0 (w35.heap[gb418]? = some (.cells #[.bool a1_0, .string a1_1, .int .i64 a1_2] 23 (0, 0))) := ⟨by rw [← hq_]; exact (by (with_reducible repeat (first | refine blk_drewN ?_ _ | refine blk_drew ?_ | refine blk_alloc ?_ _)); exact BK418.out)⟩; have n1_ : Aside0 (w35.heap[gb421]? = some (.cells #[.bool a1_0, .string a1_1, .int .i64 (wrap64 (a1_2 + (wrap64 (a3))))] 23 (0, 0))) := ⟨by rw [← hq_]; exact (by (with_reducible repeat (first | refine blk_drewN ?_ _ | refine blk_drew ?_ | refine blk_alloc ?_ _)); exact BK421.out)⟩; have n2_ : Aside0 (w35.heap[gb426]? = some (.cells #[.bool t422, .string t423, .int .i64 (wrap64 (t424 + (wrap64 (a3))))] 23 (0, 0))) := ⟨by rw [← hq_]; exact (by (with_reducible repeat (first | refine blk_drewN ?_ _ | refine blk_drew ?_ | refine blk_alloc ?_ _)); exact BK426.out)⟩; have n3_ : Aside0 (w35.heap[gb431]? = some (.cells #[.bool t427, .string t428, .int .i64 t429] 23 (0, 0))) := ⟨by rw [← hq_]; exact (by (with_reducible repeat (first | refine blk_drewN ?_ _ | refine blk_drew ?_ | refine blk_alloc ?_ _)); exact BK431.out)⟩; have n4_ : Aside0 (Below w.heap.size w w35) := ⟨by rw [← hq_]; exact (by repeat (first | (with_reducible first | exact HB.out | apply below_alloc | apply pw_below_drewN | apply below_drew1 | refine below_set ?_ GE418.out | refine below_set ?_ GE421.out | refine below_set ?_ GE426.out | refine below_set ?_ GE431.out) | exact HB.out))⟩; clear BK418 BK421 BK426 BK431 HB hq_; have BK418 := n0_; have BK421 := n1_; have BK426 := n2_; have BK431 := n3_; have HB := n4_; clear n0_ n1_ n2_ n3_ n4_))
          have n0_ := Aside0.mk (blk_drew BK418.out)
          have n1_ := Aside0.mk (blk_drew BK421.out)
          have n2_ := Aside0.mk (blk_drew BK426.out)
          have n3_ := Aside0.mk (blk_drew BK431.out)
          have n4_ := Aside0.mk (below_drew1 HB.out)
          clear BK418
          clear BK421
          clear BK426
          clear BK431
          clear HB
          have BK418 := n0_
          have BK421 := n1_
          have BK426 := n2_
          have BK431 := n3_
          have HB := n4_
          clear n0_ n1_ n2_ n3_ n4_
          refine start_ (n := 12) (S := fun w' => w'.cell? ⟨gb426, 0, none⟩ = some (.bool t422) ∧ w'.cell? ⟨gb426, 1, none⟩ = some (.string t423) ∧ w'.cell? ⟨gb426, 2, none⟩ = some (.int .i64 (wrap64 (t424 + (wrap64 (a3))))) ∧ w'.cell? ⟨gb431, 0, none⟩ = some (.bool t427) ∧ w'.cell? ⟨gb431, 1, none⟩ = some (.string t428) ∧ w'.cell? ⟨gb431, 2, none⟩ = some (.int .i64 t429)) (ds := []) #[false, false, false, false, false, false, false, false, false, false, false, false] (by kernel_rfl) rfl rfl ⟨(blk_cell BK426.out 0).trans rfl, (blk_cell BK426.out 1).trans rfl, (blk_cell BK426.out 2).trans rfl, (blk_cell BK431.out 0).trans rfl, (blk_cell BK431.out 1).trans rfl, (blk_cell BK431.out 2).trans rfl⟩ (fun hHeld => ?_); refine with_tabW figureheadlaw08_PlaceMoves.tab10 figureheadlaw08_PlaceMoves.bits10 (fun HT_ HW_ => ?_)
          generalize w35.drew = w36 at BK418 BK421 BK426 BK431 HB hHeld ⊢
          refine one_ (i := 0) (N := some 57) #[true, false, false, false, false, false, false, false, false, false, false, false] rfl rfl (one_of HT_.out (by kernel_rfl)) (by decide) (fun K hK => ?_)
          refine goes_ Tryd.func15 (by kernel_rfl) rfl #[] (by rfl) rfl rfl (by (try simp only [List.map_toArray]); (try simp only [List.map_cons]); (try simp only [List.map_nil]); first | done | rfl | (simp only [List.length_drop, List.length_take]; rfl)) ?_
          with_reducible refine (figureheadlaw08_answers.calls k  true _ ?side1 ?side2 A10.out).mono ?_
          (case side1 => exact Fig.Glob.below HG.out (by repeat (first | (with_reducible first | exact HB.out | apply below_alloc | apply pw_below_drewN | apply below_drew1 | refine below_set ?_ GE418.out | refine below_set ?_ GE421.out | refine below_set ?_ GE426.out | refine below_set ?_ GE431.out) | exact HB.out)))
          (case side2 => exact ⟨by first | rfl | exact HT.out⟩)
          rintro e w37 ⟨rfl, hb⟩
          refine ⟨_, rfl, ?_⟩
          have n0_ := Aside0.mk (blk_below (g := gb418) (o := .cells #[.bool a1_0, .string a1_1, .int .i64 a1_2] 23 (0, 0)) (by (with_reducible repeat (first | refine blk_drewN ?_ _ | refine blk_drew ?_ | refine blk_alloc ?_ _)); exact BK418.out) hb)
          have n1_ := Aside0.mk (blk_below (g := gb421) (o := .cells #[.bool a1_0, .string a1_1, .int .i64 (wrap64 (a1_2 + (wrap64 (a3))))] 23 (0, 0)) (by (with_reducible repeat (first | refine blk_drewN ?_ _ | refine blk_drew ?_ | refine blk_alloc ?_ _)); exact BK421.out) hb)
          have n2_ := Aside0.mk (blk_below (g := gb426) (o := .cells #[.bool t422, .string t423, .int .i64 (wrap64 (t424 + (wrap64 (a3))))] 23 (0, 0)) (by (with_reducible repeat (first | refine blk_drewN ?_ _ | refine blk_drew ?_ | refine blk_alloc ?_ _)); exact BK426.out) hb)
          have n3_ := Aside0.mk (blk_below (g := gb431) (o := .cells #[.bool t427, .string t428, .int .i64 t429] 23 (0, 0)) (by (with_reducible repeat (first | refine blk_drewN ?_ _ | refine blk_drew ?_ | refine blk_alloc ?_ _)); exact BK431.out) hb)
          have n4_ := Aside0.mk (below_step (by repeat (first | (with_reducible first | exact HB.out | apply below_alloc | apply pw_below_drewN | apply below_drew1 | refine below_set ?_ GE418.out | refine below_set ?_ GE421.out | refine below_set ?_ GE426.out | refine below_set ?_ GE431.out) | exact HB.out)) hb)
          clear BK418
          clear BK421
          clear BK426
          clear BK431
          clear HB
          have BK418 := n0_
          have BK421 := n1_
          have BK426 := n2_
          have BK431 := n3_
          have HB := n4_
          clear n0_ n1_ n2_ n3_ n4_
          (try clear hb)
          (try clear hb2)
          (try clear hk)
          (try clear hi)
          refine hK.out _ _ ⟨(blk_cell BK426.out 0).trans rfl, (blk_cell BK426.out 1).trans rfl, (blk_cell BK426.out 2).trans rfl, (blk_cell BK431.out 0).trans rfl, (blk_cell BK431.out 1).trans rfl, (blk_cell BK431.out 2).trans rfl⟩ (fun hHeld => ?_)
          clear hK K
          refine norm_ (a' := ?_) ?_ ?_
          rotate_left
          · show Act.put _ (some 57) _ = _
            simp only [Act.put, List.setIfInBounds_toArray, List.set_cons_zero, List.set_cons_succ]; (try simp only [i64_w]); (try simp only [i32_w])
            rfl
          refine pure_ (i := 1) (N := some 58) (v := ?_) (a' := ?_) #[true, true, false, false, false, false, false, false, false, false, false, false] rfl rfl (any_of HT_.out (by kernel_rfl)) (fun _ _ _ h => h) (Or.inl ⟨by rfl, ?_⟩) ?_ ?_
          rotate_left
          · intro w'
            go_simp
            with_reducible rfl
          rotate_left
          · simp only [Act.put, List.setIfInBounds_toArray, List.set_cons_zero, List.set_cons_succ]; (try simp only [i64_w]); (try simp only [i32_w])
            rfl
          refine pure_ (i := 2) (N := some 59) (v := ?_) (a' := ?_) #[true, true, true, false, false, false, false, false, false, false, false, false] rfl rfl (any_of HT_.out (by kernel_rfl)) (fun _ _ _ h => h) (Or.inl ⟨by rfl, ?_⟩) ?_ ?_
          rotate_left
          · intro w'
            go_simp
            with_reducible rfl
          rotate_left
          · simp only [Act.put, List.setIfInBounds_toArray, List.set_cons_zero, List.set_cons_succ]; (try simp only [i64_w]); (try simp only [i32_w])
            rfl
          refine pure_ (i := 3) (N := some 60) (v := ?_) (a' := ?_) #[true, true, true, true, false, false, false, false, false, false, false, false] rfl rfl (any_of HT_.out (by kernel_rfl)) (fun _ _ _ h => h) (Or.inl ⟨by rfl, ?_⟩) ?_ ?_
          rotate_left
          · intro w'
            go_simp
            with_reducible rfl
          rotate_left
          · simp only [Act.put, List.setIfInBounds_toArray, List.set_cons_zero, List.set_cons_succ]; (try simp only [i64_w]); (try simp only [i32_w])
            rfl
          refine pure_ (i := 4) (N := some 61) (v := ?_) (a' := ?_) #[true, true, true, true, true, false, false, false, false, false, false, false] rfl rfl (any_of HT_.out (by kernel_rfl)) (fun _ _ _ h => h) (Or.inl ⟨by rfl, ?_⟩) ?_ ?_
          rotate_left
          · intro w'
            go_simp
            with_reducible rfl
          rotate_left
          · simp only [Act.put, List.setIfInBounds_toArray, List.set_cons_zero, List.set_cons_succ]; (try simp only [i64_w]); (try simp only [i32_w])
            rfl
          refine pure_ (i := 5) (N := some 62) (v := ?_) (a' := ?_) #[true, true, true, true, true, true, false, false, false, false, false, false] rfl rfl (any_of HT_.out (by kernel_rfl)) (fun _ _ _ h => h) (Or.inl ⟨by rfl, ?_⟩) ?_ ?_
          rotate_left
          · intro w'
            go_simp
            with_reducible rfl
          rotate_left
          · simp only [Act.put, List.setIfInBounds_toArray, List.set_cons_zero, List.set_cons_succ]; (try simp only [i64_w]); (try simp only [i32_w])
            rfl
          refine take_ (i := 6) (N := some 63) (v := ?_) (a' := ?_) #[true, true, true, true, true, true, true, false, false, false, false, false] rfl rfl (take_ofW HT_.out HW_.out (by kernel_rfl)) (fun _ _ _ h => h) (Or.inl ⟨by rfl, ?_⟩) hHeld ?_ ?_
          rotate_left
          · rintro w' ⟨s0, s1, s2, s3, s4, s5⟩
            go_simp
            with_reducible rfl
          rotate_left
          · simp only [Act.put, List.setIfInBounds_toArray, List.set_cons_zero, List.set_cons_succ]; (try simp only [i64_w]); (try simp only [i32_w])
            rfl
          refine take_ (i := 8) (N := some 65) (v := ?_) (a' := ?_) #[true, true, true, true, true, true, true, false, true, false, false, false] rfl rfl (take_ofW HT_.out HW_.out (by kernel_rfl)) (fun _ _ _ h => h) (Or.inl ⟨by rfl, ?_⟩) hHeld ?_ ?_
          rotate_left
          · rintro w' ⟨s0, s1, s2, s3, s4, s5⟩
            go_simp
            with_reducible rfl
          rotate_left
          · simp only [Act.put, List.setIfInBounds_toArray, List.set_cons_zero, List.set_cons_succ]; (try simp only [i64_w]); (try simp only [i32_w])
            rfl
          refine one_ (i := 7) (N := some 64) #[true, true, true, true, true, true, true, true, true, false, false, false] rfl rfl (one_of HT_.out (by kernel_rfl)) (by decide) (fun K hK => ?_)
          refine goes_ Tryd.func19 (by kernel_rfl) rfl #[.agg #[.bool t422, .string t423, .int .i64 (wrap64 (t424 + (wrap64 (a3))))]] (by rfl) rfl rfl (by (try simp only [List.map_toArray]); (try simp only [List.map_cons]); (try simp only [List.map_nil]); first | done | rfl | (simp only [List.length_drop, List.length_take]; rfl)) ?_
          with_reducible refine (figureheadref05_Norm.calls k t422 t423 (wrap64 (t424 + (wrap64 (a3)))) t433 t434 t435 _ A13.out).mono ?_
          rintro e w38 ⟨rfl, hb⟩
          refine ⟨_, rfl, ?_⟩
          have n0_ := Aside0.mk (blk_below (g := gb418) (o := .cells #[.bool a1_0, .string a1_1, .int .i64 a1_2] 23 (0, 0)) (by (with_reducible repeat (first | refine blk_drewN ?_ _ | refine blk_drew ?_ | refine blk_alloc ?_ _)); exact BK418.out) hb)
          have n1_ := Aside0.mk (blk_below (g := gb421) (o := .cells #[.bool a1_0, .string a1_1, .int .i64 (wrap64 (a1_2 + (wrap64 (a3))))] 23 (0, 0)) (by (with_reducible repeat (first | refine blk_drewN ?_ _ | refine blk_drew ?_ | refine blk_alloc ?_ _)); exact BK421.out) hb)
          have n2_ := Aside0.mk (blk_below (g := gb426) (o := .cells #[.bool t422, .string t423, .int .i64 (wrap64 (t424 + (wrap64 (a3))))] 23 (0, 0)) (by (with_reducible repeat (first | refine blk_drewN ?_ _ | refine blk_drew ?_ | refine blk_alloc ?_ _)); exact BK426.out) hb)
          have n3_ := Aside0.mk (blk_below (g := gb431) (o := .cells #[.bool t427, .string t428, .int .i64 t429] 23 (0, 0)) (by (with_reducible repeat (first | refine blk_drewN ?_ _ | refine blk_drew ?_ | refine blk_alloc ?_ _)); exact BK431.out) hb)
          have n4_ := Aside0.mk (below_step (by repeat (first | (with_reducible first | exact HB.out | apply below_alloc | apply pw_below_drewN | apply below_drew1 | refine below_set ?_ GE418.out | refine below_set ?_ GE421.out | refine below_set ?_ GE426.out | refine below_set ?_ GE431.out) | exact HB.out)) hb)
          clear BK418
          clear BK421
          clear BK426
          clear BK431
          clear HB
          have BK418 := n0_
          have BK421 := n1_
          have BK426 := n2_
          have BK431 := n3_
          have HB := n4_
          clear n0_ n1_ n2_ n3_ n4_
          (try clear hb)
          (try clear hb2)
          (try clear hk)
          (try clear hi)
          refine hK.out _ _ ⟨(blk_cell BK426.out 0).trans rfl, (blk_cell BK426.out 1).trans rfl, (blk_cell BK426.out 2).trans rfl, (blk_cell BK431.out 0).trans rfl, (blk_cell BK431.out 1).trans rfl, (blk_cell BK431.out 2).trans rfl⟩ (fun hHeld => ?_)
          clear hK K
          refine norm_ (a' := ?_) ?_ ?_
          rotate_left
          · show Act.put _ (some 64) _ = _
            simp only [Act.put, List.setIfInBounds_toArray, List.set_cons_zero, List.set_cons_succ]; (try simp only [i64_w]); (try simp only [i32_w])
            rfl
          refine pure_ (i := 9) (N := some 66) (v := ?_) (a' := ?_) #[true, true, true, true, true, true, true, true, true, true, false, false] rfl rfl (any_of HT_.out (by kernel_rfl)) (fun _ _ _ h => h) (Or.inl ⟨by rfl, ?_⟩) ?_ ?_
          rotate_left
          · intro w'
            go_simp
            with_reducible rfl
          rotate_left
          · simp only [Act.put, List.setIfInBounds_toArray, List.set_cons_zero, List.set_cons_succ]; (try simp only [i64_w]); (try simp only [i32_w])
            rfl
          refine pure_ (i := 10) (N := some 67) (v := ?_) (a' := ?_) #[true, true, true, true, true, true, true, true, true, true, true, false] rfl rfl (any_of HT_.out (by kernel_rfl)) (fun _ _ _ h => h) (Or.inl ⟨by rfl, ?_⟩) ?_ ?_
          rotate_left
          · intro w'
            go_simp
            with_reducible rfl
          rotate_left
          · simp only [Act.put, List.setIfInBounds_toArray, List.set_cons_zero, List.set_cons_succ]; (try simp only [i64_w]); (try simp only [i32_w])
            rfl
          refine pure_ (i := 11) (N := some 8) (v := ?_) (a' := ?_) #[true, true, true, true, true, true, true, true, true, true, true, true] rfl rfl (any_of HT_.out (by kernel_rfl)) (fun _ _ _ h => h) (Or.inl ⟨by rfl, ?_⟩) ?_ ?_
          rotate_left
          · intro w'
            go_simp
            with_reducible rfl
          rotate_left
          · simp only [Act.put, List.setIfInBounds_toArray, List.set_cons_zero, List.set_cons_succ]; (try simp only [i64_w]); (try simp only [i32_w])
            rfl
          refine done_ (done_of HT_.out (by kernel_rfl)) ?_
          try go_wp2
          go_ret
          exact ⟨by first | rfl | (simp [errW_none, errW_some] <;> rfl) | (simp [*, errW_none, errW_some] <;> rfl), by repeat (first | (with_reducible first | exact HB.out | apply below_alloc | apply pw_below_drewN | apply below_drew1 | refine below_set ?_ GE418.out | refine below_set ?_ GE421.out | refine below_set ?_ GE426.out | refine below_set ?_ GE431.out) | exact HB.out)⟩
        · rw [if_neg c12] at H
          have c12b0 : (t430 == 0) = false := beq_eq_false_iff_ne.mpr c12
          have c12b1 : (t430 != 0) = true := bne_iff_ne.mpr c12
          exact absurd ((Option.some.inj H).trans HT.out) (by decide)
      · replace c11 := Bool.eq_false_iff.mpr c11
        subst c11
        have H1 : (some false) = some r := by rw [if_neg (show ¬ (false = true) by decide)] at H; exact H
        clear H
        have H := H1
        clear H1
        exact absurd ((Option.some.inj H).trans HT.out) (by decide)
    · rw [if_neg c9] at H
      have c9b0 : (t425 == 0) = false := beq_eq_false_iff_ne.mpr c9
      have c9b1 : (t425 != 0) = true := bne_iff_ne.mpr c9
      replace H := Option.bind_eq_some_iff.mp H
      obtain ⟨t436, A390, H⟩ := H
      replace H : (if t436 = true then (some (t425 == t430)) else (some false)) = some r := H
      have A39 := Aside0.mk A390
      clear A390
      by_cases c40 : t436 = true
      · subst c40
        have H1 : (some (t425 == t430)) = some r := by rw [if_pos rfl] at H; exact H
        clear H
        have H := H1
        clear H1
        obtain rfl := Option.some.inj H
        go_enter Tryd.func8, Tryd.ntmps8
        go_wp2_with (first | ((with_reducible refine gate_dst (N := 5) rfl ?_); refine box_event ?hg (N := 5) ?hd (cs := #[.bool a1_0, .string a1_1, .int .i64 a1_2]) (t := 23) ?hr ?_; (case hd => rfl); (case hg => rfl); (case hr => first | (go_simp; done) | (go_simp; rfl)); intro gb418 hg w41 hbox hb; have n0_ := Aside0.mk (below_step (by repeat (first | (with_reducible first | exact HB.out | apply below_alloc | apply pw_below_drewN | apply below_drew1) | exact HB.out)) hb); have n1_ := Aside0.mk (hbox); have n2_ := Aside0.mk ((by rw [hg]; exact (below_size (by repeat (first | (with_reducible first | exact HB.out | apply below_alloc | apply pw_below_drewN | apply below_drew1) | exact HB.out))) : w.heap.size ≤ gb418)); have n3_ := Aside0.mk ((by rw [hg]; exact (below_size (by repeat (first | (with_reducible first | exact HB.out | apply below_alloc | apply pw_below_drewN | apply below_drew1) | exact HB.out))) : w.heap.size ≤ gb418)); clear HB; have HB := n0_; have BK418 := n1_; have GW418 := n2_; have GE418 := n3_; clear n0_ n1_ n2_ n3_; clear hb hbox hg; have hcz42_0 : w41.cell? ⟨gb418, 0, none⟩ = some (.bool a1_0) := (blk_cell BK418.out 0).trans rfl; have hcz42_1 : w41.cell? ⟨gb418, 1, none⟩ = some (.string a1_1) := (blk_cell BK418.out 1).trans rfl; have hcz42_2 : w41.cell? ⟨gb418, 2, none⟩ = some (.int .i64 a1_2) := (blk_cell BK418.out 2).trans rfl; have hfz42_0 := blk_frozen BK418.out 0; have hfz42_1 := blk_frozen BK418.out 1; have hfz42_2 := blk_frozen BK418.out 2) | ((with_reducible refine gate_callee (f := 14) rfl ?_); refine goesL_ (some 16) rfl rfl Tryd.func14 (by kernel_rfl) rfl #[.agg #[.bool a1_0, .string a1_1, .int .i64 a1_2], .int .i64 a2] rfl (by (try simp only [List.map_toArray]); (try simp only [List.map_cons]); (try simp only [List.map_nil]); first | done | rfl | (simp only [List.length_drop, List.length_take]; rfl)) ?_; (with_reducible refine (figureheadlaw08_good.calls k a1_0 a1_1 a1_2 a2 true _ A5.out).mono ?_); rintro e w43 ⟨rfl, hb⟩; refine ⟨_, rfl, ?_⟩; have n0_ := Aside0.mk (blk_below (g := gb418) (o := .cells #[.bool a1_0, .string a1_1, .int .i64 a1_2] 23 (0, 0)) (by (with_reducible repeat (first | refine blk_drewN ?_ _ | refine blk_drew ?_ | refine blk_alloc ?_ _)); exact BK418.out) hb); have n1_ := Aside0.mk (below_step (by repeat (first | (with_reducible first | exact HB.out | apply below_alloc | apply pw_below_drewN | apply below_drew1 | refine below_set ?_ GE418.out) | exact HB.out)) hb); clear BK418; clear HB; have BK418 := n0_; have HB := n1_; clear n0_ n1_; (try clear hb); (try clear hb2); (try clear hk); (try clear hi); have hcz44_0 : w43.cell? ⟨gb418, 0, none⟩ = some (.bool a1_0) := (blk_cell BK418.out 0).trans rfl; have hcz44_1 : w43.cell? ⟨gb418, 1, none⟩ = some (.string a1_1) := (blk_cell BK418.out 1).trans rfl; have hcz44_2 : w43.cell? ⟨gb418, 2, none⟩ = some (.int .i64 a1_2) := (blk_cell BK418.out 2).trans rfl; have hfz44_0 := blk_frozen BK418.out 0; have hfz44_1 := blk_frozen BK418.out 1; have hfz44_2 := blk_frozen BK418.out 2) | ((with_reducible refine gate_dst (N := 9) rfl ?_); refine box_event ?hg (N := 9) ?hd (cs := #[.bool false, .string (⟨#[]⟩ : ByteArray), .int .i64 0]) (t := 23) ?hr ?_; (case hd => rfl); (case hg => rfl); (case hr => first | (go_simp; done) | (go_simp; rfl)); intro gb421 hg w45 hbox hb; have n0_ := Aside0.mk (blk_below (g := gb418) (o := .cells #[.bool a1_0, .string a1_1, .int .i64 a1_2] 23 (0, 0)) (by (with_reducible repeat (first | refine blk_drewN ?_ _ | refine blk_drew ?_ | refine blk_alloc ?_ _)); exact BK418.out) hb); have n1_ := Aside0.mk (below_step (by repeat (first | (with_reducible first | exact HB.out | apply below_alloc | apply pw_below_drewN | apply below_drew1 | refine below_set ?_ GE418.out) | exact HB.out)) hb); have n2_ := Aside0.mk (hbox); have n3_ := Aside0.mk ((by rw [hg]; exact (below_size (by repeat (first | (with_reducible first | exact HB.out | apply below_alloc | apply pw_below_drewN | apply below_drew1 | refine below_set ?_ GE418.out) | exact HB.out))) : w.heap.size ≤ gb421)); have n4_ := Aside0.mk ((by rw [hg]; exact (below_size (by repeat (first | (with_reducible first | exact HB.out | apply below_alloc | apply pw_below_drewN | apply below_drew1 | refine below_set ?_ GE418.out) | exact HB.out))) : w.heap.size ≤ gb421)); have n5_ := Aside0.mk ((by rw [hg]; exact Nat.ne_of_lt (blk_lt (g := gb418) (o := .cells #[.bool a1_0, .string a1_1, .int .i64 a1_2] 23 (0, 0)) (by (with_reducible repeat (first | refine blk_drewN ?_ _ | refine blk_drew ?_ | refine blk_alloc ?_ _)); exact BK418.out)) : gb418 ≠ gb421)); have n6_ := Aside0.mk ((by rw [hg]; exact Nat.ne_of_gt (blk_lt (g := gb418) (o := .cells #[.bool a1_0, .string a1_1, .int .i64 a1_2] 23 (0, 0)) (by (with_reducible repeat (first | refine blk_drewN ?_ _ | refine blk_drew ?_ | refine blk_alloc ?_ _)); exact BK418.out)) : gb421 ≠ gb418)); clear BK418; clear HB; have BK418 := n0_; have HB := n1_; have BK421 := n2_; have GW421 := n3_; have GE421 := n4_; have NB418_421 := n5_; have NB421_418 := n6_; clear n0_ n1_ n2_ n3_ n4_ n5_ n6_; clear hb hbox hg; have hnb46 := NB421_418.out; have hnc46 := NB418_421.out; have hcz47_0 : w45.cell? ⟨gb421, 0, none⟩ = some (.bool false) := (blk_cell BK421.out 0).trans rfl; have hcz47_1 : w45.cell? ⟨gb421, 1, none⟩ = some (.string (⟨#[]⟩ : ByteArray)) := (blk_cell BK421.out 1).trans rfl; have hcz47_2 : w45.cell? ⟨gb421, 2, none⟩ = some (.int .i64 0) := (blk_cell BK421.out 2).trans rfl; have hfz47_0 := blk_frozen BK421.out 0; have hfz47_1 := blk_frozen BK421.out 1; have hfz47_2 := blk_frozen BK421.out 2; have hcz48_0 : w45.cell? ⟨gb418, 0, none⟩ = some (.bool a1_0) := (blk_cell BK418.out 0).trans rfl; have hcz48_1 : w45.cell? ⟨gb418, 1, none⟩ = some (.string a1_1) := (blk_cell BK418.out 1).trans rfl; have hcz48_2 : w45.cell? ⟨gb418, 2, none⟩ = some (.int .i64 a1_2) := (blk_cell BK418.out 2).trans rfl; have hfz48_0 := blk_frozen BK418.out 0; have hfz48_1 := blk_frozen BK418.out 1; have hfz48_2 := blk_frozen BK418.out 2) | ((with_reducible refine gate_callee (f := 16) rfl ?_); refine goesL_ (some 30) rfl rfl Tryd.func16 (by kernel_rfl) rfl #[.int .i64 a0, .agg #[.bool a1_0, .string a1_1, .int .i64 a1_2], .int .i64 a2] rfl (by (try simp only [List.map_toArray]); (try simp only [List.map_cons]); (try simp only [List.map_nil]); first | done | rfl | (simp only [List.length_drop, List.length_take]; rfl)) ?_; (with_reducible refine (place_Round.calls k a0 a1_0 a1_1 a1_2 a2 t422 t423 t424 t425 _ ?side1 A7.out).mono ?_); (case side1 => exact Fig.Glob.below HG.out (by repeat (first | (with_reducible first | exact HB.out | apply below_alloc | apply pw_below_drewN | apply below_drew1 | refine below_set ?_ GE418.out | refine below_set ?_ GE421.out) | exact HB.out))); rintro e w49 ⟨rfl, hb⟩; refine ⟨_, rfl, ?_⟩; have n0_ := Aside0.mk (blk_below (g := gb418) (o := .cells #[.bool a1_0, .string a1_1, .int .i64 a1_2] 23 (0, 0)) (by (with_reducible repeat (first | refine blk_drewN ?_ _ | refine blk_drew ?_ | refine blk_alloc ?_ _)); refine blk_far ?_ NB418_421.out _; (with_reducible repeat (first | refine blk_drewN ?_ _ | refine blk_drew ?_ | refine blk_alloc ?_ _)); refine blk_far ?_ NB418_421.out _; (with_reducible repeat (first | refine blk_drewN ?_ _ | refine blk_drew ?_ | refine blk_alloc ?_ _)); refine blk_far ?_ NB418_421.out _; (with_reducible repeat (first | refine blk_drewN ?_ _ | refine blk_drew ?_ | refine blk_alloc ?_ _)); refine blk_far ?_ NB418_421.out _; (with_reducible repeat (first | refine blk_drewN ?_ _ | refine blk_drew ?_ | refine blk_alloc ?_ _)); exact BK418.out) hb); have n1_ := Aside0.mk (blk_below (g := gb421) (o := .cells #[.bool a1_0, .string a1_1, .int .i64 (wrap64 (a1_2 + (wrap64 (a3))))] 23 (0, 0)) (by (with_reducible repeat (first | refine blk_drewN ?_ _ | refine blk_drew ?_ | refine blk_alloc ?_ _)); refine blk_put (cs := #[.bool a1_0, .string a1_1, .int .i64 a1_2]) ?_ 2 _ rfl; (with_reducible repeat (first | refine blk_drewN ?_ _ | refine blk_drew ?_ | refine blk_alloc ?_ _)); refine blk_put (cs := #[.bool a1_0, .string a1_1, .int .i64 0]) ?_ 2 _ rfl; (with_reducible repeat (first | refine blk_drewN ?_ _ | refine blk_drew ?_ | refine blk_alloc ?_ _)); refine blk_put (cs := #[.bool a1_0, .string (⟨#[]⟩ : ByteArray), .int .i64 0]) ?_ 1 _ rfl; (with_reducible repeat (first | refine blk_drewN ?_ _ | refine blk_drew ?_ | refine blk_alloc ?_ _)); refine blk_put (cs := #[.bool false, .string (⟨#[]⟩ : ByteArray), .int .i64 0]) ?_ 0 _ rfl; (with_reducible repeat (first | refine blk_drewN ?_ _ | refine blk_drew ?_ | refine blk_alloc ?_ _)); exact BK421.out) hb); have n2_ := Aside0.mk (below_step (by repeat (first | (with_reducible first | exact HB.out | apply below_alloc | apply pw_below_drewN | apply below_drew1 | refine below_set ?_ GE418.out | refine below_set ?_ GE421.out) | exact HB.out)) hb); clear BK418; clear BK421; clear HB; have BK418 := n0_; have BK421 := n1_; have HB := n2_; clear n0_ n1_ n2_; (try clear hb); (try clear hb2); (try clear hk); (try clear hi)) | ((with_reducible refine gate_dst (N := 10) rfl ?_); refine box_event ?hg (N := 10) ?hd (cs := #[.bool false, .string (⟨#[]⟩ : ByteArray), .int .i64 0]) (t := 23) ?hr ?_; (case hd => rfl); (case hg => rfl); (case hr => first | (go_simp; done) | (go_simp; rfl)); intro gb426 hg w50 hbox hb; have n0_ := Aside0.mk (blk_below (g := gb418) (o := .cells #[.bool a1_0, .string a1_1, .int .i64 a1_2] 23 (0, 0)) (by (with_reducible repeat (first | refine blk_drewN ?_ _ | refine blk_drew ?_ | refine blk_alloc ?_ _)); exact BK418.out) hb); have n1_ := Aside0.mk (blk_below (g := gb421) (o := .cells #[.bool a1_0, .string a1_1, .int .i64 (wrap64 (a1_2 + (wrap64 (a3))))] 23 (0, 0)) (by (with_reducible repeat (first | refine blk_drewN ?_ _ | refine blk_drew ?_ | refine blk_alloc ?_ _)); exact BK421.out) hb); have n2_ := Aside0.mk (below_step (by repeat (first | (with_reducible first | exact HB.out | apply below_alloc | apply pw_below_drewN | apply below_drew1 | refine below_set ?_ GE418.out | refine below_set ?_ GE421.out) | exact HB.out)) hb); have n3_ := Aside0.mk (hbox); have n4_ := Aside0.mk ((by rw [hg]; exact (below_size (by repeat (first | (with_reducible first | exact HB.out | apply below_alloc | apply pw_below_drewN | apply below_drew1 | refine below_set ?_ GE418.out | refine below_set ?_ GE421.out) | exact HB.out))) : w.heap.size ≤ gb426)); have n5_ := Aside0.mk ((by rw [hg]; exact (below_size (by repeat (first | (with_reducible first | exact HB.out | apply below_alloc | apply pw_below_drewN | apply below_drew1 | refine below_set ?_ GE418.out | refine below_set ?_ GE421.out) | exact HB.out))) : w.heap.size ≤ gb426)); have n6_ := Aside0.mk ((by rw [hg]; exact Nat.ne_of_lt (blk_lt (g := gb418) (o := .cells #[.bool a1_0, .string a1_1, .int .i64 a1_2] 23 (0, 0)) (by (with_reducible repeat (first | refine blk_drewN ?_ _ | refine blk_drew ?_ | refine blk_alloc ?_ _)); exact BK418.out)) : gb418 ≠ gb426)); have n7_ := Aside0.mk ((by rw [hg]; exact Nat.ne_of_gt (blk_lt (g := gb418) (o := .cells #[.bool a1_0, .string a1_1, .int .i64 a1_2] 23 (0, 0)) (by (with_reducible repeat (first | refine blk_drewN ?_ _ | refine blk_drew ?_ | refine blk_alloc ?_ _)); exact BK418.out)) : gb426 ≠ gb418)); have n8_ := Aside0.mk ((by rw [hg]; exact Nat.ne_of_lt (blk_lt (g := gb421) (o := .cells #[.bool a1_0, .string a1_1, .int .i64 (wrap64 (a1_2 + (wrap64 (a3))))] 23 (0, 0)) (by (with_reducible repeat (first | refine blk_drewN ?_ _ | refine blk_drew ?_ | refine blk_alloc ?_ _)); exact BK421.out)) : gb421 ≠ gb426)); have n9_ := Aside0.mk ((by rw [hg]; exact Nat.ne_of_gt (blk_lt (g := gb421) (o := .cells #[.bool a1_0, .string a1_1, .int .i64 (wrap64 (a1_2 + (wrap64 (a3))))] 23 (0, 0)) (by (with_reducible repeat (first | refine blk_drewN ?_ _ | refine blk_drew ?_ | refine blk_alloc ?_ _)); exact BK421.out)) : gb426 ≠ gb421)); clear BK418; clear BK421; clear HB; have BK418 := n0_; have BK421 := n1_; have HB := n2_; have BK426 := n3_; have GW426 := n4_; have GE426 := n5_; have NB418_426 := n6_; have NB426_418 := n7_; have NB421_426 := n8_; have NB426_421 := n9_; clear n0_ n1_ n2_ n3_ n4_ n5_ n6_ n7_ n8_ n9_; clear hb hbox hg; have hnb51 := NB426_418.out; have hnc51 := NB418_426.out; have hnb52 := NB426_421.out; have hnc52 := NB421_426.out; have hcz53_0 : w50.cell? ⟨gb426, 0, none⟩ = some (.bool false) := (blk_cell BK426.out 0).trans rfl; have hcz53_1 : w50.cell? ⟨gb426, 1, none⟩ = some (.string (⟨#[]⟩ : ByteArray)) := (blk_cell BK426.out 1).trans rfl; have hcz53_2 : w50.cell? ⟨gb426, 2, none⟩ = some (.int .i64 0) := (blk_cell BK426.out 2).trans rfl; have hfz53_0 := blk_frozen BK426.out 0; have hfz53_1 := blk_frozen BK426.out 1; have hfz53_2 := blk_frozen BK426.out 2; have hcz54_0 : w50.cell? ⟨gb421, 0, none⟩ = some (.bool a1_0) := (blk_cell BK421.out 0).trans rfl; have hcz54_1 : w50.cell? ⟨gb421, 1, none⟩ = some (.string a1_1) := (blk_cell BK421.out 1).trans rfl; have hcz54_2 : w50.cell? ⟨gb421, 2, none⟩ = some (.int .i64 (wrap64 (a1_2 + (wrap64 (a3))))) := (blk_cell BK421.out 2).trans rfl; have hfz54_0 := blk_frozen BK421.out 0; have hfz54_1 := blk_frozen BK421.out 1; have hfz54_2 := blk_frozen BK421.out 2) | ((with_reducible refine gate_callee (f := 16) rfl ?_); refine goesL_ (some 40) rfl rfl Tryd.func16 (by kernel_rfl) rfl #[.int .i64 a0, .agg #[.bool a1_0, .string a1_1, .int .i64 (wrap64 (a1_2 + (wrap64 (a3))))], .int .i64 (wrap64 (a2 + (wrap64 (a3))))] rfl (by (try simp only [List.map_toArray]); (try simp only [List.map_cons]); (try simp only [List.map_nil]); first | done | rfl | (simp only [List.length_drop, List.length_take]; rfl)) ?_; (with_reducible refine (place_Round.calls k a0 a1_0 a1_1 (wrap64 (a1_2 + (wrap64 (a3)))) (wrap64 (a2 + (wrap64 (a3)))) t427 t428 t429 t430 _ ?side1 A8.out).mono ?_); (case side1 => exact Fig.Glob.below HG.out (by repeat (first | (with_reducible first | exact HB.out | apply below_alloc | apply pw_below_drewN | apply below_drew1 | refine below_set ?_ GE418.out | refine below_set ?_ GE421.out | refine below_set ?_ GE426.out) | exact HB.out))); rintro e w55 ⟨rfl, hb⟩; refine ⟨_, rfl, ?_⟩; have n0_ := Aside0.mk (blk_below (g := gb418) (o := .cells #[.bool a1_0, .string a1_1, .int .i64 a1_2] 23 (0, 0)) (by (with_reducible repeat (first | refine blk_drewN ?_ _ | refine blk_drew ?_ | refine blk_alloc ?_ _)); refine blk_far ?_ NB418_426.out _; (with_reducible repeat (first | refine blk_drewN ?_ _ | refine blk_drew ?_ | refine blk_alloc ?_ _)); refine blk_far ?_ NB418_426.out _; (with_reducible repeat (first | refine blk_drewN ?_ _ | refine blk_drew ?_ | refine blk_alloc ?_ _)); refine blk_far ?_ NB418_426.out _; (with_reducible repeat (first | refine blk_drewN ?_ _ | refine blk_drew ?_ | refine blk_alloc ?_ _)); exact BK418.out) hb); have n1_ := Aside0.mk (blk_below (g := gb421) (o := .cells #[.bool a1_0, .string a1_1, .int .i64 (wrap64 (a1_2 + (wrap64 (a3))))] 23 (0, 0)) (by (with_reducible repeat (first | refine blk_drewN ?_ _ | refine blk_drew ?_ | refine blk_alloc ?_ _)); refine blk_far ?_ NB421_426.out _; (with_reducible repeat (first | refine blk_drewN ?_ _ | refine blk_drew ?_ | refine blk_alloc ?_ _)); refine blk_far ?_ NB421_426.out _; (with_reducible repeat (first | refine blk_drewN ?_ _ | refine blk_drew ?_ | refine blk_alloc ?_ _)); refine blk_far ?_ NB421_426.out _; (with_reducible repeat (first | refine blk_drewN ?_ _ | refine blk_drew ?_ | refine blk_alloc ?_ _)); exact BK421.out) hb); have n2_ := Aside0.mk (blk_below (g := gb426) (o := .cells #[.bool t422, .string t423, .int .i64 t424] 23 (0, 0)) (by (with_reducible repeat (first | refine blk_drewN ?_ _ | refine blk_drew ?_ | refine blk_alloc ?_ _)); refine blk_put (cs := #[.bool t422, .string t423, .int .i64 0]) ?_ 2 _ rfl; (with_reducible repeat (first | refine blk_drewN ?_ _ | refine blk_drew ?_ | refine blk_alloc ?_ _)); refine blk_put (cs := #[.bool t422, .string (⟨#[]⟩ : ByteArray), .int .i64 0]) ?_ 1 _ rfl; (with_reducible repeat (first | refine blk_drewN ?_ _ | refine blk_drew ?_ | refine blk_alloc ?_ _)); refine blk_put (cs := #[.bool false, .string (⟨#[]⟩ : ByteArray), .int .i64 0]) ?_ 0 _ rfl; (with_reducible repeat (first | refine blk_drewN ?_ _ | refine blk_drew ?_ | refine blk_alloc ?_ _)); exact BK426.out) hb); have n3_ := Aside0.mk (below_step (by repeat (first | (with_reducible first | exact HB.out | apply below_alloc | apply pw_below_drewN | apply below_drew1 | refine below_set ?_ GE418.out | refine below_set ?_ GE421.out | refine below_set ?_ GE426.out) | exact HB.out)) hb); clear BK418; clear BK421; clear BK426; clear HB; have BK418 := n0_; have BK421 := n1_; have BK426 := n2_; have HB := n3_; clear n0_ n1_ n2_ n3_; (try clear hb); (try clear hb2); (try clear hk); (try clear hi)) | ((with_reducible refine gate_dst (N := 12) rfl ?_); refine box_event ?hg (N := 12) ?hd (cs := #[.bool false, .string (⟨#[]⟩ : ByteArray), .int .i64 0]) (t := 23) ?hr ?_; (case hd => rfl); (case hg => rfl); (case hr => first | (go_simp; done) | (go_simp; rfl)); intro gb431 hg w56 hbox hb; have n0_ := Aside0.mk (blk_below (g := gb418) (o := .cells #[.bool a1_0, .string a1_1, .int .i64 a1_2] 23 (0, 0)) (by (with_reducible repeat (first | refine blk_drewN ?_ _ | refine blk_drew ?_ | refine blk_alloc ?_ _)); exact BK418.out) hb); have n1_ := Aside0.mk (blk_below (g := gb421) (o := .cells #[.bool a1_0, .string a1_1, .int .i64 (wrap64 (a1_2 + (wrap64 (a3))))] 23 (0, 0)) (by (with_reducible repeat (first | refine blk_drewN ?_ _ | refine blk_drew ?_ | refine blk_alloc ?_ _)); exact BK421.out) hb); have n2_ := Aside0.mk (blk_below (g := gb426) (o := .cells #[.bool t422, .string t423, .int .i64 t424] 23 (0, 0)) (by (with_reducible repeat (first | refine blk_drewN ?_ _ | refine blk_drew ?_ | refine blk_alloc ?_ _)); exact BK426.out) hb); have n3_ := Aside0.mk (below_step (by repeat (first | (with_reducible first | exact HB.out | apply below_alloc | apply pw_below_drewN | apply below_drew1 | refine below_set ?_ GE418.out | refine below_set ?_ GE421.out | refine below_set ?_ GE426.out) | exact HB.out)) hb); have n4_ := Aside0.mk (hbox); have n5_ := Aside0.mk ((by rw [hg]; exact (below_size (by repeat (first | (with_reducible first | exact HB.out | apply below_alloc | apply pw_below_drewN | apply below_drew1 | refine below_set ?_ GE418.out | refine below_set ?_ GE421.out | refine below_set ?_ GE426.out) | exact HB.out))) : w.heap.size ≤ gb431)); have n6_ := Aside0.mk ((by rw [hg]; exact (below_size (by repeat (first | (with_reducible first | exact HB.out | apply below_alloc | apply pw_below_drewN | apply below_drew1 | refine below_set ?_ GE418.out | refine below_set ?_ GE421.out | refine below_set ?_ GE426.out) | exact HB.out))) : w.heap.size ≤ gb431)); have n7_ := Aside0.mk ((by rw [hg]; exact Nat.ne_of_lt (blk_lt (g := gb418) (o := .cells #[.bool a1_0, .string a1_1, .int .i64 a1_2] 23 (0, 0)) (by (with_reducible repeat (first | refine blk_drewN ?_ _ | refine blk_drew ?_ | refine blk_alloc ?_ _)); exact BK418.out)) : gb418 ≠ gb431)); have n8_ := Aside0.mk ((by rw [hg]; exact Nat.ne_of_gt (blk_lt (g := gb418) (o := .cells #[.bool a1_0, .string a1_1, .int .i64 a1_2] 23 (0, 0)) (by (with_reducible repeat (first | refine blk_drewN ?_ _ | refine blk_drew ?_ | refine blk_alloc ?_ _)); exact BK418.out)) : gb431 ≠ gb418)); have n9_ := Aside0.mk ((by rw [hg]; exact Nat.ne_of_lt (blk_lt (g := gb421) (o := .cells #[.bool a1_0, .string a1_1, .int .i64 (wrap64 (a1_2 + (wrap64 (a3))))] 23 (0, 0)) (by (with_reducible repeat (first | refine blk_drewN ?_ _ | refine blk_drew ?_ | refine blk_alloc ?_ _)); exact BK421.out)) : gb421 ≠ gb431)); have n10_ := Aside0.mk ((by rw [hg]; exact Nat.ne_of_gt (blk_lt (g := gb421) (o := .cells #[.bool a1_0, .string a1_1, .int .i64 (wrap64 (a1_2 + (wrap64 (a3))))] 23 (0, 0)) (by (with_reducible repeat (first | refine blk_drewN ?_ _ | refine blk_drew ?_ | refine blk_alloc ?_ _)); exact BK421.out)) : gb431 ≠ gb421)); have n11_ := Aside0.mk ((by rw [hg]; exact Nat.ne_of_lt (blk_lt (g := gb426) (o := .cells #[.bool t422, .string t423, .int .i64 t424] 23 (0, 0)) (by (with_reducible repeat (first | refine blk_drewN ?_ _ | refine blk_drew ?_ | refine blk_alloc ?_ _)); exact BK426.out)) : gb426 ≠ gb431)); have n12_ := Aside0.mk ((by rw [hg]; exact Nat.ne_of_gt (blk_lt (g := gb426) (o := .cells #[.bool t422, .string t423, .int .i64 t424] 23 (0, 0)) (by (with_reducible repeat (first | refine blk_drewN ?_ _ | refine blk_drew ?_ | refine blk_alloc ?_ _)); exact BK426.out)) : gb431 ≠ gb426)); clear BK418; clear BK421; clear BK426; clear HB; have BK418 := n0_; have BK421 := n1_; have BK426 := n2_; have HB := n3_; have BK431 := n4_; have GW431 := n5_; have GE431 := n6_; have NB418_431 := n7_; have NB431_418 := n8_; have NB421_431 := n9_; have NB431_421 := n10_; have NB426_431 := n11_; have NB431_426 := n12_; clear n0_ n1_ n2_ n3_ n4_ n5_ n6_ n7_ n8_ n9_ n10_ n11_ n12_; clear hb hbox hg; have hnb57 := NB431_418.out; have hnc57 := NB418_431.out; have hnb58 := NB431_421.out; have hnc58 := NB421_431.out; have hnb59 := NB431_426.out; have hnc59 := NB426_431.out; have hcz60_0 : w56.cell? ⟨gb431, 0, none⟩ = some (.bool false) := (blk_cell BK431.out 0).trans rfl; have hcz60_1 : w56.cell? ⟨gb431, 1, none⟩ = some (.string (⟨#[]⟩ : ByteArray)) := (blk_cell BK431.out 1).trans rfl; have hcz60_2 : w56.cell? ⟨gb431, 2, none⟩ = some (.int .i64 0) := (blk_cell BK431.out 2).trans rfl; have hfz60_0 := blk_frozen BK431.out 0; have hfz60_1 := blk_frozen BK431.out 1; have hfz60_2 := blk_frozen BK431.out 2) | ((with_reducible refine gate_callee (f := 15) rfl ?_); refine goesL_ (some 45) rfl rfl Tryd.func15 (by kernel_rfl) rfl #[] rfl (by (try simp only [List.map_toArray]); (try simp only [List.map_cons]); (try simp only [List.map_nil]); first | done | rfl | (simp only [List.length_drop, List.length_take]; rfl)) ?_; (with_reducible refine (figureheadlaw08_answers.calls k  true _ ?side1 ?side2 A39.out).mono ?_); (case side1 => exact Fig.Glob.below HG.out (by repeat (first | (with_reducible first | exact HB.out | apply below_alloc | apply pw_below_drewN | apply below_drew1 | refine below_set ?_ GE418.out | refine below_set ?_ GE421.out | refine below_set ?_ GE426.out | refine below_set ?_ GE431.out) | exact HB.out))); (case side2 => exact ⟨by first | rfl | exact HT.out⟩); rintro e w61 ⟨rfl, hb⟩; refine ⟨_, rfl, ?_⟩; have n0_ := Aside0.mk (blk_below (g := gb418) (o := .cells #[.bool a1_0, .string a1_1, .int .i64 a1_2] 23 (0, 0)) (by (with_reducible repeat (first | refine blk_drewN ?_ _ | refine blk_drew ?_ | refine blk_alloc ?_ _)); refine blk_far ?_ NB418_431.out _; (with_reducible repeat (first | refine blk_drewN ?_ _ | refine blk_drew ?_ | refine blk_alloc ?_ _)); refine blk_far ?_ NB418_431.out _; (with_reducible repeat (first | refine blk_drewN ?_ _ | refine blk_drew ?_ | refine blk_alloc ?_ _)); refine blk_far ?_ NB418_431.out _; (with_reducible repeat (first | refine blk_drewN ?_ _ | refine blk_drew ?_ | refine blk_alloc ?_ _)); exact BK418.out) hb); have n1_ := Aside0.mk (blk_below (g := gb421) (o := .cells #[.bool a1_0, .string a1_1, .int .i64 (wrap64 (a1_2 + (wrap64 (a3))))] 23 (0, 0)) (by (with_reducible repeat (first | refine blk_drewN ?_ _ | refine blk_drew ?_ | refine blk_alloc ?_ _)); refine blk_far ?_ NB421_431.out _; (with_reducible repeat (first | refine blk_drewN ?_ _ | refine blk_drew ?_ | refine blk_alloc ?_ _)); refine blk_far ?_ NB421_431.out _; (with_reducible repeat (first | refine blk_drewN ?_ _ | refine blk_drew ?_ | refine blk_alloc ?_ _)); refine blk_far ?_ NB421_431.out _; (with_reducible repeat (first | refine blk_drewN ?_ _ | refine blk_drew ?_ | refine blk_alloc ?_ _)); exact BK421.out) hb); have n2_ := Aside0.mk (blk_below (g := gb426) (o := .cells #[.bool t422, .string t423, .int .i64 t424] 23 (0, 0)) (by (with_reducible repeat (first | refine blk_drewN ?_ _ | refine blk_drew ?_ | refine blk_alloc ?_ _)); refine blk_far ?_ NB426_431.out _; (with_reducible repeat (first | refine blk_drewN ?_ _ | refine blk_drew ?_ | refine blk_alloc ?_ _)); refine blk_far ?_ NB426_431.out _; (with_reducible repeat (first | refine blk_drewN ?_ _ | refine blk_drew ?_ | refine blk_alloc ?_ _)); refine blk_far ?_ NB426_431.out _; (with_reducible repeat (first | refine blk_drewN ?_ _ | refine blk_drew ?_ | refine blk_alloc ?_ _)); exact BK426.out) hb); have n3_ := Aside0.mk (blk_below (g := gb431) (o := .cells #[.bool t427, .string t428, .int .i64 t429] 23 (0, 0)) (by (with_reducible repeat (first | refine blk_drewN ?_ _ | refine blk_drew ?_ | refine blk_alloc ?_ _)); refine blk_put (cs := #[.bool t427, .string t428, .int .i64 0]) ?_ 2 _ rfl; (with_reducible repeat (first | refine blk_drewN ?_ _ | refine blk_drew ?_ | refine blk_alloc ?_ _)); refine blk_put (cs := #[.bool t427, .string (⟨#[]⟩ : ByteArray), .int .i64 0]) ?_ 1 _ rfl; (with_reducible repeat (first | refine blk_drewN ?_ _ | refine blk_drew ?_ | refine blk_alloc ?_ _)); refine blk_put (cs := #[.bool false, .string (⟨#[]⟩ : ByteArray), .int .i64 0]) ?_ 0 _ rfl; (with_reducible repeat (first | refine blk_drewN ?_ _ | refine blk_drew ?_ | refine blk_alloc ?_ _)); exact BK431.out) hb); have n4_ := Aside0.mk (below_step (by repeat (first | (with_reducible first | exact HB.out | apply below_alloc | apply pw_below_drewN | apply below_drew1 | refine below_set ?_ GE418.out | refine below_set ?_ GE421.out | refine below_set ?_ GE426.out | refine below_set ?_ GE431.out) | exact HB.out)) hb); clear BK418; clear BK421; clear BK426; clear BK431; clear HB; have BK418 := n0_; have BK421 := n1_; have BK426 := n2_; have BK431 := n3_; have HB := n4_; clear n0_ n1_ n2_ n3_ n4_; (try clear hb); (try clear hb2); (try clear hk); (try clear hi)))
        go_ret
        exact ⟨by first | rfl | (simp [errW_none, errW_some] <;> rfl) | (simp [*, errW_none, errW_some] <;> rfl), by repeat (first | (with_reducible first | exact HB.out | apply below_alloc | apply pw_below_drewN | apply below_drew1 | refine below_set ?_ GE418.out | refine below_set ?_ GE421.out | refine below_set ?_ GE426.out | refine below_set ?_ GE431.out) | exact HB.out)⟩
      · replace c40 := Bool.eq_false_iff.mpr c40
        subst c40
        have H1 : (some false) = some r := by rw [if_neg (show ¬ (false = true) by decide)] at H; exact H
        clear H
        have H := H1
        clear H1
        exact absurd ((Option.some.inj H).trans HT.out) (by decide)
  · replace c6 := Bool.eq_false_iff.mpr c6
    subst c6
    have H1 : ((figureheadlaw08_answers.f k).bind fun t420 => (some t420)) = some r := by rw [if_neg (show ¬ (false = true) by decide)] at H; exact H
    clear H
    have H := H1
    clear H1
    replace H := Option.bind_eq_some_iff.mp H
    obtain ⟨t420, A620, H⟩ := H
    replace H : (some t420) = some r := H
    have A62 := Aside0.mk A620
    clear A620
    obtain rfl := Option.some.inj H
    go_enter Tryd.func8, Tryd.ntmps8
    go_wp2_with (first | ((with_reducible refine gate_dst (N := 5) rfl ?_); refine box_event ?hg (N := 5) ?hd (cs := #[.bool a1_0, .string a1_1, .int .i64 a1_2]) (t := 23) ?hr ?_; (case hd => rfl); (case hg => rfl); (case hr => first | (go_simp; done) | (go_simp; rfl)); intro gb418 hg w63 hbox hb; have n0_ := Aside0.mk (below_step (by repeat (first | (with_reducible first | exact HB.out | apply below_alloc | apply pw_below_drewN | apply below_drew1) | exact HB.out)) hb); have n1_ := Aside0.mk (hbox); have n2_ := Aside0.mk ((by rw [hg]; exact (below_size (by repeat (first | (with_reducible first | exact HB.out | apply below_alloc | apply pw_below_drewN | apply below_drew1) | exact HB.out))) : w.heap.size ≤ gb418)); have n3_ := Aside0.mk ((by rw [hg]; exact (below_size (by repeat (first | (with_reducible first | exact HB.out | apply below_alloc | apply pw_below_drewN | apply below_drew1) | exact HB.out))) : w.heap.size ≤ gb418)); clear HB; have HB := n0_; have BK418 := n1_; have GW418 := n2_; have GE418 := n3_; clear n0_ n1_ n2_ n3_; clear hb hbox hg; have hcz64_0 : w63.cell? ⟨gb418, 0, none⟩ = some (.bool a1_0) := (blk_cell BK418.out 0).trans rfl; have hcz64_1 : w63.cell? ⟨gb418, 1, none⟩ = some (.string a1_1) := (blk_cell BK418.out 1).trans rfl; have hcz64_2 : w63.cell? ⟨gb418, 2, none⟩ = some (.int .i64 a1_2) := (blk_cell BK418.out 2).trans rfl; have hfz64_0 := blk_frozen BK418.out 0; have hfz64_1 := blk_frozen BK418.out 1; have hfz64_2 := blk_frozen BK418.out 2) | ((with_reducible refine gate_callee (f := 14) rfl ?_); refine goesL_ (some 16) rfl rfl Tryd.func14 (by kernel_rfl) rfl #[.agg #[.bool a1_0, .string a1_1, .int .i64 a1_2], .int .i64 a2] rfl (by (try simp only [List.map_toArray]); (try simp only [List.map_cons]); (try simp only [List.map_nil]); first | done | rfl | (simp only [List.length_drop, List.length_take]; rfl)) ?_; (with_reducible refine (figureheadlaw08_good.calls k a1_0 a1_1 a1_2 a2 false _ A5.out).mono ?_); rintro e w65 ⟨rfl, hb⟩; refine ⟨_, rfl, ?_⟩; have n0_ := Aside0.mk (blk_below (g := gb418) (o := .cells #[.bool a1_0, .string a1_1, .int .i64 a1_2] 23 (0, 0)) (by (with_reducible repeat (first | refine blk_drewN ?_ _ | refine blk_drew ?_ | refine blk_alloc ?_ _)); exact BK418.out) hb); have n1_ := Aside0.mk (below_step (by repeat (first | (with_reducible first | exact HB.out | apply below_alloc | apply pw_below_drewN | apply below_drew1 | refine below_set ?_ GE418.out) | exact HB.out)) hb); clear BK418; clear HB; have BK418 := n0_; have HB := n1_; clear n0_ n1_; (try clear hb); (try clear hb2); (try clear hk); (try clear hi)) | ((with_reducible refine gate_callee (f := 15) rfl ?_); refine goesL_ (some 18) rfl rfl Tryd.func15 (by kernel_rfl) rfl #[] rfl (by (try simp only [List.map_toArray]); (try simp only [List.map_cons]); (try simp only [List.map_nil]); first | done | rfl | (simp only [List.length_drop, List.length_take]; rfl)) ?_; (with_reducible refine (figureheadlaw08_answers.calls k  t420 _ ?side1 ?side2 A62.out).mono ?_); (case side1 => exact Fig.Glob.below HG.out (by repeat (first | (with_reducible first | exact HB.out | apply below_alloc | apply pw_below_drewN | apply below_drew1 | refine below_set ?_ GE418.out) | exact HB.out))); (case side2 => exact ⟨by first | rfl | exact HT.out⟩); rintro e w66 ⟨rfl, hb⟩; refine ⟨_, rfl, ?_⟩; have n0_ := Aside0.mk (blk_below (g := gb418) (o := .cells #[.bool a1_0, .string a1_1, .int .i64 a1_2] 23 (0, 0)) (by (with_reducible repeat (first | refine blk_drewN ?_ _ | refine blk_drew ?_ | refine blk_alloc ?_ _)); exact BK418.out) hb); have n1_ := Aside0.mk (below_step (by repeat (first | (with_reducible first | exact HB.out | apply below_alloc | apply pw_below_drewN | apply below_drew1 | refine below_set ?_ GE418.out) | exact HB.out)) hb); clear BK418; clear HB; have BK418 := n0_; have HB := n1_; clear n0_ n1_; (try clear hb); (try clear hb2); (try clear hk); (try clear hi)))
    go_ret
    exact ⟨by first | rfl | (simp [errW_none, errW_some] <;> rfl) | (simp [*, errW_none, errW_some] <;> rfl), by repeat (first | (with_reducible first | exact HB.out | apply below_alloc | apply pw_below_drewN | apply below_drew1 | refine below_set ?_ GE418.out) | exact HB.out)⟩
end Go.Proofs.YtjpokifkbclkiaaDoor.Px
end
section
namespace Go.Proofs.YtjpokifkbclkiaaDoor.Px
open Fig Go.RowKit Go.Proofs.YtjpokifkbclkiaaDoorW.PrintWords Go.Proofs.YtjpokifkbclkiaaDoorW.PrintLast Go.Proofs.YtjpokifkbclkiaaDoorW.PrintMore
attribute [local go_sem] max2_int min2_int max_two min_two max_three min_three max_four min_four   -- for this text's walks alone
attribute [local go_sem] fieldA23_0 fieldA23_1 fieldA23_2
theorem Digits_loop (s : ByteArray) (hs : s.size ≤ 4611686018427387904) : ∀ (d n : Nat), s.size - n = d → n ≤ s.size → Ev (fun k => figureheadref05_Digits.l0 k s (n : Int)) (digL (s.data.toList.drop n) && decide (s.size ≠ 0))
  | 0, n, hd, hn => by
    refine evDone (r' := (s.toList != ([] : List UInt8))) (fun k => ?_) ?_
    · simp only [figureheadref05_Digits.l0]; rw [if_neg (by omega)]
    · rw [List.drop_of_length_le (by rw [← size_eq]; omega), bne_nil, ByteArray.toList_eq, size_eq]
      cases s.data.toList <;> simp [digL]
  | d + 1, n, hd, hn => by
    have hlt : n < s.size := by omega
    have hbt := bt_get hlt
    have hc := List.drop_eq_getElem_cons (l := s.data.toList) (i := n) (by rw [← size_eq]; exact hlt)
    rw [hc]
    generalize hx : s.data.toList[n]'(by rw [← size_eq]; exact hlt) = c at hbt
    by_cases h1 : c.toNat < 48
    · refine evDone (r' := false) (fun k => ?_) ?_
      · simp only [figureheadref05_Digits.l0]; rw [if_pos (by omega), if_pos (by omega), hbt, if_pos (by omega)]
      · have : isD c = false := by unfold isD; simp; omega
        simp [digL, this]
    · by_cases h2 : c.toNat > 57
      · refine evDone (r' := false) (fun k => ?_) ?_
        · simp only [figureheadref05_Digits.l0]; rw [if_pos (by omega), if_pos (by omega), hbt, if_neg (by omega), if_pos (by omega)]
        · have : isD c = false := by unfold isD; simp; omega
          simp [digL, this]
      · have hd1 : isD c = true := isD_iff.2 ⟨by omega, by omega⟩
        refine evIs (Ev.step (f := fun k => figureheadref05_Digits.l0 k s ((n + 1 : Nat) : Int)) (fun k => ?_) (Digits_loop s hs d (n + 1) (by omega) (by omega))) ?_
        · simp only [figureheadref05_Digits.l0]; rw [if_pos (by omega), if_pos (by omega), hbt, if_neg (by omega), if_neg (by omega), succ64 _ (by omega)]
        · simp [digL, hd1]
theorem Digits05_ev {s : ByteArray} (hs : s.size ≤ 4611686018427387904) : Ev (fun k => figureheadref05_Digits.f k s) (dB s && decide (s.size ≠ 0)) := by
  have := Digits_loop s hs s.size 0 (by omega) (by omega)
  rw [List.drop_zero] at this
  exact this
end Go.Proofs.YtjpokifkbclkiaaDoor.Px
end
section
namespace Go.Proofs.YtjpokifkbclkiaaDoor.Px
open Fig Go.RowKit Go.Proofs.YtjpokifkbclkiaaDoorW.PrintWords Go.Proofs.YtjpokifkbclkiaaDoorW.PrintLast Go.Proofs.YtjpokifkbclkiaaDoorW.PrintMore
attribute [local go_sem] max2_int min2_int max_two min_two max_three min_three max_four min_four   -- for this text's walks alone
attribute [local go_sem] fieldA23_0 fieldA23_1 fieldA23_2
theorem Good05_ev {b : Bool} {s : ByteArray} {e : Int} (hs : s.size ≤ 4611686018427387904) : Ev (fun k => figureheadref05_Good.f k b s e) (goodD s e) := by
  unfold figureheadref05_Good.f
  refine Ev.bind (Digits05_ev hs) ?_
  unfold goodD
  cases hd : (dB s && decide (s.size ≠ 0))
  · simp only [Bool.false_eq_true, if_false, Bool.false_and]
    exact Ev.now _
  · simp only [if_true, Bool.true_and]
    by_cases h1 : s.size ≤ 1000
    · have h1' : (s.size : Int) ≤ 1000 := by omega
      simp only [h1', h1, if_true, decide_true, Bool.true_and]
      by_cases h2 : e ≥ -1000
      · have h2' : -1000 ≤ e := h2
        simp only [h2, h2', if_true, decide_true, Bool.true_and]
        exact Ev.now _
      · have h2' : ¬ -1000 ≤ e := h2
        simp only [h2, h2', if_false, decide_false, Bool.false_and]
        exact Ev.now _
    · have h1' : ¬ (s.size : Int) ≤ 1000 := by omega
      simp only [h1', h1, if_false, decide_false, Bool.false_and]
      exact Ev.now _
end Go.Proofs.YtjpokifkbclkiaaDoor.Px
end
section
namespace Go.Proofs.YtjpokifkbclkiaaDoor.Px
open Fig Go.RowKit Go.Proofs.YtjpokifkbclkiaaDoorW.PrintWords Go.Proofs.YtjpokifkbclkiaaDoorW.PrintLast Go.Proofs.YtjpokifkbclkiaaDoorW.PrintMore
attribute [local go_sem] max2_int min2_int max_two min_two max_three min_three max_four min_four   -- for this text's walks alone
attribute [local go_sem] fieldA23_0 fieldA23_1 fieldA23_2
def goodP8 (s : ByteArray) (e p : Int) : Bool := goodD s e && decide (s.size ≤ 100) && decide (-300 ≤ p) && decide (p ≤ 300) && decide (-300 ≤ e) && decide (e ≤ 300)
theorem goodP8_iff {s : ByteArray} {e p : Int} : goodP8 s e p = true ↔ goodD s e = true ∧ s.size ≤ 100 ∧ -300 ≤ p ∧ p ≤ 300 ∧ -300 ≤ e ∧ e ≤ 300 := by
  unfold goodP8; simp only [Bool.and_eq_true, decide_eq_true_eq, and_assoc]
theorem good08_ev {b : Bool} {s : ByteArray} {e p : Int} (hs : s.size ≤ 4611686018427387904) : Ev (fun k => figureheadlaw08_good.f k b s e p) (goodP8 s e p) := by
  unfold figureheadlaw08_good.f
  refine Ev.bind (Good05_ev hs) ?_
  unfold goodP8
  cases goodD s e
  · exact evF (by decide) (evIs (Ev.now _) (by simp))
  refine evT rfl ?_
  by_cases h1 : s.size ≤ 100
  · refine evT (by omega) ?_
    by_cases h2 : p ≥ -300
    · refine evT h2 ?_
      by_cases h3 : p ≤ 300
      · refine evT h3 ?_
        by_cases h4 : e ≥ -300
        · have h2' : -300 ≤ p := h2
          have h4' : -300 ≤ e := h4
          exact evT h4 (evIs (Ev.now _) (by simp [h1, h2', h3, h4']))
        · have h4' : ¬ -300 ≤ e := h4
          exact evF h4 (evIs (Ev.now _) (by simp [h4']))
      · exact evF h3 (evIs (Ev.now _) (by simp [h3]))
    · have h2' : ¬ -300 ≤ p := h2
      exact evF h2 (evIs (Ev.now _) (by simp [h2']))
  · exact evF (by omega) (evIs (Ev.now _) (by simp [h1]))
theorem goodP8_ok {s : ByteArray} {e p : Int} (h : goodP8 s e p = true) : OkS s e ∧ (digB (vB s)).size ≤ 100 ∧ -300 ≤ p ∧ p ≤ 300 ∧ -300 ≤ e ∧ e ≤ 300 := by
  obtain ⟨a, b, c, d, f, g⟩ := goodP8_iff.1 h
  have ok := OkS.of_good a
  have := ok.ok.val
  exact ⟨ok, by omega, c, d, f, g⟩
theorem rv0_size {m : Int} {neg : Bool} {n st x y : Nat} {e p k : Int} (hn : (digB n).size ≤ x) (hs : (digB st).size ≤ y) (hs0 : st ≠ 0) (h1 : k ≤ e) (h2 : k ≤ p) : (digB (rv0 m neg n e st p k)).size ≤ max (x + (e - k).toNat) (y + (p - k).toNat) + 1 := by
  have a := size_vZ neg (n := n) (p := x) e k hn
  have b := size_vZ neg (n := st) (p := y) p k hs
  rw [vZ_natAbs] at a b
  have hB := atE_pos hs0 p k
  have h3 := (rq_near (m := m) (neg := neg) (N := atE n e k) hB).1
  refine digB_mono (n := atE n e k + atE st p k) (by unfold rv0; omega) ?_
  exact digB_add_le (digB_mono (Nat.le_refl _) (by omega)) (digB_mono (Nat.le_refl _) (by omega))
theorem rv0_ok {m : Int} {neg : Bool} {n : Nat} {e p k : Int} (hn : (digB n).size ≤ 700) (h1 : k ≤ e) (h2 : k ≤ p) (h3 : -2000 ≤ k) (h4 : k ≤ 2000) (h5 : e ≤ k + 1500) (h6 : p ≤ k + 2500) : OkS (nD (rv0 m neg n e 1 p k)) (nE (rv0 m neg n e 1 p k) k) := by
  have := rv0_size (m := m) (neg := neg) (x := 700) (y := 1) hn (st := 1) (by rw [digB_one_size]; omega) (by decide) h1 h2
  exact OkS.norm (by omega) (by omega) (by omega)
theorem roundD_code' (m : Int) (b : Bool) (n : Nat) (e : Int) (st : Nat) (p : Int) : (roundD m b n e st p).2.2.2 = 0 ∨ roundD m b n e st p = (false, (⟨#[]⟩ : ByteArray), 0, 11) := by
  unfold roundD
  split
  · exact .inl rfl
  · split
    · exact .inr rfl
    · exact .inl rfl
theorem roundOk {m : Int} {b : Bool} {n : Nat} {e p : Int} (hn : (digB n).size ≤ 700) (h1 : -600 ≤ e) (h2 : e ≤ 600) (h3 : -600 ≤ p) (h4 : p ≤ 600) (hc : (roundD m b n e 1 p).2.2.2 = 0) : OkS (roundD m b n e 1 p).2.1 (roundD m b n e 1 p).2.2.1 := by
  by_cases hf : atE n e (min e p) % atE 1 p (min e p) = 0
  · rw [roundD_fit hf]; exact OkS.norm (by omega) (by omega) (by omega)
  · by_cases h7 : m = 7
    · subst h7; rw [roundD_exact hf] at hc; exact absurd hc (by decide)
    · rw [roundD_ok h7]; exact rv0_ok hn (by omega) (by omega) (by omega) (by omega) (by omega) (by omega)
end Go.Proofs.YtjpokifkbclkiaaDoor.Px
end
section
namespace Go.Proofs.YtjpokifkbclkiaaDoor.Px
open Fig Go.RowKit Go.Proofs.YtjpokifkbclkiaaDoorW.PrintWords Go.Proofs.YtjpokifkbclkiaaDoorW.PrintLast Go.Proofs.YtjpokifkbclkiaaDoorW.PrintMore
attribute [local go_sem] max2_int min2_int max_two min_two max_three min_three max_four min_four   -- for this text's walks alone
attribute [local go_sem] fieldA23_0 fieldA23_1 fieldA23_2
theorem numP {s : ByteArray} (h : dB s = true) (hne : s.size ≠ 0) (hs : s.size ≤ 140737488351232) : ten_Number.f s = some (limbs (vB s), true) := by
  unfold ten_Number.f; rw [if_pos hs, if_pos ⟨h, hne⟩]
end Go.Proofs.YtjpokifkbclkiaaDoor.Px
end
section
namespace Go.Proofs.YtjpokifkbclkiaaDoor.Px
open Fig Go.RowKit Go.Proofs.YtjpokifkbclkiaaDoorW.PrintWords Go.Proofs.YtjpokifkbclkiaaDoorW.PrintLast Go.Proofs.YtjpokifkbclkiaaDoorW.PrintMore
attribute [local go_sem] max2_int min2_int max_two min_two max_three min_three max_four min_four   -- for this text's walks alone
attribute [local go_sem] fieldA23_0 fieldA23_1 fieldA23_2
theorem coefP {b : Bool} {s : ByteArray} {e : Int} (h : OkD s e) : dec_Coef.f b s e = some (limbs (vB s)) := by
  have := h.sz
  unfold dec_Coef.f; rw [numP h.d h.ne (by omega)]; rfl
theorem coef_len {s : ByteArray} {e : Int} (h : OkD s e) : (limbs (vB s)).length ≤ 100000 := by
  have := limbs_len_digB (vB s)
  have := h.val
  have := h.sz
  omega
theorem shiftP {l : List Int} {n : Int} (g : goodL l = true) (hl : l.length ≤ 500000) (hn : n ≤ 1000000) : ten_Shift.f l n = some (limbs (valL l * 10 ^ n.toNat)) := by unfold ten_Shift.f; rw [if_pos ⟨g, hl, hn⟩]
end Go.Proofs.YtjpokifkbclkiaaDoor.Px
end
section
namespace Go.Proofs.YtjpokifkbclkiaaDoor.Px
open Fig Go.RowKit Go.Proofs.YtjpokifkbclkiaaDoorW.PrintWords Go.Proofs.YtjpokifkbclkiaaDoorW.PrintLast Go.Proofs.YtjpokifkbclkiaaDoorW.PrintMore
attribute [local go_sem] max2_int min2_int max_two min_two max_three min_three max_four min_four   -- for this text's walks alone
attribute [local go_sem] fieldA23_0 fieldA23_1 fieldA23_2
theorem cutP {b : Bool} {s : ByteArray} {e p : Int} (h : OkS s e) (h1 : -10000 ≤ p) (h2 : p ≤ 10000) : place_cut.f b s e p = some (limbs (vB s / 10 ^ (p - e).toNat), limbs (vB s % 10 ^ (p - e).toNat)) := by
  have hl := h.lo
  have hh := h.hi
  have hc := coef_len h.ok
  unfold place_cut.f
  rw [coefP h.ok]
  simp only [Option.bind_some]
  rw [w64 (x := p - e) (by omega) (by omega)]
  have : ten_Cut.f (limbs (vB s)) (p - e) = some (limbs (vB s / 10 ^ (p - e).toNat), limbs (vB s % 10 ^ (p - e).toNat)) := by
    unfold ten_Cut.f; rw [if_pos ⟨limbs_good _, by omega, by omega⟩, limbs_val]
  rw [this]; rfl
end Go.Proofs.YtjpokifkbclkiaaDoor.Px
end
section
namespace Go.Proofs.YtjpokifkbclkiaaDoor.Px
open Fig Go.RowKit Go.Proofs.YtjpokifkbclkiaaDoorW.PrintWords Go.Proofs.YtjpokifkbclkiaaDoorW.PrintLast Go.Proofs.YtjpokifkbclkiaaDoorW.PrintMore
attribute [local go_sem] max2_int min2_int max_two min_two max_three min_three max_four min_four   -- for this text's walks alone
attribute [local go_sem] fieldA23_0 fieldA23_1 fieldA23_2
theorem fitsP {b : Bool} {s : ByteArray} {e p : Int} (h : OkS s e) (h1 : -10000 ≤ p) (h2 : p ≤ 10000) : place_Fits.f b s e p = some (decide (atE (vB s) e (min e p) % atE 1 p (min e p) = 0)) := by
  unfold place_Fits.f
  by_cases hp : p ≤ e
  · rw [if_pos hp, show min e p = p by omega, atE_self, Nat.mod_one]; rfl
  · rw [if_neg hp, cutP h h1 h2]
    simp only [Option.bind_some, Option.some.injEq]
    rw [show min e p = e by omega, atE_self, show atE 1 p e = 10 ^ (p - e).toNat by unfold atE; rw [Nat.one_mul]]
    rw [Bool.eq_iff_iff, beq_iff_eq, decide_eq_true_eq]
    constructor
    · intro hh; exact limbs_nil_iff.1 (List.eq_nil_of_length_eq_zero (by omega))
    · intro hh; rw [hh, limbs_zero]; rfl
end Go.Proofs.YtjpokifkbclkiaaDoor.Px
end
section
namespace Go.Proofs.YtjpokifkbclkiaaDoor.Px
open Fig Go.RowKit Go.Proofs.YtjpokifkbclkiaaDoorW.PrintWords Go.Proofs.YtjpokifkbclkiaaDoorW.PrintLast Go.Proofs.YtjpokifkbclkiaaDoorW.PrintMore
attribute [local go_sem] max2_int min2_int max_two min_two max_three min_three max_four min_four   -- for this text's walks alone
attribute [local go_sem] fieldA23_0 fieldA23_1 fieldA23_2
theorem modeP (m : Int) : mode_Good.f m = some (decide (0 ≤ m ∧ m < 8)) := by
  unfold mode_Good.f
  by_cases h : m ≥ 0
  · rw [if_pos h]; congr 1; rw [decide_eq_decide]; omega
  · rw [if_neg h]; congr 1; symm; rw [decide_eq_false_iff_not]; omega
end Go.Proofs.YtjpokifkbclkiaaDoor.Px
end
section
namespace Go.Proofs.YtjpokifkbclkiaaDoor.Px
open Fig Go.RowKit Go.Proofs.YtjpokifkbclkiaaDoorW.PrintWords Go.Proofs.YtjpokifkbclkiaaDoorW.PrintLast Go.Proofs.YtjpokifkbclkiaaDoorW.PrintMore
attribute [local go_sem] max2_int min2_int max_two min_two max_three min_three max_four min_four   -- for this text's walks alone
attribute [local go_sem] fieldA23_0 fieldA23_1 fieldA23_2
theorem w_add (e : Int) (p : Nat) (h1 : -1000000 ≤ e) (h2 : e ≤ 1000000) (hp : p ≤ 1000000) : wrap64 (e + (p : Int)) = e + (p : Int) := w64 (by omega) (by omega)
theorem w_norm (e : Int) (p q : Nat) (h1 : -1000000 ≤ e) (h2 : e ≤ 1000000) (hp : p ≤ 1000000) (hq : q ≤ 1000000) : wrap64 (wrap64 (e + (p : Int)) - (q : Int)) = e + (p : Int) - (q : Int) := by rw [w_add e p h1 h2 hp, w64 (by omega) (by omega)]
theorem normP {b : Bool} {s : ByteArray} {e : Int} (h : OkD s e) : dec_Norm.f b s e = some (b, nD (vB s), nE (vB s) e) := by
  have hz := h.val
  have h1 := h.sz
  have h2 := h.lo
  have h3 := h.hi
  unfold dec_Norm.f
  rw [show strings_TrimLeft.f s (⟨#[48]⟩ : ByteArray) = some (digB (vB s)) by unfold strings_TrimLeft.f; rw [if_pos rfl, stripB_eq h.d]]
  simp only [Option.bind_some]
  by_cases h0 : vB s = 0
  · rw [if_pos (digB_toList_nil.2 h0), h0]; rfl
  · rw [if_neg (fun hh => h0 (digB_toList_nil.1 hh))]
    have hl := digB_len_core h0
    have ht : strings_TrimRight.f (digB (vB s)) (⟨#[48]⟩ : ByteArray) = some (digB (core (vB s))) := by
      unfold strings_TrimRight.f
      rw [if_pos ⟨rfl, by omega⟩]
      show some (⟨(Lib.trimRightB (digs (vB s)) 48).toArray⟩ : ByteArray) = _
      unfold Lib.trimRightB; rw [trimR_digs h0]; rfl
    rw [ht]
    simp only [Option.bind_some]
    rw [w_norm e _ _ (by omega) (by omega) (by omega) (by omega)]
    unfold nD nE
    rw [if_neg h0, if_neg h0, show e + ((digB (vB s)).size : Int) - ((digB (core (vB s))).size : Int) = e + (tz (vB s) : Int) by omega]
end Go.Proofs.YtjpokifkbclkiaaDoor.Px
end
section
namespace Go.Proofs.YtjpokifkbclkiaaDoor.Px
open Fig Go.RowKit Go.Proofs.YtjpokifkbclkiaaDoorW.PrintWords Go.Proofs.YtjpokifkbclkiaaDoorW.PrintLast Go.Proofs.YtjpokifkbclkiaaDoorW.PrintMore
attribute [local go_sem] max2_int min2_int max_two min_two max_three min_three max_four min_four   -- for this text's walks alone
attribute [local go_sem] fieldA23_0 fieldA23_1 fieldA23_2
theorem away_up (m : Int) (neg odd : Bool) (half : Int) : mode_Away.f m neg odd half = some (upB m neg odd half) := rfl
end Go.Proofs.YtjpokifkbclkiaaDoor.Px
end
section
namespace Go.Proofs.YtjpokifkbclkiaaDoor.Px
open Fig Go.RowKit Go.Proofs.YtjpokifkbclkiaaDoorW.PrintWords Go.Proofs.YtjpokifkbclkiaaDoorW.PrintLast Go.Proofs.YtjpokifkbclkiaaDoorW.PrintMore
attribute [local go_sem] max2_int min2_int max_two min_two max_three min_three max_four min_four   -- for this text's walks alone
attribute [local go_sem] fieldA23_0 fieldA23_1 fieldA23_2
theorem limbs_head {q : Nat} (h : q ≠ 0) : (limbs q).length > 0 ∧ rd (limbs q) 0 = ((q % 1000000000 : Nat) : Int) := by
  have hv := limbs_val q
  have hg := limbs_good q
  rcases hl : limbs q with _ | ⟨x, l⟩
  · exact absurd (limbs_nil_iff.1 hl) h
  · rw [hl] at hv hg
    obtain ⟨hx, _⟩ := goodL_cons.1 hg
    simp only [valL] at hv
    refine ⟨by simp, ?_⟩
    show x = _
    omega
theorem zeroB_okP (v : Nat) : dB (zeroB v) = true ∧ (zeroB v).size ≠ 0 ∧ vB (zeroB v) = v := by
  unfold zeroB
  by_cases h : v = 0
  · rw [if_pos h, h]; exact ⟨rfl, by decide, rfl⟩
  · rw [if_neg h]; exact ⟨dB_digB v, fun e => h (digB_empty_iff.1 e), vB_digB v⟩
theorem zeroB_sizeP {v k : Nat} (h : (digB v).size ≤ k) (hk : 1 ≤ k) : (zeroB v).size ≤ k := by
  unfold zeroB
  by_cases h0 : v = 0
  · rw [if_pos h0]; exact hk
  · rw [if_neg h0]; exact h
theorem digitsPP {v k : Nat} (h : (digB v).size ≤ k) (hk : k ≤ 1000000) : ten_Digits.f (limbs v) = some (zeroB v) := by
  have := limbs_len_digB v
  unfold ten_Digits.f; rw [if_pos ⟨limbs_good v, by omega⟩, limbs_val]
theorem Round_end {b : Bool} {v : Nat} {p : Int} (hz : (digB v).size ≤ 50000) (h1 : -100000 ≤ p) (h2 : p ≤ 100000) : ((ten_Digits.f (limbs v)).bind fun t => (dec_Norm.f b t p).bind fun u => some (u.1, u.2.1, u.2.2, (0 : Int))) = some (b, nD v, nE v p, 0) := by
  obtain ⟨d1, d2, d3⟩ := zeroB_okP v
  have d4 := zeroB_sizeP (k := 50000) hz (by decide)
  rw [digitsPP hz (by decide)]
  simp only [Option.bind_some]
  rw [normP ⟨d1, d2, by omega, h1, h2⟩, d3]; rfl
theorem placeRound_bad {m : Int} {b : Bool} {s : ByteArray} {e p : Int} (hm : m < 0 ∨ 7 < m) : Ev (fun k => place_Round.f k m b s e p) (false, (⟨#[]⟩ : ByteArray), 0, 1) := by
  unfold place_Round.f
  refine evE (modeP m) (evF (by simp; omega) (Ev.now _))
theorem add_one {q : Nat} (h : (digB q).size ≤ 1000000) : nat_Add.f (limbs q) ([1] : List Int) = some (limbs (q + 1)) := by
  have hl := limbs_len_digB q
  have h1 : ([1] : List Int).length ≤ 1000000000000 := by show 1 ≤ 1000000000000; omega
  have := addF_eq (limbs_good q) (b := [1]) (by decide) (by omega) h1
  rwa [limbs_val, show valL [1] = 1 from rfl] at this
theorem bind_of {α β : Type} {x : Option α} {f : α → Option β} {a : α} {r : Option β} (h : x = some a) (h2 : f a = r) : x.bind f = r := by subst h; exact h2
theorem placeRound_j0 {b : Bool} {s : ByteArray} {e p : Int} {q : Nat} {u : Bool} (hz : (digB q).size ≤ 40000) (h1 : -10000 ≤ p) (h2 : p ≤ 10000) : Ev (fun k => place_Round.j0 k p (limbs q) u b s e) (b, nD (q + if u = true then 1 else 0), nE (q + if u = true then 1 else 0) p, 0) := by
  cases u
  · refine evDone (r' := (b, nD q, nE q p, 0)) (fun k => ?_) (by simp)
    simp only [place_Round.j0, Bool.false_eq_true, if_false]
    exact Round_end (by omega) (by omega) (by omega)
  · have ha := add_one (q := q) (by omega)
    have hz2 := digB_add_le (m := q) (n := 1) (p := 40000) hz (by rw [digB_one_size]; omega)
    refine evDone (r' := (b, nD (q + 1), nE (q + 1) p, 0)) (fun k => ?_) (by simp)
    simp only [place_Round.j0, if_true]
    exact bind_of ha (Round_end (by omega) (by omega) (by omega))
theorem placeRound_ev {m : Int} {b : Bool} {s : ByteArray} {e p : Int} (hm : 0 ≤ m) (hm7 : m ≤ 7) (h : OkS s e) (h1 : -10000 ≤ p) (h2 : p ≤ 10000) : Ev (fun k => place_Round.f k m b s e p) (roundD m b (vB s) e 1 p) := by
  have hv := h.ok.val
  have hsz := h.sz
  have hlo := h.lo
  have hhi := h.hi
  unfold place_Round.f
  refine evE (modeP m) (evT (by simp; omega) (evE (fitsP h h1 h2) ?_))
  by_cases hf : atE (vB s) e (min e p) % atE 1 p (min e p) = 0
  · rw [roundD_fit hf]
    exact evT (decide_eq_true hf) (evE (normP h.ok) (Ev.now _))
  refine evF (by simpa using hf) ?_
  have hpe : e < p := by
    apply Classical.byContradiction; intro hn
    rw [show min e p = p by omega, atE_self, Nat.mod_one] at hf
    exact hf rfl
  by_cases h7 : m = 7
  · subst h7
    rw [roundD_exact hf]
    exact evT rfl (Ev.now _)
  refine evF h7 ?_
  have hme : min e p = e := by omega
  obtain ⟨B, hB⟩ : ∃ B, B = 10 ^ (p - e).toNat := ⟨_, rfl⟩
  have hB1 : atE 1 p e = B := by unfold atE; rw [Nat.one_mul, hB]
  rw [hme, atE_self, hB1] at hf
  have hB0 : 0 < B := by rw [hB]; exact pow10_pos _
  have hzB : (digB B).size ≤ 20001 := by rw [hB, digB_pow_size]; omega
  have zq := digB_mono (Nat.div_le_self (vB s) B) hv
  have zr := digB_mono (Nat.mod_le (vB s) B) hv
  have lq := limbs_len_digB (vB s / B)
  have lr := limbs_len_digB (vB s % B)
  have z2 := digB_add_le zr zr
  have l2 := limbs_len_digB (vB s % B + vB s % B)
  have lB := limbs_len_digB B
  have hcut := cutP (b := b) h h1 h2
  rw [← hB] at hcut
  refine evE hcut ?_
  have ha : nat_Add.f (limbs (vB s % B)) (limbs (vB s % B)) = some (limbs (vB s % B + vB s % B)) := by
    have := addF_eq (limbs_good (vB s % B)) (limbs_good (vB s % B)) (by omega) (by omega)
    rwa [limbs_val] at this
  have hs : ten_Shift.f ([1] : List Int) (wrap64 (p - e)) = some (limbs B) := by
    rw [w64 (x := p - e) (by omega) (by omega), shiftP (by decide) (by decide) (by omega), show valL [1] = 1 by decide, Nat.one_mul, hB]
  have hc : nat_Cmp.f (limbs (vB s % B + vB s % B)) (limbs B) = some (cmpN (vB s % B + vB s % B) B) := by
    have := cmpF_eq (limbs_good (vB s % B + vB s % B)) (limbs_good B) (by omega) (by omega)
    rwa [limbs_val, limbs_val] at this
  refine evE ha (evE hs (evE hc ?_))
  have hres : roundD m b (vB s) e 1 p = (b, nD (vB s / B + if upB m b (vB s / B % 2 == 1) (cmpN (vB s % B + vB s % B) B) = true then 1 else 0), nE (vB s / B + if upB m b (vB s / B % 2 == 1) (cmpN (vB s % B + vB s % B) B) = true then 1 else 0) p, 0) := by
    rw [roundD_at h7 b (vB s) e 1 p e (Int.le_refl e) (by omega)]
    unfold rv0
    rw [atE_self, hB1]
    have hq : rq m b (vB s) B = vB s / B + if upB m b (vB s / B % 2 == 1) (cmpN (vB s % B + vB s % B) B) = true then 1 else 0 := by
      unfold rq; simp only [ne_eq, hf, not_false_eq_true, true_and]
    rw [hq, hB, nD_pow, nE_pow, show e + ((p - e).toNat : Int) = p by omega]
  rw [hres]
  dsimp only
  by_cases hq0 : vB s / B = 0
  · refine evF (by rw [hq0, limbs_zero]; decide) (evE (away_up _ _ _ _) ?_)
    have : (vB s / B % 2 == 1) = false := by rw [hq0]; rfl
    rw [this]
    exact placeRound_j0 (by omega) h1 h2
  · obtain ⟨g1, g2⟩ := limbs_head hq0
    refine evT (by omega) (evT (by omega) ?_)
    have : (Int.tmod (rd (limbs (vB s / B)) 0) 2 == 1) = (vB s / B % 2 == 1) := by
      rw [g2, Int.tmod_eq_emod_of_nonneg (by omega), Bool.eq_iff_iff, beq_iff_eq, beq_iff_eq]; omega
    rw [this]
    refine evE (away_up _ _ _ _) ?_
    exact placeRound_j0 (by omega) h1 h2
end Go.Proofs.YtjpokifkbclkiaaDoor.Px
end
section
namespace Go.Proofs.YtjpokifkbclkiaaDoor.Px
open Fig Go.RowKit Go.Proofs.YtjpokifkbclkiaaDoorW.PrintWords Go.Proofs.YtjpokifkbclkiaaDoorW.PrintLast Go.Proofs.YtjpokifkbclkiaaDoorW.PrintMore
attribute [local go_sem] max2_int min2_int max_two min_two max_three min_three max_four min_four   -- for this text's walks alone
attribute [local go_sem] fieldA23_0 fieldA23_1 fieldA23_2
theorem nD_lit8 {n m k : Nat} {s : ByteArray} (h : n = m * 10 ^ k) (hm : m % 10 ≠ 0) (hd : dB s = true) (hv : vB s = m) (hs : stripB s = s) : nD n = s := by
  rw [h, nD_pow, nD_of hm, ← hv, ← stripB_eq hd, hs]
theorem nE_lit8 {n m k : Nat} {e : Int} (h : n = m * 10 ^ k) (hm : m % 10 ≠ 0) : nE n e = e + (k : Int) := by rw [h, nE_pow, nE_of hm]
theorem answers08_ev : Ev (fun k => figureheadlaw08_answers.f k) true := by
  have ok1 : OkS (⟨#[50, 53]⟩ : ByteArray) (-1) := OkS.of_good (by decide)
  have ok2 : OkS (⟨#[50, 48]⟩ : ByteArray) (-1) := OkS.of_good (by decide)
  have v1 : vB (⟨#[50, 53]⟩ : ByteArray) = 25 := by decide
  have v2 : vB (⟨#[50, 48]⟩ : ByteArray) = 20 := by decide
  have n20 : nD 20 = (⟨#[50]⟩ : ByteArray) := nD_lit8 (m := 2) (k := 1) (by decide) (by decide) (by decide) (by decide) (by decide)
  have e20 : nE 20 (-1) = 0 := by rw [nE_lit8 (m := 2) (k := 1) (by decide) (by decide)]; decide
  have r1 : roundD 4 false 25 (-1) 1 0 = (false, (⟨#[50]⟩ : ByteArray), 0, 0) := by
    rw [roundD_ok (by decide), show rv0 4 false 25 (-1) 1 0 (min (-1) 0) = 20 by decide, n20, show min (-1 : Int) 0 = -1 by decide, e20]
  have r2 : roundD 7 false 25 (-1) 1 0 = (false, (⟨#[]⟩ : ByteArray), 0, 11) := roundD_exact (by decide)
  unfold figureheadlaw08_answers.f
  refine Ev.bind (placeRound_ev (by decide) (by decide) ok1 (by decide) (by decide)) ?_
  rw [v1, r1]
  refine Ev.bind (placeRound_ev (by decide) (by decide) ok1 (by decide) (by decide)) ?_
  rw [v1, r2]
  refine evT rfl (evT (by simp [ByteArray.toList_eq]) (evT rfl (evE (fitsP ok2 (by decide) (by decide)) ?_)))
  rw [v2]
  exact evIs (Ev.now _) (by decide)
end Go.Proofs.YtjpokifkbclkiaaDoor.Px
end
section
namespace Go.Proofs.YtjpokifkbclkiaaDoor.Px
open Fig Go.RowKit Go.Proofs.YtjpokifkbclkiaaDoorW.PrintWords Go.Proofs.YtjpokifkbclkiaaDoorW.PrintLast Go.Proofs.YtjpokifkbclkiaaDoorW.PrintMore
attribute [local go_sem] max2_int min2_int max_two min_two max_three min_three max_four min_four   -- for this text's walks alone
attribute [local go_sem] fieldA23_0 fieldA23_1 fieldA23_2
theorem digB_bt {n : Nat} (h : n ≠ 0) : bt (digB n) (((digB n).size : Int) - 1) = ((48 + n % 10 : Nat) : Int) := by
  have hs := digB_ten_size h
  have hl := digB_ten_last h
  have hlt : (digB (n / 10)).size < (digB n).size := by omega
  rw [show ((digB n).size : Int) - 1 = ((digB (n / 10)).size : Int) by omega, bt_get hlt]
  have hg := List.getElem?_eq_getElem (l := (digB n).data.toList) (i := (digB (n / 10)).size) (by rw [← size_eq]; exact hlt)
  rw [hl] at hg
  rw [← Option.some.inj hg, dig_toNat]
theorem Norm05_loop (b b2 : Bool) (s2 : ByteArray) (e2 : Int) : ∀ (d n : Nat) (e : Int), n ≠ 0 → n < d → (digB n).size ≤ 1000000 → -1000000 ≤ e → e + ((digB n).size : Int) ≤ 2000000 → Ev (fun k => figureheadref05_Norm.l0 k (digB n) e b s2 e2) (b, nD n, nE n e)
  | 0, n, e, h0, hd, hz, h1, h2 => absurd hd (by omega)
  | d + 1, n, e, h0, hd, hz, h1, h2 => by
    have hs := digB_ten_size h0
    have hb := digB_bt h0
    have hw : wrap64 (((digB n).size : Int) - 1) = ((digB n).size : Int) - 1 := w64 (by omega) (by omega)
    by_cases hm : n % 10 = 0
    · have h3 : n / 10 ≠ 0 := by omega
      have h4 : n / 10 < d := by have := div10_lt h0; omega
      have e1 : nD n = nD (n / 10) := by
        conv => lhs; rw [show n = n / 10 * 10 ^ 1 by omega]
        exact nD_pow _ _
      have e2' : nE n e = nE (n / 10) (e + 1) := by
        conv => lhs; rw [show n = n / 10 * 10 ^ 1 by omega]
        exact nE_pow _ _ _
      rw [e1, e2']
      refine Ev.step (f := fun k => figureheadref05_Norm.l0 k (digB (n / 10)) (e + 1) b s2 e2) (fun k => ?_) (Norm05_loop b b2 s2 e2 d (n / 10) (e + 1) h3 h4 (by omega) (by omega) (by omega))
      simp only [figureheadref05_Norm.l0]
      rw [hw, if_pos (by omega), if_pos (by omega), hb, if_pos (by omega), if_pos (by omega), w64 (x := e + 1) (by omega) (by omega)]
      rw [show (((digB n).size : Int) - 1).toNat = (digB (n / 10)).size by omega, digB_ten_init h0]
    · rw [nD_of hm, nE_of hm]
      refine evDone (r' := (b, digB n, e)) (fun k => ?_) rfl
      simp only [figureheadref05_Norm.l0]
      rw [hw, if_pos (by omega), if_pos (by omega), hb, if_neg (by omega)]
theorem Norm05_any {b : Bool} {s : ByteArray} {e : Int} (hd : dB s = true) (hz : s.size ≤ 1000000) (h1 : -1000000 ≤ e) (h2 : e ≤ 1000000) : Ev (fun k => figureheadref05_Norm.f k b s e) (b, nD (vB s), nE (vB s) e) := by
  have hv : (digB (vB s)).size ≤ s.size := digs_size_lt (vB_lt hd)
  unfold figureheadref05_Norm.f
  refine Ev.bind (StripD_ev (by omega) hd) ?_
  by_cases h0 : vB s = 0
  · simp only [digB_toList_nil.2 h0, if_true]
    rw [h0]
    exact Ev.now _
  · have h3 : ¬ (digB (vB s)).toList = ([] : List UInt8) := fun hh => h0 (digB_toList_nil.1 hh)
    simp only [h3, if_false]
    exact Norm05_loop b b s e (vB s + 1) (vB s) e h0 (by omega) (by omega) (by omega) (by omega)
theorem Norm05_ev {b : Bool} {s : ByteArray} {e : Int} (h : OkD s e) : Ev (fun k => figureheadref05_Norm.f k b s e) (b, nD (vB s), nE (vB s) e) := by
  have h1 := h.sz
  have h2 := h.lo
  have h3 := h.hi
  exact Norm05_any h.d (by omega) (by omega) (by omega)
end Go.Proofs.YtjpokifkbclkiaaDoor.Px
end
section
namespace Go.Proofs.YtjpokifkbclkiaaDoor.Px
open Fig Go.RowKit Go.Proofs.YtjpokifkbclkiaaDoorW.PrintWords Go.Proofs.YtjpokifkbclkiaaDoorW.PrintLast Go.Proofs.YtjpokifkbclkiaaDoorW.PrintMore
attribute [local go_sem] max2_int min2_int max_two min_two max_three min_three max_four min_four   -- for this text's walks alone
attribute [local go_sem] fieldA23_0 fieldA23_1 fieldA23_2
theorem wf_u8m {x : Int} (h : (Lit.int .u8 x).wf = true) : 0 ≤ x ∧ x < 256 := by
  simp [Lit.wf, IntKind.min, IntKind.max, IntKind.signed, IntKind.bits] at h; omega
theorem roundD_move {m : Int} {b : Bool} {n : Nat} {e : Int} {st : Nat} {p u : Int} : (roundD m b n (e + u) st (p + u)).2.2.2 = (roundD m b n e st p).2.2.2 ∧ (roundD m b n (e + u) st (p + u)).1 = (roundD m b n e st p).1 ∧ (roundD m b n (e + u) st (p + u)).2.1 = (roundD m b n e st p).2.1 ∧ ((roundD m b n e st p).2.2.2 = 0 → ∃ v x, (roundD m b n e st p) = (b, nD v, nE v x, 0) ∧ (roundD m b n (e + u) st (p + u)).2.2.1 = nE v (x + u)) := by
  unfold roundD
  rw [show min (e + u) (p + u) = min e p + u by omega, atE_move, atE_move, rv0_move]
  split
  · exact ⟨rfl, rfl, rfl, fun _ => ⟨n, e, rfl, rfl⟩⟩
  · split
    · exact ⟨rfl, rfl, rfl, fun h => absurd h (by decide)⟩
    · exact ⟨rfl, rfl, rfl, fun _ => ⟨_, _, rfl, rfl⟩⟩
theorem nE_again (v : Nat) (x u : Int) : nE (core v) (nE v x + u) = nE v (x + u) := by
  by_cases h : v = 0
  · subst h; rw [core_zero]; rfl
  · unfold nE; rw [if_neg h, if_neg h, if_neg (core_ne h), tz_core]; omega
theorem PlaceMoves_pure (a0 : Int) (a1_0 : Bool) (a1_1 : ByteArray) (a1_2 a2 a3 : Int) (w0 : (Lit.int .i64 a0).wf = true) (w1_1 : a1_1.size ≤ 140737488351232) (w1_2 : (Lit.int .i64 a1_2).wf = true) (w2 : (Lit.int .i64 a2).wf = true) (w3 : (Lit.int .u8 a3).wf = true) : ∃ k, figureheadlaw08_PlaceMoves.f k a0 a1_0 a1_1 a1_2 a2 a3 = some true := by
  obtain ⟨u1, u2⟩ := wf_u8m w3
  refine Ev.rounds (g := fun k => figureheadlaw08_PlaceMoves.f k a0 a1_0 a1_1 a1_2 a2 a3) ?_
  unfold figureheadlaw08_PlaceMoves.f
  refine Ev.bind (good08_ev (by omega)) ?_
  cases hg : goodP8 a1_1 a1_2 a2
  · exact evF (by decide) (Ev.bind answers08_ev (Ev.now true))
  obtain ⟨ok, hz, hp1, hp2, he1, he2⟩ := goodP8_ok hg
  have hs := ok.sz
  have ok2 : OkS a1_1 (a1_2 + a3) := ⟨ok.d, ok.ne, ok.sz, by omega, by omega⟩
  refine evT rfl ?_
  rw [w64 (x := a3) (by omega) (by omega), w64 (x := a1_2 + a3) (by omega) (by omega), w64 (x := a2 + a3) (by omega) (by omega)]
  by_cases hm : 0 ≤ a0 ∧ a0 ≤ 7
  · obtain ⟨m1, m2, m3, m4⟩ := roundD_move (m := a0) (b := a1_0) (n := vB a1_1) (e := a1_2) (st := 1) (p := a2) (u := a3)
    refine Ev.bind (placeRound_ev hm.1 hm.2 ok (by omega) (by omega)) (Ev.bind (placeRound_ev hm.1 hm.2 ok2 (by omega) (by omega)) ?_)
    rcases roundD_code' a0 a1_0 (vB a1_1) a1_2 1 a2 with hc | hc
    · obtain ⟨v, x, e1, e2⟩ := m4 hc
      refine evT hc (Ev.bind answers08_ev (evT rfl (evT (m1.trans hc) ?_)))
      have hok : OkS (nD v) (nE v x) := by
        have := roundOk (m := a0) (b := a1_0) (n := vB a1_1) (e := a1_2) (p := a2) (by omega) (by omega) (by omega) (by omega) (by omega) hc
        rw [e1] at this; exact this
      rw [m2, m3, e2, e1]
      have hlo := hok.lo
      have hhi := hok.hi
      rw [w64 (x := nE v x + a3) (by omega) (by omega)]
      have hok2 : OkD (nD v) (nE v x + a3) := ⟨hok.d, hok.ne, by have := hok.sz; omega, by omega, by omega⟩
      refine Ev.bind (Norm05_ev hok2) (evIs (Ev.now _) ?_)
      rw [vB_nD, nD_core, nE_again]; simp
    · refine evF (by rw [hc]; decide) (Ev.bind answers08_ev (evT rfl (evIs (Ev.now _) ?_)))
      rw [m1]; simp
  · have hb : a0 < 0 ∨ 7 < a0 := by omega
    exact Ev.bind (placeRound_bad hb) (Ev.bind (placeRound_bad hb) (evF (by decide) (Ev.bind answers08_ev (evT rfl (Ev.now true)))))
end Go.Proofs.YtjpokifkbclkiaaDoor.Px
end
section
namespace Go.Proofs.YtjpokifkbclkiaaDoorW.PrintWords
open Go.ChangeShapes Go.WideShapes
end Go.Proofs.YtjpokifkbclkiaaDoorW.PrintWords
end
section
namespace Fig
open Go Go.ChangeShapes
theorem one_cell {α : Type} {l : List α} {i n : Nat} (hl : l.length = n) (hi : i < n) : ∃ v, (l.drop i).take 1 = [v] ∧ l[i]? = some v := by
  refine ⟨l[i], ?_, List.getElem?_eq_getElem (by omega)⟩
  rw [List.drop_eq_getElem_cons (by omega)]; rfl
theorem func_cell {P : Program} {W : World} {name : String} {d : DataW Unit} (h : funcsAt P W name d) {g : Nat} {t e : TypeId} {n : Nat} {fld : Field} {ps rs : Array TypeId} {va : Bool}
    (hg : P.globalNamed name = some g) (hty : (P.globals[g]?).map (·.type) = some t) (ht : P.underlying t = some (.array n e)) (he : P.underlying e = some (.struct #[fld])) (hft : P.underlying fld.type = some (.func ps rs va))
    (ce : P.cellsOf e = 1) (cf : P.cellsOf fld.type = 1) (ho : fld.offset = 0) (ct : P.cellsOf t = n) {ds : List (DataW (List UInt8))} (hd : d.funcsOut = .agg ds)
    {i : Nat} (hi : i < n) {b : UInt8} {r : List UInt8} (hdi : ds[i]? = some (.agg [.held (b :: r)])) {f0 : FuncId}
    (hone : ((List.range P.funcs.size).filter fun f => (P.funcs[f]?).any (·.name.toUTF8.data.toList == b :: r)) = [f0]) : W.cell? ⟨g, i, none⟩ = some (.func (.func f0) #[] #[]) := by
  obtain ⟨g', t', cs, fuel, p, hg', ht', hv, hr⟩ := h
  obtain rfl := Option.some.inj (hg.symm.trans hg')
  obtain rfl := Option.some.inj (hty.symm.trans ht')
  obtain ⟨xs, m, _, ex, hcl, hl, hel⟩ := DataW.trod_array ht hr
  rw [hd] at ex
  have e3 : xs.map (·.1) = ds := (DataW.agg.inj (Prod.mk.inj ex).1).symm
  obtain ⟨v, hv1, hv2⟩ := one_cell (l := cs.toList) (n := n) (hcl.trans ct) hi
  have hE := hel i hi
  rw [ce, Nat.mul_one, hv1] at hE
  rw [← e3, List.getElem?_map] at hdi
  cases hx : xs[i]? with
  | none => rw [hx] at hdi; cases hdi
  | some x =>
    rw [hx] at hE hdi
    simp only [Option.map_some, Option.some.injEq] at hdi
    obtain ⟨y0, k, rfl, _, hy⟩ := trod_struct1 he hE
    rw [cf, ho, List.drop_zero] at hy
    have hy0 : y0.1 = .held (b :: r) := by simpa using hdi
    obtain ⟨y1, y2⟩ := y0
    subst hy0
    obtain rfl := func_of_trod hft hone (show DataW.trod _ P W 0 _ true k fld.type [v] = _ from hy)
    rw [World.var?_cell hg hv i]
    simpa using hv2
theorem setCells_os (g : Nat) : ∀ (l : List Value) (i : Nat) (w : World), ((l.zipIdx i).foldl (fun w x => w.setCell ⟨g, x.2, none⟩ x.1) w).os = w.os
  | [], _, _ => rfl
  | _ :: l, i, w => by rw [List.zipIdx_cons, List.foldl_cons, setCells_os g l (i + 1)]; rfl
end Fig
end
section
namespace Fig
open Go Go.Proofs Go.Proofs.YtjpokifkbclkiaaDoor
set_option maxRecDepth 100000
def plainL : List (String × DataW Unit) := [("unicode/utf8.acceptRanges", Rows.laid_unicode_utf8_acceptRanges), ("figurehead/ten.powers", Rows.laid_figurehead_ten_powers), ("unicode/utf8.first", Rows.laid_unicode_utf8_first)]
def laidL : List (String × DataW Unit) := [("figurehead/mode.ways", Rows.laid_figurehead_mode_ways), ("unicode/utf8.acceptRanges", Rows.laid_unicode_utf8_acceptRanges), ("figurehead/ten.powers", Rows.laid_figurehead_ten_powers), ("unicode/utf8.first", Rows.laid_unicode_utf8_first)]
def wayCells : List Value := [.func (.func 112) #[] #[], .func (.func 113) #[] #[], .func (.func 114) #[] #[], .func (.func 115) #[] #[], .func (.func 116) #[] #[], .func (.func 117) #[] #[], .func (.func 118) #[] #[], .func (.func 119) #[] #[]]
noncomputable def startW (os : Os) : World := (wayCells.zipIdx 0).foldl (fun w x => w.setCell ⟨1, x.2, none⟩ x.1) (World.laidAll Tryd.prog os plainL)
theorem startW_os (os : Os) : (startW os).os = os := (setCells_os _ _ _ _).trans (World.laidAll_os _ _ _)
theorem met (os : Os) (args : Array Value) : laidMetH Tryd.prog laidL ((startW os).forCall (fun _ _ => 0) ⟨#[], args, []⟩).memory :=
  laidMetH_of_parts3 (fuel := 8) (laidMet_of_run' 8 (by kernel_rfl) (by kernel_rfl)) (by kernel_rfl) (by kernel_rfl)
theorem plainFilter : (laidL.filter fun x => x.2.handleName?.isNone) = plainL := by kernel_rfl
theorem plain_of {W : World} (h : laidMetH Tryd.prog laidL W) : laidMet Tryd.prog plainL W := plainFilter ▸ (laidMetH_iff.1 h).1
theorem ways_of {W : World} (h : laidMetH Tryd.prog laidL W) : ∀ i f, ([112, 113, 114, 115, 116, 117, 118, 119] : List Nat)[i]? = some f → W.cell? ⟨1, i, none⟩ = some (.func (.func f) #[] #[]) := by
  have hF := h.funcs (n := "figurehead/mode.ways") (List.mem_cons_self)
  have gN : Tryd.prog.globalNamed "figurehead/mode.ways" = some 1 := by kernel_rfl
  have gT : (Tryd.prog.globals[1]?).map (·.type) = some 73 := by kernel_rfl
  have c1 : Tryd.prog.cellsOf 72 = 1 := by kernel_rfl
  have c2 : Tryd.prog.cellsOf 70 = 1 := by kernel_rfl
  have c3 : Tryd.prog.cellsOf 73 = 8 := by kernel_rfl
  intro i f hf
  have key : ∀ {b : UInt8} {r : List UInt8} {j : Nat} {f0 : FuncId}, j < 8 → _ → _ → W.cell? ⟨1, j, none⟩ = some (.func (.func f0) #[] #[]) := fun {b} {r} {j} {f0} hj hdi hone => func_cell (b := b) (r := r) hF gN gT Tryd.underlying73 Tryd.underlying72 Tryd.underlying70 c1 c2 rfl c3 rfl hj hdi hone
  match i, hf with
  | 0, hf => obtain rfl := Option.some.inj hf; exact key (b := 102) (r := [105, 103, 117, 114, 101, 104, 101, 97, 100, 47, 109, 111, 100, 101, 46, 119, 97, 121, 115, 36, 49]) (by decide) rfl (by kernel_rfl)
  | 1, hf => obtain rfl := Option.some.inj hf; exact key (b := 102) (r := [105, 103, 117, 114, 101, 104, 101, 97, 100, 47, 109, 111, 100, 101, 46, 119, 97, 121, 115, 36, 50]) (by decide) rfl (by kernel_rfl)
  | 2, hf => obtain rfl := Option.some.inj hf; exact key (b := 102) (r := [105, 103, 117, 114, 101, 104, 101, 97, 100, 47, 109, 111, 100, 101, 46, 119, 97, 121, 115, 36, 51]) (by decide) rfl (by kernel_rfl)
  | 3, hf => obtain rfl := Option.some.inj hf; exact key (b := 102) (r := [105, 103, 117, 114, 101, 104, 101, 97, 100, 47, 109, 111, 100, 101, 46, 119, 97, 121, 115, 36, 52]) (by decide) rfl (by kernel_rfl)
  | 4, hf => obtain rfl := Option.some.inj hf; exact key (b := 102) (r := [105, 103, 117, 114, 101, 104, 101, 97, 100, 47, 109, 111, 100, 101, 46, 119, 97, 121, 115, 36, 53]) (by decide) rfl (by kernel_rfl)
  | 5, hf => obtain rfl := Option.some.inj hf; exact key (b := 102) (r := [105, 103, 117, 114, 101, 104, 101, 97, 100, 47, 109, 111, 100, 101, 46, 119, 97, 121, 115, 36, 54]) (by decide) rfl (by kernel_rfl)
  | 6, hf => obtain rfl := Option.some.inj hf; exact key (b := 102) (r := [105, 103, 117, 114, 101, 104, 101, 97, 100, 47, 109, 111, 100, 101, 46, 119, 97, 121, 115, 36, 55]) (by decide) rfl (by kernel_rfl)
  | 7, hf => obtain rfl := Option.some.inj hf; exact key (b := 102) (r := [105, 103, 117, 114, 101, 104, 101, 97, 100, 47, 109, 111, 100, 101, 46, 119, 97, 121, 115, 36, 56]) (by decide) rfl (by kernel_rfl)
  | k + 8, hf => simp at hf
theorem pows_of {W : World} (h : laidMetH Tryd.prog laidL W) : ∀ i, i < 9 → W.cell? ⟨0, i, none⟩ = some (.int .u32 (([1, 10, 100, 1000, 10000, 100000, 1000000, 10000000, 100000000] : List Int).getD i 0)) := by
  have gN : Tryd.prog.globalNamed "figurehead/ten.powers" = some 0 := by kernel_rfl
  have gT : (Tryd.prog.globals[0]?).map (·.type) = some 69 := by kernel_rfl
  have hT := Lib.tabIs_of_head (k := .u32) (zs := [1, 10, 100, 1000, 10000, 100000, 1000000, 10000000, 100000000]) gN gT Tryd.underlying69 Tryd.underlying50 (by kernel_rfl) (by kernel_rfl) (laidMet.tail (plain_of h))
  exact fun i hi => hT.cell gN i hi
theorem of_laid {W : World} (h : laidMetH Tryd.prog laidL W) : Glob W := ⟨ways_of h, pows_of h⟩
end Fig
end
section
namespace Fig
open Go Go.ChangeShapes Go.WideShapes Go.RowKit Go.Deep Go.WideElems Go.Joins
theorem open_dec {H : Type} {enc : TypeId × Value → H} {P : Program} {w : World} {base : Nat} {spare : Nat → Bool} {held : Bool} {r : Reach} {b0 : Nat} {t : TypeId} {f0 f1 f2 : Field} {v : Value} {d : DataW H} {p : List MemPlace} {k : IntKind} (hs : P.underlying t = some (.struct #[f0, f1, f2])) (hone : oneCellFields P #[f0, f1, f2] = true) (hC : P.cellsOf t = 3)
    (u0 : P.underlying f0.type = some .bool) (u1 : P.underlying f1.type = some .string) (u2 : P.underlying f2.type = some (.int k)) (hv : Value.okWide P w r b0 t v) (h : DataW.Trod enc P w base spare held t v d p) :
    ∃ (x : Bool) (s : ByteArray) (n : Int), v = .agg #[.bool x, .string s, .int k n] ∧ d = .agg [.lit (.bool x), .lit (.string s.data.toList), .lit (.int k n)] ∧ p = [] ∧ s.size ≤ maxLen ∧ (Lit.int k n).wf = true := by
  obtain ⟨v0, v1, v2, y0, y1, y2, n, rfl, rfl, rfl, h0, h1, h2⟩ := open_agg3 hs hone hC hv h
  obtain ⟨x, e0, rfl⟩ := DataW.trod_bool u0 h0
  obtain ⟨s, e1, rfl, hl⟩ := DataW.trod_string u1 h1
  obtain ⟨m, e2, rfl, hw⟩ := DataW.trod_int u2 h2
  simp only [List.cons.injEq, and_true] at e0 e1 e2
  subst e0 e1 e2
  exact ⟨x, s, m, rfl, rfl, rfl, hl, hw⟩
theorem shut_dec {H : Type} {enc : TypeId × Value → H} {P : Program} {w : World} {base : Nat} {spare : Nat → Bool} {held : Bool} {t : TypeId} {f0 f1 f2 : Field} {k : IntKind} {x : Bool} {s : ByteArray} {n : Int} (hs : P.underlying t = some (.struct #[f0, f1, f2])) (hone : oneCellFields P #[f0, f1, f2] = true) (hC : P.cellsOf t = 3)
    (u0 : P.underlying f0.type = some .bool) (u1 : P.underlying f1.type = some .string) (u2 : P.underlying f2.type = some (.int k)) (hl : s.size ≤ maxLen) (hw : (Lit.int k n).wf = true) :
    DataW.Trod enc P w base spare held t (.agg #[.bool x, .string s, .int k n]) (.agg [.lit (.bool x), .lit (.string s.data.toList), .lit (.int k n)]) [] :=
  shut_agg3 (y0 := (.lit (.bool x), [])) (y1 := (.lit (.string s.data.toList), [])) (y2 := (.lit (.int k n), [])) hs hone hC ⟨1, by simp [DataW.trod, u0]⟩ ⟨1, by simp [DataW.trod, u1, hl]⟩ ⟨1, by simp [DataW.trod, u2, hw]⟩
theorem sized_dec {H : Type} {P : Program} {ts : List TypeId} {ds : List (DataW H)} (h : (DataW.weightsEach P ts ds).all (· ≤ reachBytes) = true) {j : Nat} {t : TypeId} {f0 f1 f2 : Field} {x y : DataW H} {bytes : List UInt8} (ht : ts[j]? = some t) (hd : ds[j]? = some (.agg [x, .lit (.string bytes), y])) (hs : P.underlying t = some (.struct #[f0, f1, f2])) : bytes.length ≤ reachBytes := by
  have := List.all_eq_true.1 h _ (DataW.weights_mem_each ht hd bytes.length (by simp [DataW.weights, DataW.weightsEach, hs]))
  simpa using this
end Fig
end
