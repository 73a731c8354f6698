/- The functions that the law DecPlaces reaches, told as plain functions, with what is proved of them, and the words they need (part 3). -/
import Derived.BigRegion
import Derived.Test.YtbjaiphfehnncaaDoorCDecPlaces0
import Derived.Test.YtbjaiphfehnncaaDoorCDecPlaces1
import Derived.Test.YtbjaiphfehnncaaDoorCDecPlaces2
import Derived.SizedLaws
import Derived.ChangeSlices
import Derived.LaidMore
import Derived.LaidHandle
import Derived.LaidSub
import Derived.OpenShut
import Derived.ChangeSame
import Derived.Lay
import Derived.Lib.LaidTab
import Derived.Test.YtbjaiphfehnncaaDoorRows
import Derived.Stop.LaidErr
import Derived.Lib.SmallJoins
import Derived.ChangeMaps5
set_option linter.unusedVariables false
set_option linter.unusedSimpArgs false
section
namespace Go.Proofs.YtbjaiphfehnncaaDoor.Px
open Fig Go.RowKit Go.Proofs.YtbjaiphfehnncaaDoorW.PrintWords Go.Proofs.YtbjaiphfehnncaaDoorW.PrintLast Go.Proofs.YtbjaiphfehnncaaDoorW.PrintMore
attribute [local go_sem] max2_int min2_int max_two min_two max_three min_three max_four min_four   -- for this text's walks alone
attribute [local go_sem] fieldA23_0 fieldA23_1 fieldA23_2
def figureheadlaw05_DecPlaces.j0 : Nat → Int → Int → Bool → Bool → ByteArray → Int → Bool → ByteArray → Int → Option (Bool)
  | 0, _, _, _, _, _, _, _, _, _ => none
  | k + 1, x2, x3, x18, x298000, x298001, x298002, x299000, x299001, x299002 => if x18 = true then ((figureheadlaw05_answers.f k).bind fun t301 => (some t301)) else ((figureheadlaw05_answers.f k).bind fun t304 => (if t304 = true then ((dec_Digit.f x298000 x298001 (wrap64 (x298002 + (wrap64 (x2)))) (wrap64 ((wrap64 (x3)) + (wrap64 (x2))))).bind fun t305 => ((dec_Digit.f x298000 x298001 x298002 (wrap64 (x3))).bind fun t306 => (if t305 = t306 then ((dec_Zero.f x298000 x298001 x298002).bind fun t307 => (if t307 = true then ((dec_Cmp.f k x298000 x298001 (wrap64 (x298002 + (wrap64 (x2)))) x299000 x299001 (wrap64 (x299002 + (wrap64 (x2))))).bind fun t308 => ((dec_Cmp.f k x298000 x298001 x298002 x299000 x299001 x299002).bind fun t309 => (some (t308 == t309)))) else ((dec_Top.f x298000 x298001 (wrap64 (x298002 + (wrap64 (x2))))).bind fun t310 => ((dec_Top.f x298000 x298001 x298002).bind fun t311 => (if t310 = (wrap64 (t311 + (wrap64 (x2)))) then ((dec_Cmp.f k x298000 x298001 (wrap64 (x298002 + (wrap64 (x2)))) x299000 x299001 (wrap64 (x299002 + (wrap64 (x2))))).bind fun t312 => ((dec_Cmp.f k x298000 x298001 x298002 x299000 x299001 x299002).bind fun t313 => (some (t312 == t313)))) else (some false)))))) else (some false)))) else (some false)))
def figureheadlaw05_DecPlaces.f (k : Nat) (a0_0 : Bool) (a0_1 : ByteArray) (a0_2 : Int) (a1_0 : Bool) (a1_1 : ByteArray) (a1_2 : Int) (a2 : Int) (a3 : Int) : Option (Bool) := (figureheadref05_Good.f k a0_0 a0_1 a0_2).bind fun t299 => (if t299 = true then ((figureheadref05_Good.f k a1_0 a1_1 a1_2).bind fun t300 => (figureheadlaw05_DecPlaces.j0 k a2 a3 (!t300) a0_0 a0_1 a0_2 a1_0 a1_1 a1_2)) else (figureheadlaw05_DecPlaces.j0 k a2 a3 true a0_0 a0_1 a0_2 a1_0 a1_1 a1_2))
theorem figureheadlaw05_DecPlaces.mono_l : ∀ k, (∀ y0 y1 y2 y3 y4 y5 y6 y7 y8, LeO (figureheadlaw05_DecPlaces.j0 k y0 y1 y2 y3 y4 y5 y6 y7 y8) (figureheadlaw05_DecPlaces.j0 (k + 1) y0 y1 y2 y3 y4 y5 y6 y7 y8))
  | 0 => fun _ _ _ _ _ _ _ _ _ r h => by simp [figureheadlaw05_DecPlaces.j0] at h
  | k + 1 => by
    have ih0 := figureheadlaw05_DecPlaces.mono_l k
    · intro y0 y1 y2 y3 y4 y5 y6 y7 y8
      unfold figureheadlaw05_DecPlaces.j0
      repeat' first
      | (with_reducible exact ih0 _ _ _ _ _ _ _ _ _)
      | (with_reducible exact dec_Cmp.mono _ _ _ _ _ _ _)
      | (with_reducible exact figureheadlaw05_answers.mono _)
      | (with_reducible exact figureheadref05_Good.mono _ _ _ _)
      | (with_reducible exact LeO.refl _)
      | (with_reducible exact LeO.none _)
      | (with_reducible refine LeO.ite ?_ ?_)
      | (with_reducible refine LeO.bind ?_ (fun _ => ?_))
      | exact ih0 _ _ _ _ _ _ _ _ _
      | exact dec_Cmp.mono _ _ _ _ _ _ _
      | exact figureheadlaw05_answers.mono _
      | exact figureheadref05_Good.mono _ _ _ _
      | exact LeO.none _
      | refine LeO.ite ?_ ?_
      | refine LeO.bind ?_ (fun _ => ?_)
theorem figureheadlaw05_DecPlaces.mono : ∀ a0 a1 a2 a3 a4 a5 a6 a7 k, LeO (figureheadlaw05_DecPlaces.f k a0 a1 a2 a3 a4 a5 a6 a7) (figureheadlaw05_DecPlaces.f (k + 1) a0 a1 a2 a3 a4 a5 a6 a7) := by
  intro a0 a1 a2 a3 a4 a5 a6 a7 k
  have ih0 := figureheadlaw05_DecPlaces.mono_l k
  unfold figureheadlaw05_DecPlaces.f
  repeat' first
      | (with_reducible exact ih0 _ _ _ _ _ _ _ _ _)
      | (with_reducible exact dec_Cmp.mono _ _ _ _ _ _ _)
      | (with_reducible exact figureheadlaw05_answers.mono _)
      | (with_reducible exact figureheadref05_Good.mono _ _ _ _)
      | (with_reducible exact LeO.refl _)
      | (with_reducible exact LeO.none _)
      | (with_reducible refine LeO.ite ?_ ?_)
      | (with_reducible refine LeO.bind ?_ (fun _ => ?_))
      | exact ih0 _ _ _ _ _ _ _ _ _
      | exact dec_Cmp.mono _ _ _ _ _ _ _
      | exact figureheadlaw05_answers.mono _
      | exact figureheadref05_Good.mono _ _ _ _
      | exact LeO.none _
      | refine LeO.ite ?_ ?_
      | refine LeO.bind ?_ (fun _ => ?_)
def figureheadlaw05_DecPlaces.T5 : Bool × List (List Nat × List Nat) := (true, [([], []), ([0, 0], [0]), ([1], [1]), ([1], [1]), ([3, 1], [1, 3]), ([1], [1]), ([5, 1], [1, 5]), ([4, 6, 1], [1, 4, 6]), ([2, 7, 1, 1], [1, 2, 7]), ([1], [1]), ([1], [1]), ([10, 1], [1, 10]), ([9, 11, 8, 1], [1, 9, 11]), ([8, 12, 1], [1, 8, 12]), ([1, 13], [1, 13]), ([14, 12], [14]), ([15], [15]), ([16, 15, 15], [15, 16]), ([17, 17, 15], [15, 17]), ([18], [18]), ([19, 18, 18], [18, 19]), ([18], [18]), ([21, 20, 18], [18, 21]), ([18], [18]), ([23, 18], [18, 23]), ([22, 24, 18], [18, 22, 24]), ([20, 25, 18], [18, 20, 25]), ([18, 26, 15], [15, 18, 26]), ([15, 27], [15, 27]), ([28, 22], [28]), ([29], [29]), ([29], [29]), ([30, 31, 29, 29], [29, 30, 31]), ([29], [29]), ([29], [29]), ([33, 34, 32, 29], [29, 33, 34]), ([32, 35, 29], [29, 32, 35]), ([29, 36], [29, 36]), ([37, 35, 0, 1, 2, 3, 4, 5, 6, 7, 8, 9, 10, 11, 12, 13, 14, 15, 16, 17, 18, 19, 20, 21, 22, 23, 24, 25, 26, 27, 28, 29, 30, 31, 32, 33, 34, 35, 36, 37], [37])])
def figureheadlaw05_DecPlaces.B5 : List Nat := [0, 1, 3, 3, 11, 3, 35, 123, 255, 3, 3, 1027, 4095, 8191, 16383, 32767, 65535, 131071, 262143, 524287, 1048575, 524287, 4194303, 524287, 8912895, 33554431, 67108863, 134217727, 268435455, 536870911, 1073741823, 1073741823, 4294967295, 1073741823, 1073741823, 34359738367, 68719476735, 137438953471, 274877906943]
theorem figureheadlaw05_DecPlaces.tab5 : rtab .any (opsOf Tryd.f9 5) = figureheadlaw05_DecPlaces.T5 := by kernel_rfl
theorem figureheadlaw05_DecPlaces.bits5 : waitsOk figureheadlaw05_DecPlaces.T5.2 figureheadlaw05_DecPlaces.B5 = true := by kernel_rfl
set_option maxHeartbeats 8000000 in
set_option maxRecDepth 100000 in
theorem figureheadlaw05_DecPlaces.calls (k : Nat) (a0_0 : Bool) (a0_1 : ByteArray) (a0_2 : Int) (a1_0 : Bool) (a1_1 : ByteArray) (a1_2 : Int) (a2 : Int) (a3 : Int) (r : Bool) (w : World) (hG : Fig.Glob w) (HT : Aside0 (r = true)) (h : figureheadlaw05_DecPlaces.f k a0_0 a0_1 a0_2 a1_0 a1_1 a1_2 a2 a3 = some r) :
    Calls Tryd.prog 9 #[.agg #[.bool a0_0, .string a0_1, .int .i64 a0_2], .agg #[.bool a1_0, .string a1_1, .int .i64 a1_2], .int .i8 a2, .int .i16 a3] w fun e w' => e = .returned (.bool r) ∧ Below w.heap.size w w' := by
  have hu23 := Tryd.underlying23
  have HG := Aside0.mk hG
  clear hG
  have HB := Aside0.mk (Below.refl w.heap.size w)
  have H : ((figureheadref05_Good.f k a0_0 a0_1 a0_2).bind fun t299 => (if t299 = true then ((figureheadref05_Good.f k a1_0 a1_1 a1_2).bind fun t300 => (figureheadlaw05_DecPlaces.j0 k a2 a3 (!t300) a0_0 a0_1 a0_2 a1_0 a1_1 a1_2)) else (figureheadlaw05_DecPlaces.j0 k a2 a3 true a0_0 a0_1 a0_2 a1_0 a1_1 a1_2))) = some r := h
  clear h
  have HC5 := Aside0.mk H
  clear H
  go_enter Tryd.func9, Tryd.ntmps9
  go_upto_region 1 with (first | ((with_reducible refine gate_dst (N := 4) rfl ?_); refine box_event ?hg (N := 4) ?hd (cs := #[.bool a0_0, .string a0_1, .int .i64 a0_2]) (t := 23) ?hr ?_; (case hd => rfl); (case hg => rfl); (case hr => first | (go_simp; done) | (go_simp; rfl)); intro gb297 hg w6 hbox hb; have n0_ := Aside0.mk (below_step (by repeat (first | (with_reducible first | exact HB.out | apply below_alloc | apply pw_below_drewN | apply below_drew1) | exact HB.out)) hb); have n1_ := Aside0.mk (hbox); have n2_ := Aside0.mk ((by rw [hg]; exact (below_size (by repeat (first | (with_reducible first | exact HB.out | apply below_alloc | apply pw_below_drewN | apply below_drew1) | exact HB.out))) : w.heap.size ≤ gb297)); have n3_ := Aside0.mk ((by rw [hg]; exact (below_size (by repeat (first | (with_reducible first | exact HB.out | apply below_alloc | apply pw_below_drewN | apply below_drew1) | exact HB.out))) : w.heap.size ≤ gb297)); clear HB; have HB := n0_; have BK297 := n1_; have GW297 := n2_; have GE297 := n3_; clear n0_ n1_ n2_ n3_; clear hb hbox hg) | ((with_reducible refine gate_dst (N := 5) rfl ?_); refine box_event ?hg (N := 5) ?hd (cs := #[.bool a1_0, .string a1_1, .int .i64 a1_2]) (t := 23) ?hr ?_; (case hd => rfl); (case hg => rfl); (case hr => first | (go_simp; done) | (go_simp; rfl)); intro gb298 hg w7 hbox hb; have n0_ := Aside0.mk (blk_below (g := gb297) (o := .cells #[.bool a0_0, .string a0_1, .int .i64 a0_2] 23 (0, 0)) (by (with_reducible repeat (first | refine blk_drewN ?_ _ | refine blk_drew ?_ | refine blk_alloc ?_ _)); exact BK297.out) hb); have n1_ := Aside0.mk (below_step (by repeat (first | (with_reducible first | exact HB.out | apply below_alloc | apply pw_below_drewN | apply below_drew1 | refine below_set ?_ GE297.out) | exact HB.out)) hb); have n2_ := Aside0.mk (hbox); have n3_ := Aside0.mk ((by rw [hg]; exact (below_size (by repeat (first | (with_reducible first | exact HB.out | apply below_alloc | apply pw_below_drewN | apply below_drew1 | refine below_set ?_ GE297.out) | exact HB.out))) : w.heap.size ≤ gb298)); have n4_ := Aside0.mk ((by rw [hg]; exact (below_size (by repeat (first | (with_reducible first | exact HB.out | apply below_alloc | apply pw_below_drewN | apply below_drew1 | refine below_set ?_ GE297.out) | exact HB.out))) : w.heap.size ≤ gb298)); have n5_ := Aside0.mk ((by rw [hg]; exact Nat.ne_of_lt (blk_lt (g := gb297) (o := .cells #[.bool a0_0, .string a0_1, .int .i64 a0_2] 23 (0, 0)) (by (with_reducible repeat (first | refine blk_drewN ?_ _ | refine blk_drew ?_ | refine blk_alloc ?_ _)); exact BK297.out)) : gb297 ≠ gb298)); have n6_ := Aside0.mk ((by rw [hg]; exact Nat.ne_of_gt (blk_lt (g := gb297) (o := .cells #[.bool a0_0, .string a0_1, .int .i64 a0_2] 23 (0, 0)) (by (with_reducible repeat (first | refine blk_drewN ?_ _ | refine blk_drew ?_ | refine blk_alloc ?_ _)); exact BK297.out)) : gb298 ≠ gb297)); clear BK297; clear HB; have BK297 := n0_; have HB := n1_; have BK298 := n2_; have GW298 := n3_; have GE298 := n4_; have NB297_298 := n5_; have NB298_297 := n6_; clear n0_ n1_ n2_ n3_ n4_ n5_ n6_; clear hb hbox hg))
  (try simp only [Act.put, List.setIfInBounds_toArray, List.set_cons_zero, List.set_cons_succ])
  go_cut [18] (fun v18 wc => ∃ (kq : Nat) (x18_4 : Bool), v18 = .bool x18_4 ∧ Aside0 (figureheadlaw05_DecPlaces.j0 kq a2 a3 x18_4 a0_0 a0_1 a0_2 a1_0 a1_1 a1_2 = some r) ∧ Aside0 (kq ≤ k) ∧ Aside0 (wc.heap[gb297]? = some (.cells #[.bool a0_0, .string a0_1, .int .i64 a0_2] 23 (0, 0))) ∧ Aside0 (wc.heap[gb298]? = some (.cells #[.bool a1_0, .string a1_1, .int .i64 a1_2] 23 (0, 0))) ∧ Aside0 (Below w.heap.size w wc))
  case first =>
    have H := HC5.out
    clear HC5
    replace H := Option.bind_eq_some_iff.mp H
    obtain ⟨t299, A80, H⟩ := H
    replace H : (if t299 = true then ((figureheadref05_Good.f k a1_0 a1_1 a1_2).bind fun t300 => (figureheadlaw05_DecPlaces.j0 k a2 a3 (!t300) a0_0 a0_1 a0_2 a1_0 a1_1 a1_2)) else (figureheadlaw05_DecPlaces.j0 k a2 a3 true a0_0 a0_1 a0_2 a1_0 a1_1 a1_2)) = some r := H
    have A8 := Aside0.mk A80
    clear A80
    by_cases c9 : t299 = true
    · subst c9
      have H1 : ((figureheadref05_Good.f k a1_0 a1_1 a1_2).bind fun t300 => (figureheadlaw05_DecPlaces.j0 k a2 a3 (!t300) a0_0 a0_1 a0_2 a1_0 a1_1 a1_2)) = some r := by rw [if_pos rfl] at H; exact H
      clear H
      have H := H1
      clear H1
      replace H := Option.bind_eq_some_iff.mp H
      obtain ⟨t300, A100, H⟩ := H
      replace H : (figureheadlaw05_DecPlaces.j0 k a2 a3 (!t300) a0_0 a0_1 a0_2 a1_0 a1_1 a1_2) = some r := H
      have A10 := Aside0.mk A100
      clear A100
      have H' := Aside0.mk H
      clear H
      have hnb11 := NB297_298.out
      have hnc11 := NB298_297.out
      have hcz12_0 : w7.cell? ⟨gb297, 0, none⟩ = some (.bool a0_0) := (blk_cell BK297.out 0).trans rfl
      have hcz12_1 : w7.cell? ⟨gb297, 1, none⟩ = some (.string a0_1) := (blk_cell BK297.out 1).trans rfl
      have hcz12_2 : w7.cell? ⟨gb297, 2, none⟩ = some (.int .i64 a0_2) := (blk_cell BK297.out 2).trans rfl
      have hfz12_0 := blk_frozen BK297.out 0
      have hfz12_1 := blk_frozen BK297.out 1
      have hfz12_2 := blk_frozen BK297.out 2
      go_wp2_with (first | ((with_reducible refine gate_callee (f := 15) rfl ?_); refine goesL_ (some 12) rfl rfl Tryd.func15 (by kernel_rfl) rfl #[.agg #[.bool a0_0, .string a0_1, .int .i64 a0_2]] rfl (by (try simp only [List.map_toArray]); (try simp only [List.map_cons]); (try simp only [List.map_nil]); first | done | rfl | (simp only [List.length_drop, List.length_take]; rfl)) ?_; (with_reducible refine (figureheadref05_Good.calls k a0_0 a0_1 a0_2 true _ A8.out).mono ?_); rintro e w13 ⟨rfl, hb⟩; refine ⟨_, rfl, ?_⟩; have n0_ := Aside0.mk (blk_below (g := gb297) (o := .cells #[.bool a0_0, .string a0_1, .int .i64 a0_2] 23 (0, 0)) (by (with_reducible repeat (first | refine blk_drewN ?_ _ | refine blk_drew ?_ | refine blk_alloc ?_ _)); exact BK297.out) hb); have n1_ := Aside0.mk (blk_below (g := gb298) (o := .cells #[.bool a1_0, .string a1_1, .int .i64 a1_2] 23 (0, 0)) (by (with_reducible repeat (first | refine blk_drewN ?_ _ | refine blk_drew ?_ | refine blk_alloc ?_ _)); exact BK298.out) hb); have n2_ := Aside0.mk (below_step (by repeat (first | (with_reducible first | exact HB.out | apply below_alloc | apply pw_below_drewN | apply below_drew1 | refine below_set ?_ GE297.out | refine below_set ?_ GE298.out) | exact HB.out)) hb); clear BK297; clear BK298; clear HB; have BK297 := n0_; have BK298 := n1_; have HB := n2_; clear n0_ n1_ n2_; (try clear hb); (try clear hb2); (try clear hk); (try clear hi); have hcz14_0 : w13.cell? ⟨gb298, 0, none⟩ = some (.bool a1_0) := (blk_cell BK298.out 0).trans rfl; have hcz14_1 : w13.cell? ⟨gb298, 1, none⟩ = some (.string a1_1) := (blk_cell BK298.out 1).trans rfl; have hcz14_2 : w13.cell? ⟨gb298, 2, none⟩ = some (.int .i64 a1_2) := (blk_cell BK298.out 2).trans rfl; have hfz14_0 := blk_frozen BK298.out 0; have hfz14_1 := blk_frozen BK298.out 1; have hfz14_2 := blk_frozen BK298.out 2) | ((with_reducible refine gate_dst (N := 16) rfl ?_); (refine gate_guard (by rfl) ?_; dsimp only); (with_reducible refine gate_callee (f := 15) rfl ?_); refine goesL_ (some 16) rfl rfl Tryd.func15 (by kernel_rfl) rfl #[.agg #[.bool a1_0, .string a1_1, .int .i64 a1_2]] rfl (by (try simp only [List.map_toArray]); (try simp only [List.map_cons]); (try simp only [List.map_nil]); first | done | rfl | (simp only [List.length_drop, List.length_take]; rfl)) ?_; (with_reducible refine (figureheadref05_Good.calls k a1_0 a1_1 a1_2 t300 _ A10.out).mono ?_); rintro e w15 ⟨rfl, hb⟩; refine ⟨_, rfl, ?_⟩; have n0_ := Aside0.mk (blk_below (g := gb297) (o := .cells #[.bool a0_0, .string a0_1, .int .i64 a0_2] 23 (0, 0)) (by (with_reducible repeat (first | refine blk_drewN ?_ _ | refine blk_drew ?_ | refine blk_alloc ?_ _)); exact BK297.out) hb); have n1_ := Aside0.mk (blk_below (g := gb298) (o := .cells #[.bool a1_0, .string a1_1, .int .i64 a1_2] 23 (0, 0)) (by (with_reducible repeat (first | refine blk_drewN ?_ _ | refine blk_drew ?_ | refine blk_alloc ?_ _)); exact BK298.out) hb); have n2_ := Aside0.mk (below_step (by repeat (first | (with_reducible first | exact HB.out | apply below_alloc | apply pw_below_drewN | apply below_drew1 | refine below_set ?_ GE297.out | refine below_set ?_ GE298.out) | exact HB.out)) hb); clear BK297; clear BK298; clear HB; have BK297 := n0_; have BK298 := n1_; have HB := n2_; clear n0_ n1_ n2_; (try clear hb); (try clear hb2); (try clear hk); (try clear hi)))
      go_meet
      case rel => exact ⟨_, (!t300), (by first | rfl | (simp; done) | (simp [*]; done) | (simp [*, Fig.bne_nil]; done)), H', ⟨by first | omega | exact Nat.le_refl _⟩, ⟨by (with_reducible repeat (first | refine blk_drewN ?_ _ | refine blk_drew ?_ | refine blk_alloc ?_ _)); exact BK297.out⟩, ⟨by (with_reducible repeat (first | refine blk_drewN ?_ _ | refine blk_drew ?_ | refine blk_alloc ?_ _)); exact BK298.out⟩, ⟨by repeat (first | (with_reducible first | exact HB.out | apply below_alloc | apply pw_below_drewN | apply below_drew1 | refine below_set ?_ GE297.out | refine below_set ?_ GE298.out) | exact HB.out)⟩⟩
    · replace c9 := Bool.eq_false_iff.mpr c9
      subst c9
      have H1 : (figureheadlaw05_DecPlaces.j0 k a2 a3 true a0_0 a0_1 a0_2 a1_0 a1_1 a1_2) = some r := by rw [if_neg (show ¬ (false = true) by decide)] at H; exact H
      clear H
      have H := H1
      clear H1
      have H' := Aside0.mk H
      clear H
      have hnb16 := NB297_298.out
      have hnc16 := NB298_297.out
      have hcz17_0 : w7.cell? ⟨gb297, 0, none⟩ = some (.bool a0_0) := (blk_cell BK297.out 0).trans rfl
      have hcz17_1 : w7.cell? ⟨gb297, 1, none⟩ = some (.string a0_1) := (blk_cell BK297.out 1).trans rfl
      have hcz17_2 : w7.cell? ⟨gb297, 2, none⟩ = some (.int .i64 a0_2) := (blk_cell BK297.out 2).trans rfl
      have hfz17_0 := blk_frozen BK297.out 0
      have hfz17_1 := blk_frozen BK297.out 1
      have hfz17_2 := blk_frozen BK297.out 2
      go_wp2_with (first | ((with_reducible refine gate_callee (f := 15) rfl ?_); refine goesL_ (some 12) rfl rfl Tryd.func15 (by kernel_rfl) rfl #[.agg #[.bool a0_0, .string a0_1, .int .i64 a0_2]] rfl (by (try simp only [List.map_toArray]); (try simp only [List.map_cons]); (try simp only [List.map_nil]); first | done | rfl | (simp only [List.length_drop, List.length_take]; rfl)) ?_; (with_reducible refine (figureheadref05_Good.calls k a0_0 a0_1 a0_2 false _ A8.out).mono ?_); rintro e w18 ⟨rfl, hb⟩; refine ⟨_, rfl, ?_⟩; have n0_ := Aside0.mk (blk_below (g := gb297) (o := .cells #[.bool a0_0, .string a0_1, .int .i64 a0_2] 23 (0, 0)) (by (with_reducible repeat (first | refine blk_drewN ?_ _ | refine blk_drew ?_ | refine blk_alloc ?_ _)); exact BK297.out) hb); have n1_ := Aside0.mk (blk_below (g := gb298) (o := .cells #[.bool a1_0, .string a1_1, .int .i64 a1_2] 23 (0, 0)) (by (with_reducible repeat (first | refine blk_drewN ?_ _ | refine blk_drew ?_ | refine blk_alloc ?_ _)); exact BK298.out) hb); have n2_ := Aside0.mk (below_step (by repeat (first | (with_reducible first | exact HB.out | apply below_alloc | apply pw_below_drewN | apply below_drew1 | refine below_set ?_ GE297.out | refine below_set ?_ GE298.out) | exact HB.out)) hb); clear BK297; clear BK298; clear HB; have BK297 := n0_; have BK298 := n1_; have HB := n2_; clear n0_ n1_ n2_; (try clear hb); (try clear hb2); (try clear hk); (try clear hi)))
      go_meet
      case rel => exact ⟨_, (true), (by first | rfl | (simp; done) | (simp [*]; done) | (simp [*, Fig.bne_nil]; done)), H', ⟨by first | omega | exact Nat.le_refl _⟩, ⟨by (with_reducible repeat (first | refine blk_drewN ?_ _ | refine blk_drew ?_ | refine blk_alloc ?_ _)); exact BK297.out⟩, ⟨by (with_reducible repeat (first | refine blk_drewN ?_ _ | refine blk_drew ?_ | refine blk_alloc ?_ _)); exact BK298.out⟩, ⟨by repeat (first | (with_reducible first | exact HB.out | apply below_alloc | apply pw_below_drewN | apply below_drew1 | refine below_set ?_ GE297.out | refine below_set ?_ GE298.out) | exact HB.out)⟩⟩
  case rest =>
    clear HC5
    try clear c1
    try clear p2
    try clear c9
    try clear c11
    try clear c15
    try clear c16
    try clear hcz12_0
    try clear hcz12_1
    try clear hcz12_2
    try clear hcz14_0
    try clear hcz14_1
    try clear hcz14_2
    try clear hcz17_0
    try clear hcz17_1
    try clear hcz17_2
    try clear hfz12_0
    try clear hfz12_1
    try clear hfz12_2
    try clear hfz14_0
    try clear hfz14_1
    try clear hfz14_2
    try clear hfz17_0
    try clear hfz17_1
    try clear hfz17_2
    obtain ⟨kq, x18_4, rfl, HA, HJ4, BK297, BK298, HB⟩ := hcut
    cases kq with
    | zero => exact absurd HA.out (by simp [figureheadlaw05_DecPlaces.j0])
    | succ kj4 =>
      have H := HA.out
      clear HA
      simp only [figureheadlaw05_DecPlaces.j0] at H
      by_cases c19 : x18_4 = true
      · subst c19
        have H1 : ((figureheadlaw05_answers.f kj4).bind fun t301 => (some t301)) = some r := by rw [if_pos rfl] at H; exact H
        clear H
        have H := H1
        clear H1
        replace H := Option.bind_eq_some_iff.mp H
        obtain ⟨t301, A200, H⟩ := H
        replace H : (some t301) = some r := H
        have A20 := Aside0.mk A200
        clear A200
        obtain rfl := Option.some.inj H
        go_wp2_with (first | ((with_reducible refine gate_callee (f := 16) rfl ?_); refine goesL_ (some 19) rfl rfl Tryd.func16 (by kernel_rfl) rfl #[] rfl (by (try simp only [List.map_toArray]); (try simp only [List.map_cons]); (try simp only [List.map_nil]); first | done | rfl | (simp only [List.length_drop, List.length_take]; rfl)) ?_; (with_reducible refine (figureheadlaw05_answers.calls kj4  t301 _ ?side1 ?side2 A20.out).mono ?_); (case side1 => exact Fig.Glob.below HG.out (by repeat (first | (with_reducible first | exact HB.out | apply below_alloc | apply pw_below_drewN | apply below_drew1 | refine below_set ?_ GE297.out | refine below_set ?_ GE298.out) | exact HB.out))); (case side2 => exact ⟨by first | rfl | exact HT.out⟩); rintro e w21 ⟨rfl, hb⟩; refine ⟨_, rfl, ?_⟩; have n0_ := Aside0.mk (blk_below (g := gb297) (o := .cells #[.bool a0_0, .string a0_1, .int .i64 a0_2] 23 (0, 0)) (by (with_reducible repeat (first | refine blk_drewN ?_ _ | refine blk_drew ?_ | refine blk_alloc ?_ _)); exact BK297.out) hb); have n1_ := Aside0.mk (blk_below (g := gb298) (o := .cells #[.bool a1_0, .string a1_1, .int .i64 a1_2] 23 (0, 0)) (by (with_reducible repeat (first | refine blk_drewN ?_ _ | refine blk_drew ?_ | refine blk_alloc ?_ _)); exact BK298.out) hb); have n2_ := Aside0.mk (below_step (by repeat (first | (with_reducible first | exact HB.out | apply below_alloc | apply pw_below_drewN | apply below_drew1 | refine below_set ?_ GE297.out | refine below_set ?_ GE298.out) | exact HB.out)) hb); clear BK297; clear BK298; clear HB; have BK297 := n0_; have BK298 := n1_; have HB := n2_; clear n0_ n1_ n2_; (try clear hb); (try clear hb2); (try clear hk); (try clear hi)))
        go_ret
        exact ⟨by first | rfl | (simp [errW_none, errW_some] <;> rfl) | (simp [*, errW_none, errW_some] <;> rfl), by repeat (first | (with_reducible first | exact HB.out | apply below_alloc | apply pw_below_drewN | apply below_drew1 | refine below_set ?_ GE297.out | refine below_set ?_ GE298.out) | exact HB.out)⟩
      · replace c19 := Bool.eq_false_iff.mpr c19
        subst c19
        have H1 : ((figureheadlaw05_answers.f kj4).bind fun t304 => (if t304 = true then ((dec_Digit.f a0_0 a0_1 (wrap64 (a0_2 + (wrap64 (a2)))) (wrap64 ((wrap64 (a3)) + (wrap64 (a2))))).bind fun t305 => ((dec_Digit.f a0_0 a0_1 a0_2 (wrap64 (a3))).bind fun t306 => (if t305 = t306 then ((dec_Zero.f a0_0 a0_1 a0_2).bind fun t307 => (if t307 = true then ((dec_Cmp.f kj4 a0_0 a0_1 (wrap64 (a0_2 + (wrap64 (a2)))) a1_0 a1_1 (wrap64 (a1_2 + (wrap64 (a2))))).bind fun t308 => ((dec_Cmp.f kj4 a0_0 a0_1 a0_2 a1_0 a1_1 a1_2).bind fun t309 => (some (t308 == t309)))) else ((dec_Top.f a0_0 a0_1 (wrap64 (a0_2 + (wrap64 (a2))))).bind fun t310 => ((dec_Top.f a0_0 a0_1 a0_2).bind fun t311 => (if t310 = (wrap64 (t311 + (wrap64 (a2)))) then ((dec_Cmp.f kj4 a0_0 a0_1 (wrap64 (a0_2 + (wrap64 (a2)))) a1_0 a1_1 (wrap64 (a1_2 + (wrap64 (a2))))).bind fun t312 => ((dec_Cmp.f kj4 a0_0 a0_1 a0_2 a1_0 a1_1 a1_2).bind fun t313 => (some (t312 == t313)))) else (some false)))))) else (some false)))) else (some false))) = some r := by rw [if_neg (show ¬ (false = true) by decide)] at H; exact H
        clear H
        have H := H1
        clear H1
        replace H := Option.bind_eq_some_iff.mp H
        obtain ⟨t304, A220, H⟩ := H
        replace H : (if t304 = true then ((dec_Digit.f a0_0 a0_1 (wrap64 (a0_2 + (wrap64 (a2)))) (wrap64 ((wrap64 (a3)) + (wrap64 (a2))))).bind fun t305 => ((dec_Digit.f a0_0 a0_1 a0_2 (wrap64 (a3))).bind fun t306 => (if t305 = t306 then ((dec_Zero.f a0_0 a0_1 a0_2).bind fun t307 => (if t307 = true then ((dec_Cmp.f kj4 a0_0 a0_1 (wrap64 (a0_2 + (wrap64 (a2)))) a1_0 a1_1 (wrap64 (a1_2 + (wrap64 (a2))))).bind fun t308 => ((dec_Cmp.f kj4 a0_0 a0_1 a0_2 a1_0 a1_1 a1_2).bind fun t309 => (some (t308 == t309)))) else ((dec_Top.f a0_0 a0_1 (wrap64 (a0_2 + (wrap64 (a2))))).bind fun t310 => ((dec_Top.f a0_0 a0_1 a0_2).bind fun t311 => (if t310 = (wrap64 (t311 + (wrap64 (a2)))) then ((dec_Cmp.f kj4 a0_0 a0_1 (wrap64 (a0_2 + (wrap64 (a2)))) a1_0 a1_1 (wrap64 (a1_2 + (wrap64 (a2))))).bind fun t312 => ((dec_Cmp.f kj4 a0_0 a0_1 a0_2 a1_0 a1_1 a1_2).bind fun t313 => (some (t312 == t313)))) else (some false)))))) else (some false)))) else (some false)) = some r := H
        have A22 := Aside0.mk A220
        clear A220
        by_cases c23 : t304 = true
        · subst c23
          have H1 : ((dec_Digit.f a0_0 a0_1 (wrap64 (a0_2 + (wrap64 (a2)))) (wrap64 ((wrap64 (a3)) + (wrap64 (a2))))).bind fun t305 => ((dec_Digit.f a0_0 a0_1 a0_2 (wrap64 (a3))).bind fun t306 => (if t305 = t306 then ((dec_Zero.f a0_0 a0_1 a0_2).bind fun t307 => (if t307 = true then ((dec_Cmp.f kj4 a0_0 a0_1 (wrap64 (a0_2 + (wrap64 (a2)))) a1_0 a1_1 (wrap64 (a1_2 + (wrap64 (a2))))).bind fun t308 => ((dec_Cmp.f kj4 a0_0 a0_1 a0_2 a1_0 a1_1 a1_2).bind fun t309 => (some (t308 == t309)))) else ((dec_Top.f a0_0 a0_1 (wrap64 (a0_2 + (wrap64 (a2))))).bind fun t310 => ((dec_Top.f a0_0 a0_1 a0_2).bind fun t311 => (if t310 = (wrap64 (t311 + (wrap64 (a2)))) then ((dec_Cmp.f kj4 a0_0 a0_1 (wrap64 (a0_2 + (wrap64 (a2)))) a1_0 a1_1 (wrap64 (a1_2 + (wrap64 (a2))))).bind fun t312 => ((dec_Cmp.f kj4 a0_0 a0_1 a0_2 a1_0 a1_1 a1_2).bind fun t313 => (some (t312 == t313)))) else (some false)))))) else (some false)))) = some r := by rw [if_pos rfl] at H; exact H
          clear H
          have H := H1
          clear H1
          replace H := Option.bind_eq_some_iff.mp H
          obtain ⟨t305, A240, H⟩ := H
          replace H : ((dec_Digit.f a0_0 a0_1 a0_2 (wrap64 (a3))).bind fun t306 => (if t305 = t306 then ((dec_Zero.f a0_0 a0_1 a0_2).bind fun t307 => (if t307 = true then ((dec_Cmp.f kj4 a0_0 a0_1 (wrap64 (a0_2 + (wrap64 (a2)))) a1_0 a1_1 (wrap64 (a1_2 + (wrap64 (a2))))).bind fun t308 => ((dec_Cmp.f kj4 a0_0 a0_1 a0_2 a1_0 a1_1 a1_2).bind fun t309 => (some (t308 == t309)))) else ((dec_Top.f a0_0 a0_1 (wrap64 (a0_2 + (wrap64 (a2))))).bind fun t310 => ((dec_Top.f a0_0 a0_1 a0_2).bind fun t311 => (if t310 = (wrap64 (t311 + (wrap64 (a2)))) then ((dec_Cmp.f kj4 a0_0 a0_1 (wrap64 (a0_2 + (wrap64 (a2)))) a1_0 a1_1 (wrap64 (a1_2 + (wrap64 (a2))))).bind fun t312 => ((dec_Cmp.f kj4 a0_0 a0_1 a0_2 a1_0 a1_1 a1_2).bind fun t313 => (some (t312 == t313)))) else (some false)))))) else (some false))) = some r := H
          have A24 := Aside0.mk A240
          clear A240
          replace H := Option.bind_eq_some_iff.mp H
          obtain ⟨t306, A250, H⟩ := H
          replace H : (if t305 = t306 then ((dec_Zero.f a0_0 a0_1 a0_2).bind fun t307 => (if t307 = true then ((dec_Cmp.f kj4 a0_0 a0_1 (wrap64 (a0_2 + (wrap64 (a2)))) a1_0 a1_1 (wrap64 (a1_2 + (wrap64 (a2))))).bind fun t308 => ((dec_Cmp.f kj4 a0_0 a0_1 a0_2 a1_0 a1_1 a1_2).bind fun t309 => (some (t308 == t309)))) else ((dec_Top.f a0_0 a0_1 (wrap64 (a0_2 + (wrap64 (a2))))).bind fun t310 => ((dec_Top.f a0_0 a0_1 a0_2).bind fun t311 => (if t310 = (wrap64 (t311 + (wrap64 (a2)))) then ((dec_Cmp.f kj4 a0_0 a0_1 (wrap64 (a0_2 + (wrap64 (a2)))) a1_0 a1_1 (wrap64 (a1_2 + (wrap64 (a2))))).bind fun t312 => ((dec_Cmp.f kj4 a0_0 a0_1 a0_2 a1_0 a1_1 a1_2).bind fun t313 => (some (t312 == t313)))) else (some false)))))) else (some false)) = some r := H
          have A25 := Aside0.mk A250
          clear A250
          by_cases c26 : t305 = t306
          · rw [if_pos c26] at H
            have c26b0 : (t305 == t306) = true := beq_iff_eq.mpr c26
            have c26b1 : (t305 != t306) = false := bne_eq_false_iff_eq.mpr c26
            clear c26
            replace H := Option.bind_eq_some_iff.mp H
            obtain ⟨t307, A270, H⟩ := H
            replace H : (if t307 = true then ((dec_Cmp.f kj4 a0_0 a0_1 (wrap64 (a0_2 + (wrap64 (a2)))) a1_0 a1_1 (wrap64 (a1_2 + (wrap64 (a2))))).bind fun t308 => ((dec_Cmp.f kj4 a0_0 a0_1 a0_2 a1_0 a1_1 a1_2).bind fun t309 => (some (t308 == t309)))) else ((dec_Top.f a0_0 a0_1 (wrap64 (a0_2 + (wrap64 (a2))))).bind fun t310 => ((dec_Top.f a0_0 a0_1 a0_2).bind fun t311 => (if t310 = (wrap64 (t311 + (wrap64 (a2)))) then ((dec_Cmp.f kj4 a0_0 a0_1 (wrap64 (a0_2 + (wrap64 (a2)))) a1_0 a1_1 (wrap64 (a1_2 + (wrap64 (a2))))).bind fun t312 => ((dec_Cmp.f kj4 a0_0 a0_1 a0_2 a1_0 a1_1 a1_2).bind fun t313 => (some (t312 == t313)))) else (some false))))) = some r := H
            have A27 := Aside0.mk A270
            clear A270
            by_cases c28 : t307 = true
            · subst c28
              have H1 : ((dec_Cmp.f kj4 a0_0 a0_1 (wrap64 (a0_2 + (wrap64 (a2)))) a1_0 a1_1 (wrap64 (a1_2 + (wrap64 (a2))))).bind fun t308 => ((dec_Cmp.f kj4 a0_0 a0_1 a0_2 a1_0 a1_1 a1_2).bind fun t309 => (some (t308 == t309)))) = some r := by rw [if_pos rfl] at H; exact H
              clear H
              have H := H1
              clear H1
              replace H := Option.bind_eq_some_iff.mp H
              obtain ⟨t308, A290, H⟩ := H
              replace H : ((dec_Cmp.f kj4 a0_0 a0_1 a0_2 a1_0 a1_1 a1_2).bind fun t309 => (some (t308 == t309))) = some r := H
              have A29 := Aside0.mk A290
              clear A290
              replace H := Option.bind_eq_some_iff.mp H
              obtain ⟨t309, A300, H⟩ := H
              replace H : (some (t308 == t309)) = some r := H
              have A30 := Aside0.mk A300
              clear A300
              obtain rfl := Option.some.inj H
              try go_wp2
              (try (rw [drewN_self wc]; generalize hq_ : World.drewN wc _ = wc; have n0_ : Aside0 (wc.heap[gb297]? = some (.cells #[.bool a0_0, .string a0_1, .int .i64 a0_2] 23 (0, 0))) := ⟨by rw [← hq_]; exact (by (with_reducible repeat (first | refine blk_drewN ?_ _ | refine blk_drew ?_ | refine blk_alloc ?_ _)); exact BK297.out)⟩; have n1_ : Aside0 (wc.heap[gb298]? = some (.cells #[.bool a1_0, .string a1_1, .int .i64 a1_2] 23 (0, 0))) := ⟨by rw [← hq_]; exact (by (with_reducible repeat (first | refine blk_drewN ?_ _ | refine blk_drew ?_ | refine blk_alloc ?_ _)); exact BK298.out)⟩; have n2_ : Aside0 (Below w.heap.size w wc) := ⟨by rw [← hq_]; exact (by repeat (first | (with_reducible first | exact HB.out | apply below_alloc | apply pw_below_drewN | apply below_drew1 | refine below_set ?_ GE297.out | refine below_set ?_ GE298.out) | exact HB.out))⟩; clear BK297 BK298 HB hq_; have BK297 := n0_; have BK298 := n1_; have HB := n2_; clear n0_ n1_ n2_))
              have n0_ := Aside0.mk (blk_drew BK297.out)
              have n1_ := Aside0.mk (blk_drew BK298.out)
              have n2_ := Aside0.mk (below_drew1 HB.out)
              clear BK297
              clear BK298
              clear HB
              have BK297 := n0_
              have BK298 := n1_
              have HB := n2_
              clear n0_ n1_ n2_
              refine start_ (n := 6) (S := fun w' => w'.cell? ⟨gb297, 0, none⟩ = some (.bool a0_0) ∧ w'.cell? ⟨gb297, 1, none⟩ = some (.string a0_1) ∧ w'.cell? ⟨gb297, 2, none⟩ = some (.int .i64 a0_2) ∧ w'.cell? ⟨gb298, 0, none⟩ = some (.bool a1_0) ∧ w'.cell? ⟨gb298, 1, none⟩ = some (.string a1_1) ∧ w'.cell? ⟨gb298, 2, none⟩ = some (.int .i64 a1_2)) (ds := []) #[false, false, false, false, false, false] (by kernel_rfl) rfl rfl ⟨(blk_cell BK297.out 0).trans rfl, (blk_cell BK297.out 1).trans rfl, (blk_cell BK297.out 2).trans rfl, (blk_cell BK298.out 0).trans rfl, (blk_cell BK298.out 1).trans rfl, (blk_cell BK298.out 2).trans rfl⟩ (fun hHeld => ?_)
              generalize wc.drew = w31 at BK297 BK298 HB hHeld ⊢
              refine take_ (i := 0) (N := some 20) (v := ?_) (a' := ?_) #[true, false, false, false, false, false] rfl rfl (by kernel_rfl) (fun _ _ _ h => h) (Or.inl ⟨by rfl, ?_⟩) hHeld ?_ ?_
              rotate_left
              · rintro w' ⟨s0, s1, s2, s3, s4, s5⟩
                go_simp
                with_reducible rfl
              rotate_left
              · simp only [Act.put, List.setIfInBounds_toArray, List.set_cons_zero, List.set_cons_succ]; (try simp only [i64_w]); (try simp only [i32_w])
                rfl
              refine take_ (i := 1) (N := some 21) (v := ?_) (a' := ?_) #[true, true, false, false, false, false] rfl rfl (by kernel_rfl) (fun _ _ _ h => h) (Or.inl ⟨by rfl, ?_⟩) hHeld ?_ ?_
              rotate_left
              · rintro w' ⟨s0, s1, s2, s3, s4, s5⟩
                go_simp
                with_reducible rfl
              rotate_left
              · simp only [Act.put, List.setIfInBounds_toArray, List.set_cons_zero, List.set_cons_succ]; (try simp only [i64_w]); (try simp only [i32_w])
                rfl
              refine join_ (σ := Nat × Nat) 2 #[true, true, true, true, false, false] (fun s_ => [(9, .pointer (some ⟨s_.1, 0, none⟩)), (10, .pointer (some ⟨s_.2, 0, none⟩))]) (fun s_ w' => (w'.cell? ⟨gb297, 0, none⟩ = some (.bool a0_0) ∧ w'.cell? ⟨gb297, 1, none⟩ = some (.string a0_1) ∧ w'.cell? ⟨gb297, 2, none⟩ = some (.int .i64 a0_2) ∧ w'.cell? ⟨gb298, 0, none⟩ = some (.bool a1_0) ∧ w'.cell? ⟨gb298, 1, none⟩ = some (.string a1_1) ∧ w'.cell? ⟨gb298, 2, none⟩ = some (.int .i64 a1_2)) ∧ (w'.heap[gb297]? = some (.cells #[.bool a0_0, .string a0_1, .int .i64 a0_2] 23 (0, 0))) ∧ (w'.heap[gb298]? = some (.cells #[.bool a1_0, .string a1_1, .int .i64 a1_2] 23 (0, 0))) ∧ (w'.heap[s_.1]? = some (.cells #[.bool false, .string (⟨#[]⟩ : ByteArray), .int .i64 0] 23 (0, 0))) ∧ (w'.heap[s_.2]? = some (.cells #[.bool false, .string (⟨#[]⟩ : ByteArray), .int .i64 0] 23 (0, 0))) ∧ (w.heap.size ≤ s_.1) ∧ (w.heap.size ≤ s_.1) ∧ (gb297 ≠ s_.1) ∧ (s_.1 ≠ gb297) ∧ (gb298 ≠ s_.1) ∧ (s_.1 ≠ gb298) ∧ (s_.2 ≠ s_.1) ∧ (s_.1 ≠ s_.2) ∧ (w.heap.size ≤ s_.2) ∧ (w.heap.size ≤ s_.2) ∧ (gb297 ≠ s_.2) ∧ (s_.2 ≠ gb297) ∧ (gb298 ≠ s_.2) ∧ (s_.2 ≠ gb298) ∧ (Below w.heap.size w w')) ?_ ?_
              rotate_left
              · intro hCont
                refine two_ (i := 2) (j := 3) (Ni := some 9) (Nj := some 10) #[true, true, true, false, false, false] #[true, true, false, true, false, false] rfl rfl rfl rfl (by kernel_rfl) (by decide) (by decide) (fun K hK => ?_) (fun K hK => ?_)
                · skip
                  refine box_step ?hg (N := 9) ?hd (cs := #[.bool false, .string (⟨#[]⟩ : ByteArray), .int .i64 0]) (t := 23) ?hr ?_; (case hd => rfl); (case hg => rfl); (case hr => first | (go_simp; done) | (go_simp; rfl))
                  intro gb302 hg w32 hbox hb
                  have n0_ := Aside0.mk (blk_below (g := gb297) (o := .cells #[.bool a0_0, .string a0_1, .int .i64 a0_2] 23 (0, 0)) (by (with_reducible repeat (first | refine blk_drewN ?_ _ | refine blk_drew ?_ | refine blk_alloc ?_ _)); exact BK297.out) hb)
                  have n1_ := Aside0.mk (blk_below (g := gb298) (o := .cells #[.bool a1_0, .string a1_1, .int .i64 a1_2] 23 (0, 0)) (by (with_reducible repeat (first | refine blk_drewN ?_ _ | refine blk_drew ?_ | refine blk_alloc ?_ _)); exact BK298.out) hb)
                  have n2_ := Aside0.mk (below_step (by repeat (first | (with_reducible first | exact HB.out | apply below_alloc | apply pw_below_drewN | apply below_drew1 | refine below_set ?_ GE297.out | refine below_set ?_ GE298.out) | exact HB.out)) hb)
                  have n3_ := Aside0.mk (hbox)
                  have n4_ := Aside0.mk ((by rw [hg]; exact (below_size (by repeat (first | (with_reducible first | exact HB.out | apply below_alloc | apply pw_below_drewN | apply below_drew1 | refine below_set ?_ GE297.out | refine below_set ?_ GE298.out) | exact HB.out))) : w.heap.size ≤ gb302))
                  have n5_ := Aside0.mk ((by rw [hg]; exact (below_size (by repeat (first | (with_reducible first | exact HB.out | apply below_alloc | apply pw_below_drewN | apply below_drew1 | refine below_set ?_ GE297.out | refine below_set ?_ GE298.out) | exact HB.out))) : w.heap.size ≤ gb302))
                  have n6_ := Aside0.mk ((by rw [hg]; exact Nat.ne_of_lt (blk_lt (g := gb297) (o := .cells #[.bool a0_0, .string a0_1, .int .i64 a0_2] 23 (0, 0)) (by (with_reducible repeat (first | refine blk_drewN ?_ _ | refine blk_drew ?_ | refine blk_alloc ?_ _)); exact BK297.out)) : gb297 ≠ gb302))
                  have n7_ := Aside0.mk ((by rw [hg]; exact Nat.ne_of_gt (blk_lt (g := gb297) (o := .cells #[.bool a0_0, .string a0_1, .int .i64 a0_2] 23 (0, 0)) (by (with_reducible repeat (first | refine blk_drewN ?_ _ | refine blk_drew ?_ | refine blk_alloc ?_ _)); exact BK297.out)) : gb302 ≠ gb297))
                  have n8_ := Aside0.mk ((by rw [hg]; exact Nat.ne_of_lt (blk_lt (g := gb298) (o := .cells #[.bool a1_0, .string a1_1, .int .i64 a1_2] 23 (0, 0)) (by (with_reducible repeat (first | refine blk_drewN ?_ _ | refine blk_drew ?_ | refine blk_alloc ?_ _)); exact BK298.out)) : gb298 ≠ gb302))
                  have n9_ := Aside0.mk ((by rw [hg]; exact Nat.ne_of_gt (blk_lt (g := gb298) (o := .cells #[.bool a1_0, .string a1_1, .int .i64 a1_2] 23 (0, 0)) (by (with_reducible repeat (first | refine blk_drewN ?_ _ | refine blk_drew ?_ | refine blk_alloc ?_ _)); exact BK298.out)) : gb302 ≠ gb298))
                  clear BK297
                  clear BK298
                  clear HB
                  have BK297 := n0_
                  have BK298 := n1_
                  have HB := n2_
                  have BK302 := n3_
                  have GW302 := n4_
                  have GE302 := n5_
                  have NB297_302 := n6_
                  have NB302_297 := n7_
                  have NB298_302 := n8_
                  have NB302_298 := n9_
                  clear n0_ n1_ n2_ n3_ n4_ n5_ n6_ n7_ n8_ n9_
                  clear hb hbox hg
                  refine hK.out _ _ ⟨(blk_cell BK297.out 0).trans rfl, (blk_cell BK297.out 1).trans rfl, (blk_cell BK297.out 2).trans rfl, (blk_cell BK298.out 0).trans rfl, (blk_cell BK298.out 1).trans rfl, (blk_cell BK298.out 2).trans rfl⟩ (fun hHeld => ?_)
                  clear hK K
                  refine norm_ (a' := ?_) ?_ ?_
                  rotate_left
                  · show Act.put _ (some 9) _ = _
                    simp only [Act.put, List.setIfInBounds_toArray, List.set_cons_zero, List.set_cons_succ]; (try simp only [i64_w]); (try simp only [i32_w])
                    rfl
                  refine one_ (i := 3) (N := some 10) #[true, true, true, true, false, false] rfl rfl (by kernel_rfl) (by decide) (fun K hK => ?_)
                  refine box_step ?hg (N := 10) ?hd (cs := #[.bool false, .string (⟨#[]⟩ : ByteArray), .int .i64 0]) (t := 23) ?hr ?_; (case hd => rfl); (case hg => rfl); (case hr => first | (go_simp; done) | (go_simp; rfl))
                  intro gb303 hg w33 hbox hb
                  have n0_ := Aside0.mk (blk_below (g := gb297) (o := .cells #[.bool a0_0, .string a0_1, .int .i64 a0_2] 23 (0, 0)) (by (with_reducible repeat (first | refine blk_drewN ?_ _ | refine blk_drew ?_ | refine blk_alloc ?_ _)); exact BK297.out) hb)
                  have n1_ := Aside0.mk (blk_below (g := gb298) (o := .cells #[.bool a1_0, .string a1_1, .int .i64 a1_2] 23 (0, 0)) (by (with_reducible repeat (first | refine blk_drewN ?_ _ | refine blk_drew ?_ | refine blk_alloc ?_ _)); exact BK298.out) hb)
                  have n2_ := Aside0.mk (blk_below (g := gb302) (o := .cells #[.bool false, .string (⟨#[]⟩ : ByteArray), .int .i64 0] 23 (0, 0)) (by (with_reducible repeat (first | refine blk_drewN ?_ _ | refine blk_drew ?_ | refine blk_alloc ?_ _)); exact BK302.out) hb)
                  have n3_ := Aside0.mk (below_step (by repeat (first | (with_reducible first | exact HB.out | apply below_alloc | apply pw_below_drewN | apply below_drew1 | refine below_set ?_ GE297.out | refine below_set ?_ GE298.out | refine below_set ?_ GE302.out) | exact HB.out)) hb)
                  have n4_ := Aside0.mk (hbox)
                  have n5_ := Aside0.mk ((by rw [hg]; exact (below_size (by repeat (first | (with_reducible first | exact HB.out | apply below_alloc | apply pw_below_drewN | apply below_drew1 | refine below_set ?_ GE297.out | refine below_set ?_ GE298.out | refine below_set ?_ GE302.out) | exact HB.out))) : w.heap.size ≤ gb303))
                  have n6_ := Aside0.mk ((by rw [hg]; exact (below_size (by repeat (first | (with_reducible first | exact HB.out | apply below_alloc | apply pw_below_drewN | apply below_drew1 | refine below_set ?_ GE297.out | refine below_set ?_ GE298.out | refine below_set ?_ GE302.out) | exact HB.out))) : w.heap.size ≤ gb303))
                  have n7_ := Aside0.mk ((by rw [hg]; exact Nat.ne_of_lt (blk_lt (g := gb297) (o := .cells #[.bool a0_0, .string a0_1, .int .i64 a0_2] 23 (0, 0)) (by (with_reducible repeat (first | refine blk_drewN ?_ _ | refine blk_drew ?_ | refine blk_alloc ?_ _)); exact BK297.out)) : gb297 ≠ gb303))
                  have n8_ := Aside0.mk ((by rw [hg]; exact Nat.ne_of_gt (blk_lt (g := gb297) (o := .cells #[.bool a0_0, .string a0_1, .int .i64 a0_2] 23 (0, 0)) (by (with_reducible repeat (first | refine blk_drewN ?_ _ | refine blk_drew ?_ | refine blk_alloc ?_ _)); exact BK297.out)) : gb303 ≠ gb297))
                  have n9_ := Aside0.mk ((by rw [hg]; exact Nat.ne_of_lt (blk_lt (g := gb298) (o := .cells #[.bool a1_0, .string a1_1, .int .i64 a1_2] 23 (0, 0)) (by (with_reducible repeat (first | refine blk_drewN ?_ _ | refine blk_drew ?_ | refine blk_alloc ?_ _)); exact BK298.out)) : gb298 ≠ gb303))
                  have n10_ := Aside0.mk ((by rw [hg]; exact Nat.ne_of_gt (blk_lt (g := gb298) (o := .cells #[.bool a1_0, .string a1_1, .int .i64 a1_2] 23 (0, 0)) (by (with_reducible repeat (first | refine blk_drewN ?_ _ | refine blk_drew ?_ | refine blk_alloc ?_ _)); exact BK298.out)) : gb303 ≠ gb298))
                  have n11_ := Aside0.mk ((by rw [hg]; exact Nat.ne_of_lt (blk_lt (g := gb302) (o := .cells #[.bool false, .string (⟨#[]⟩ : ByteArray), .int .i64 0] 23 (0, 0)) (by (with_reducible repeat (first | refine blk_drewN ?_ _ | refine blk_drew ?_ | refine blk_alloc ?_ _)); exact BK302.out)) : gb302 ≠ gb303))
                  have n12_ := Aside0.mk ((by rw [hg]; exact Nat.ne_of_gt (blk_lt (g := gb302) (o := .cells #[.bool false, .string (⟨#[]⟩ : ByteArray), .int .i64 0] 23 (0, 0)) (by (with_reducible repeat (first | refine blk_drewN ?_ _ | refine blk_drew ?_ | refine blk_alloc ?_ _)); exact BK302.out)) : gb303 ≠ gb302))
                  clear BK297
                  clear BK298
                  clear BK302
                  clear HB
                  have BK297 := n0_
                  have BK298 := n1_
                  have BK302 := n2_
                  have HB := n3_
                  have BK303 := n4_
                  have GW303 := n5_
                  have GE303 := n6_
                  have NB297_303 := n7_
                  have NB303_297 := n8_
                  have NB298_303 := n9_
                  have NB303_298 := n10_
                  have NB302_303 := n11_
                  have NB303_302 := n12_
                  clear n0_ n1_ n2_ n3_ n4_ n5_ n6_ n7_ n8_ n9_ n10_ n11_ n12_
                  clear hb hbox hg
                  refine hK.out _ _ ⟨(blk_cell BK297.out 0).trans rfl, (blk_cell BK297.out 1).trans rfl, (blk_cell BK297.out 2).trans rfl, (blk_cell BK298.out 0).trans rfl, (blk_cell BK298.out 1).trans rfl, (blk_cell BK298.out 2).trans rfl⟩ (fun hHeld => ?_)
                  clear hK K
                  refine norm_ (a' := ?_) ?_ ?_
                  rotate_left
                  · show Act.put _ (some 10) _ = _
                    simp only [Act.put, List.setIfInBounds_toArray, List.set_cons_zero, List.set_cons_succ]; (try simp only [i64_w]); (try simp only [i32_w])
                    rfl
                  exact norm_ (by simp only [putAll, Act.put, List.setIfInBounds_toArray, List.set_cons_zero, List.set_cons_succ]) (hCont (gb302, gb303) _ ⟨hHeld, (by (with_reducible repeat (first | refine blk_drewN ?_ _ | refine blk_drew ?_ | refine blk_alloc ?_ _)); exact BK297.out), (by (with_reducible repeat (first | refine blk_drewN ?_ _ | refine blk_drew ?_ | refine blk_alloc ?_ _)); exact BK298.out), (by (with_reducible repeat (first | refine blk_drewN ?_ _ | refine blk_drew ?_ | refine blk_alloc ?_ _)); exact BK302.out), (by (with_reducible repeat (first | refine blk_drewN ?_ _ | refine blk_drew ?_ | refine blk_alloc ?_ _)); exact BK303.out), GW302.out, GE302.out, NB297_302.out, NB302_297.out, NB298_302.out, NB302_298.out, NB303_302.out, NB302_303.out, GW303.out, GE303.out, NB297_303.out, NB303_297.out, NB298_303.out, NB303_298.out, (by repeat (first | (with_reducible first | exact HB.out | apply below_alloc | apply pw_below_drewN | apply below_drew1 | refine below_set ?_ GE297.out | refine below_set ?_ GE298.out | refine below_set ?_ GE302.out | refine below_set ?_ GE303.out) | exact HB.out))⟩)
                · skip
                  refine box_step ?hg (N := 10) ?hd (cs := #[.bool false, .string (⟨#[]⟩ : ByteArray), .int .i64 0]) (t := 23) ?hr ?_; (case hd => rfl); (case hg => rfl); (case hr => first | (go_simp; done) | (go_simp; rfl))
                  intro gb303 hg w32 hbox hb
                  have n0_ := Aside0.mk (blk_below (g := gb297) (o := .cells #[.bool a0_0, .string a0_1, .int .i64 a0_2] 23 (0, 0)) (by (with_reducible repeat (first | refine blk_drewN ?_ _ | refine blk_drew ?_ | refine blk_alloc ?_ _)); exact BK297.out) hb)
                  have n1_ := Aside0.mk (blk_below (g := gb298) (o := .cells #[.bool a1_0, .string a1_1, .int .i64 a1_2] 23 (0, 0)) (by (with_reducible repeat (first | refine blk_drewN ?_ _ | refine blk_drew ?_ | refine blk_alloc ?_ _)); exact BK298.out) hb)
                  have n2_ := Aside0.mk (below_step (by repeat (first | (with_reducible first | exact HB.out | apply below_alloc | apply pw_below_drewN | apply below_drew1 | refine below_set ?_ GE297.out | refine below_set ?_ GE298.out) | exact HB.out)) hb)
                  have n3_ := Aside0.mk (hbox)
                  have n4_ := Aside0.mk ((by rw [hg]; exact (below_size (by repeat (first | (with_reducible first | exact HB.out | apply below_alloc | apply pw_below_drewN | apply below_drew1 | refine below_set ?_ GE297.out | refine below_set ?_ GE298.out) | exact HB.out))) : w.heap.size ≤ gb303))
                  have n5_ := Aside0.mk ((by rw [hg]; exact (below_size (by repeat (first | (with_reducible first | exact HB.out | apply below_alloc | apply pw_below_drewN | apply below_drew1 | refine below_set ?_ GE297.out | refine below_set ?_ GE298.out) | exact HB.out))) : w.heap.size ≤ gb303))
                  have n6_ := Aside0.mk ((by rw [hg]; exact Nat.ne_of_lt (blk_lt (g := gb297) (o := .cells #[.bool a0_0, .string a0_1, .int .i64 a0_2] 23 (0, 0)) (by (with_reducible repeat (first | refine blk_drewN ?_ _ | refine blk_drew ?_ | refine blk_alloc ?_ _)); exact BK297.out)) : gb297 ≠ gb303))
                  have n7_ := Aside0.mk ((by rw [hg]; exact Nat.ne_of_gt (blk_lt (g := gb297) (o := .cells #[.bool a0_0, .string a0_1, .int .i64 a0_2] 23 (0, 0)) (by (with_reducible repeat (first | refine blk_drewN ?_ _ | refine blk_drew ?_ | refine blk_alloc ?_ _)); exact BK297.out)) : gb303 ≠ gb297))
                  have n8_ := Aside0.mk ((by rw [hg]; exact Nat.ne_of_lt (blk_lt (g := gb298) (o := .cells #[.bool a1_0, .string a1_1, .int .i64 a1_2] 23 (0, 0)) (by (with_reducible repeat (first | refine blk_drewN ?_ _ | refine blk_drew ?_ | refine blk_alloc ?_ _)); exact BK298.out)) : gb298 ≠ gb303))
                  have n9_ := Aside0.mk ((by rw [hg]; exact Nat.ne_of_gt (blk_lt (g := gb298) (o := .cells #[.bool a1_0, .string a1_1, .int .i64 a1_2] 23 (0, 0)) (by (with_reducible repeat (first | refine blk_drewN ?_ _ | refine blk_drew ?_ | refine blk_alloc ?_ _)); exact BK298.out)) : gb303 ≠ gb298))
                  clear BK297
                  clear BK298
                  clear HB
                  have BK297 := n0_
                  have BK298 := n1_
                  have HB := n2_
                  have BK303 := n3_
                  have GW303 := n4_
                  have GE303 := n5_
                  have NB297_303 := n6_
                  have NB303_297 := n7_
                  have NB298_303 := n8_
                  have NB303_298 := n9_
                  clear n0_ n1_ n2_ n3_ n4_ n5_ n6_ n7_ n8_ n9_
                  clear hb hbox hg
                  refine hK.out _ _ ⟨(blk_cell BK297.out 0).trans rfl, (blk_cell BK297.out 1).trans rfl, (blk_cell BK297.out 2).trans rfl, (blk_cell BK298.out 0).trans rfl, (blk_cell BK298.out 1).trans rfl, (blk_cell BK298.out 2).trans rfl⟩ (fun hHeld => ?_)
                  clear hK K
                  refine norm_ (a' := ?_) ?_ ?_
                  rotate_left
                  · show Act.put _ (some 10) _ = _
                    simp only [Act.put, List.setIfInBounds_toArray, List.set_cons_zero, List.set_cons_succ]; (try simp only [i64_w]); (try simp only [i32_w])
                    rfl
                  refine one_ (i := 2) (N := some 9) #[true, true, true, true, false, false] rfl rfl (by kernel_rfl) (by decide) (fun K hK => ?_)
                  refine box_step ?hg (N := 9) ?hd (cs := #[.bool false, .string (⟨#[]⟩ : ByteArray), .int .i64 0]) (t := 23) ?hr ?_; (case hd => rfl); (case hg => rfl); (case hr => first | (go_simp; done) | (go_simp; rfl))
                  intro gb302 hg w33 hbox hb
                  have n0_ := Aside0.mk (blk_below (g := gb297) (o := .cells #[.bool a0_0, .string a0_1, .int .i64 a0_2] 23 (0, 0)) (by (with_reducible repeat (first | refine blk_drewN ?_ _ | refine blk_drew ?_ | refine blk_alloc ?_ _)); exact BK297.out) hb)
                  have n1_ := Aside0.mk (blk_below (g := gb298) (o := .cells #[.bool a1_0, .string a1_1, .int .i64 a1_2] 23 (0, 0)) (by (with_reducible repeat (first | refine blk_drewN ?_ _ | refine blk_drew ?_ | refine blk_alloc ?_ _)); exact BK298.out) hb)
                  have n2_ := Aside0.mk (blk_below (g := gb303) (o := .cells #[.bool false, .string (⟨#[]⟩ : ByteArray), .int .i64 0] 23 (0, 0)) (by (with_reducible repeat (first | refine blk_drewN ?_ _ | refine blk_drew ?_ | refine blk_alloc ?_ _)); exact BK303.out) hb)
                  have n3_ := Aside0.mk (below_step (by repeat (first | (with_reducible first | exact HB.out | apply below_alloc | apply pw_below_drewN | apply below_drew1 | refine below_set ?_ GE297.out | refine below_set ?_ GE298.out | refine below_set ?_ GE303.out) | exact HB.out)) hb)
                  have n4_ := Aside0.mk (hbox)
                  have n5_ := Aside0.mk ((by rw [hg]; exact (below_size (by repeat (first | (with_reducible first | exact HB.out | apply below_alloc | apply pw_below_drewN | apply below_drew1 | refine below_set ?_ GE297.out | refine below_set ?_ GE298.out | refine below_set ?_ GE303.out) | exact HB.out))) : w.heap.size ≤ gb302))
                  have n6_ := Aside0.mk ((by rw [hg]; exact (below_size (by repeat (first | (with_reducible first | exact HB.out | apply below_alloc | apply pw_below_drewN | apply below_drew1 | refine below_set ?_ GE297.out | refine below_set ?_ GE298.out | refine below_set ?_ GE303.out) | exact HB.out))) : w.heap.size ≤ gb302))
                  have n7_ := Aside0.mk ((by rw [hg]; exact Nat.ne_of_lt (blk_lt (g := gb297) (o := .cells #[.bool a0_0, .string a0_1, .int .i64 a0_2] 23 (0, 0)) (by (with_reducible repeat (first | refine blk_drewN ?_ _ | refine blk_drew ?_ | refine blk_alloc ?_ _)); exact BK297.out)) : gb297 ≠ gb302))
                  have n8_ := Aside0.mk ((by rw [hg]; exact Nat.ne_of_gt (blk_lt (g := gb297) (o := .cells #[.bool a0_0, .string a0_1, .int .i64 a0_2] 23 (0, 0)) (by (with_reducible repeat (first | refine blk_drewN ?_ _ | refine blk_drew ?_ | refine blk_alloc ?_ _)); exact BK297.out)) : gb302 ≠ gb297))
                  have n9_ := Aside0.mk ((by rw [hg]; exact Nat.ne_of_lt (blk_lt (g := gb298) (o := .cells #[.bool a1_0, .string a1_1, .int .i64 a1_2] 23 (0, 0)) (by (with_reducible repeat (first | refine blk_drewN ?_ _ | refine blk_drew ?_ | refine blk_alloc ?_ _)); exact BK298.out)) : gb298 ≠ gb302))
                  have n10_ := Aside0.mk ((by rw [hg]; exact Nat.ne_of_gt (blk_lt (g := gb298) (o := .cells #[.bool a1_0, .string a1_1, .int .i64 a1_2] 23 (0, 0)) (by (with_reducible repeat (first | refine blk_drewN ?_ _ | refine blk_drew ?_ | refine blk_alloc ?_ _)); exact BK298.out)) : gb302 ≠ gb298))
                  have n11_ := Aside0.mk ((by rw [hg]; exact Nat.ne_of_lt (blk_lt (g := gb303) (o := .cells #[.bool false, .string (⟨#[]⟩ : ByteArray), .int .i64 0] 23 (0, 0)) (by (with_reducible repeat (first | refine blk_drewN ?_ _ | refine blk_drew ?_ | refine blk_alloc ?_ _)); exact BK303.out)) : gb303 ≠ gb302))
                  have n12_ := Aside0.mk ((by rw [hg]; exact Nat.ne_of_gt (blk_lt (g := gb303) (o := .cells #[.bool false, .string (⟨#[]⟩ : ByteArray), .int .i64 0] 23 (0, 0)) (by (with_reducible repeat (first | refine blk_drewN ?_ _ | refine blk_drew ?_ | refine blk_alloc ?_ _)); exact BK303.out)) : gb302 ≠ gb303))
                  clear BK297
                  clear BK298
                  clear BK303
                  clear HB
                  have BK297 := n0_
                  have BK298 := n1_
                  have BK303 := n2_
                  have HB := n3_
                  have BK302 := n4_
                  have GW302 := n5_
                  have GE302 := n6_
                  have NB297_302 := n7_
                  have NB302_297 := n8_
                  have NB298_302 := n9_
                  have NB302_298 := n10_
                  have NB303_302 := n11_
                  have NB302_303 := n12_
                  clear n0_ n1_ n2_ n3_ n4_ n5_ n6_ n7_ n8_ n9_ n10_ n11_ n12_
                  clear hb hbox hg
                  refine hK.out _ _ ⟨(blk_cell BK297.out 0).trans rfl, (blk_cell BK297.out 1).trans rfl, (blk_cell BK297.out 2).trans rfl, (blk_cell BK298.out 0).trans rfl, (blk_cell BK298.out 1).trans rfl, (blk_cell BK298.out 2).trans rfl⟩ (fun hHeld => ?_)
                  clear hK K
                  refine norm_ (a' := ?_) ?_ ?_
                  rotate_left
                  · show Act.put _ (some 9) _ = _
                    simp only [Act.put, List.setIfInBounds_toArray, List.set_cons_zero, List.set_cons_succ]; (try simp only [i64_w]); (try simp only [i32_w])
                    rfl
                  exact norm_ (by simp only [putAll, Act.put, List.setIfInBounds_toArray, List.set_cons_zero, List.set_cons_succ]) (hCont (gb302, gb303) _ ⟨hHeld, (by (with_reducible repeat (first | refine blk_drewN ?_ _ | refine blk_drew ?_ | refine blk_alloc ?_ _)); exact BK297.out), (by (with_reducible repeat (first | refine blk_drewN ?_ _ | refine blk_drew ?_ | refine blk_alloc ?_ _)); exact BK298.out), (by (with_reducible repeat (first | refine blk_drewN ?_ _ | refine blk_drew ?_ | refine blk_alloc ?_ _)); exact BK302.out), (by (with_reducible repeat (first | refine blk_drewN ?_ _ | refine blk_drew ?_ | refine blk_alloc ?_ _)); exact BK303.out), GW302.out, GE302.out, NB297_302.out, NB302_297.out, NB298_302.out, NB302_298.out, NB303_302.out, NB302_303.out, GW303.out, GE303.out, NB297_303.out, NB303_297.out, NB298_303.out, NB303_298.out, (by repeat (first | (with_reducible first | exact HB.out | apply below_alloc | apply pw_below_drewN | apply below_drew1 | refine below_set ?_ GE297.out | refine below_set ?_ GE298.out | refine below_set ?_ GE303.out | refine below_set ?_ GE302.out) | exact HB.out))⟩)
              rintro ⟨gb302, gb303⟩ w34 ⟨hS_, h0_, h1_, h2_, h3_, h4_, h5_, h6_, h7_, h8_, h9_, h10_, h11_, h12_, h13_, h14_, h15_, h16_, h17_, h18_⟩
              have n0_ : Aside0 (w34.heap[gb297]? = some (.cells #[.bool a0_0, .string a0_1, .int .i64 a0_2] 23 (0, 0))) := ⟨h0_⟩
              have n1_ : Aside0 (w34.heap[gb298]? = some (.cells #[.bool a1_0, .string a1_1, .int .i64 a1_2] 23 (0, 0))) := ⟨h1_⟩
              have n2_ : Aside0 (w34.heap[gb302]? = some (.cells #[.bool false, .string (⟨#[]⟩ : ByteArray), .int .i64 0] 23 (0, 0))) := ⟨h2_⟩
              have n3_ : Aside0 (w34.heap[gb303]? = some (.cells #[.bool false, .string (⟨#[]⟩ : ByteArray), .int .i64 0] 23 (0, 0))) := ⟨h3_⟩
              have n4_ : Aside0 (w.heap.size ≤ gb302) := ⟨h4_⟩
              have n5_ : Aside0 (w.heap.size ≤ gb302) := ⟨h5_⟩
              have n6_ : Aside0 (gb297 ≠ gb302) := ⟨h6_⟩
              have n7_ : Aside0 (gb302 ≠ gb297) := ⟨h7_⟩
              have n8_ : Aside0 (gb298 ≠ gb302) := ⟨h8_⟩
              have n9_ : Aside0 (gb302 ≠ gb298) := ⟨h9_⟩
              have n10_ : Aside0 (gb303 ≠ gb302) := ⟨h10_⟩
              have n11_ : Aside0 (gb302 ≠ gb303) := ⟨h11_⟩
              have n12_ : Aside0 (w.heap.size ≤ gb303) := ⟨h12_⟩
              have n13_ : Aside0 (w.heap.size ≤ gb303) := ⟨h13_⟩
              have n14_ : Aside0 (gb297 ≠ gb303) := ⟨h14_⟩
              have n15_ : Aside0 (gb303 ≠ gb297) := ⟨h15_⟩
              have n16_ : Aside0 (gb298 ≠ gb303) := ⟨h16_⟩
              have n17_ : Aside0 (gb303 ≠ gb298) := ⟨h17_⟩
              have n18_ : Aside0 (Below w.heap.size w w34) := ⟨h18_⟩
              clear BK297
              clear BK298
              clear HB
              clear h0_ h1_ h2_ h3_ h4_ h5_ h6_ h7_ h8_ h9_ h10_ h11_ h12_ h13_ h14_ h15_ h16_ h17_ h18_
              have BK297 := n0_
              have BK298 := n1_
              have BK302 := n2_
              have BK303 := n3_
              have GW302 := n4_
              have GE302 := n5_
              have NB297_302 := n6_
              have NB302_297 := n7_
              have NB298_302 := n8_
              have NB302_298 := n9_
              have NB303_302 := n10_
              have NB302_303 := n11_
              have GW303 := n12_
              have GE303 := n13_
              have NB297_303 := n14_
              have NB303_297 := n15_
              have NB298_303 := n16_
              have NB303_298 := n17_
              have HB := n18_
              clear n0_ n1_ n2_ n3_ n4_ n5_ n6_ n7_ n8_ n9_ n10_ n11_ n12_ n13_ n14_ n15_ n16_ n17_ n18_
              have hHeld : w34.cell? ⟨gb297, 0, none⟩ = some (.bool a0_0) ∧ w34.cell? ⟨gb297, 1, none⟩ = some (.string a0_1) ∧ w34.cell? ⟨gb297, 2, none⟩ = some (.int .i64 a0_2) ∧ w34.cell? ⟨gb298, 0, none⟩ = some (.bool a1_0) ∧ w34.cell? ⟨gb298, 1, none⟩ = some (.string a1_1) ∧ w34.cell? ⟨gb298, 2, none⟩ = some (.int .i64 a1_2) := hS_
              refine norm_ (a' := ?_) ?_ ?_
              rotate_left
              · simp only [putAll, Act.put, List.setIfInBounds_toArray, List.set_cons_zero, List.set_cons_succ]
                rfl
              refine one_ (i := 4) (N := none) #[true, true, true, true, true, false] rfl rfl (by kernel_rfl) (by decide) (fun K hK => ?_)
              have hs35 : w34.cell? ⟨gb302, 0, none⟩ = some (.bool false) := (blk_cell BK302.out 0).trans rfl
              have hfs35 := blk_frozen BK302.out 0
              have hns35_0 := NB297_302.out
              have hns35_1 := NB298_302.out
              have hns35_3 := NB303_302.out
              have hms35_0 := NB302_297.out
              have hms35_1 := NB302_298.out
              have hms35_3 := NB302_303.out
              have hs36 : w34.cell? ⟨gb302, 1, none⟩ = some (.string (⟨#[]⟩ : ByteArray)) := (blk_cell BK302.out 1).trans rfl
              have hfs36 := blk_frozen BK302.out 1
              have hns36_0 := NB297_302.out
              have hns36_1 := NB298_302.out
              have hns36_3 := NB303_302.out
              have hms36_0 := NB302_297.out
              have hms36_1 := NB302_298.out
              have hms36_3 := NB302_303.out
              have hs37 : w34.cell? ⟨gb302, 2, none⟩ = some (.int .i64 0) := (blk_cell BK302.out 2).trans rfl
              have hfs37 := blk_frozen BK302.out 2
              have hns37_0 := NB297_302.out
              have hns37_1 := NB298_302.out
              have hns37_3 := NB303_302.out
              have hms37_0 := NB302_297.out
              have hms37_1 := NB302_298.out
              have hms37_3 := NB302_303.out
              refine skip_ (w1 := ?_) (by rfl) rfl ?_ ?_
              rotate_left
              · go_simp
                rfl
              refine hK.out _ _ ⟨((cell_far (p := ⟨gb302, _, none⟩) NB297_302.out _).trans (((cell_far (p := ⟨gb302, _, none⟩) NB297_302.out _).trans (((cell_far (p := ⟨gb302, _, none⟩) NB297_302.out _).trans (hHeld.1)))))), ((cell_far (p := ⟨gb302, _, none⟩) NB297_302.out _).trans (((cell_far (p := ⟨gb302, _, none⟩) NB297_302.out _).trans (((cell_far (p := ⟨gb302, _, none⟩) NB297_302.out _).trans (hHeld.2.1)))))), ((cell_far (p := ⟨gb302, _, none⟩) NB297_302.out _).trans (((cell_far (p := ⟨gb302, _, none⟩) NB297_302.out _).trans (((cell_far (p := ⟨gb302, _, none⟩) NB297_302.out _).trans (hHeld.2.2.1)))))), ((cell_far (p := ⟨gb302, _, none⟩) NB298_302.out _).trans (((cell_far (p := ⟨gb302, _, none⟩) NB298_302.out _).trans (((cell_far (p := ⟨gb302, _, none⟩) NB298_302.out _).trans (hHeld.2.2.2.1)))))), ((cell_far (p := ⟨gb302, _, none⟩) NB298_302.out _).trans (((cell_far (p := ⟨gb302, _, none⟩) NB298_302.out _).trans (((cell_far (p := ⟨gb302, _, none⟩) NB298_302.out _).trans (hHeld.2.2.2.2.1)))))), ((cell_far (p := ⟨gb302, _, none⟩) NB298_302.out _).trans (((cell_far (p := ⟨gb302, _, none⟩) NB298_302.out _).trans (((cell_far (p := ⟨gb302, _, none⟩) NB298_302.out _).trans (hHeld.2.2.2.2.2))))))⟩ (fun hHeld => ?_)
              clear hK K
              refine one_ (i := 5) (N := none) #[true, true, true, true, true, true] rfl rfl (by kernel_rfl) (by decide) (fun K hK => ?_)
              have hs38 : w34.cell? ⟨gb303, 0, none⟩ = some (.bool false) := (blk_cell BK303.out 0).trans rfl
              have hfs38 := blk_frozen BK303.out 0
              have hns38_0 := NB297_303.out
              have hns38_1 := NB298_303.out
              have hns38_2 := NB302_303.out
              have hms38_0 := NB303_297.out
              have hms38_1 := NB303_298.out
              have hms38_2 := NB303_302.out
              have hs39 : w34.cell? ⟨gb303, 1, none⟩ = some (.string (⟨#[]⟩ : ByteArray)) := (blk_cell BK303.out 1).trans rfl
              have hfs39 := blk_frozen BK303.out 1
              have hns39_0 := NB297_303.out
              have hns39_1 := NB298_303.out
              have hns39_2 := NB302_303.out
              have hms39_0 := NB303_297.out
              have hms39_1 := NB303_298.out
              have hms39_2 := NB303_302.out
              have hs40 : w34.cell? ⟨gb303, 2, none⟩ = some (.int .i64 0) := (blk_cell BK303.out 2).trans rfl
              have hfs40 := blk_frozen BK303.out 2
              have hns40_0 := NB297_303.out
              have hns40_1 := NB298_303.out
              have hns40_2 := NB302_303.out
              have hms40_0 := NB303_297.out
              have hms40_1 := NB303_298.out
              have hms40_2 := NB303_302.out
              refine skip_ (w1 := ?_) (by rfl) rfl ?_ ?_
              rotate_left
              · go_simp
                rfl
              refine hK.out _ _ ⟨((cell_far (p := ⟨gb303, _, none⟩) NB297_303.out _).trans (((cell_far (p := ⟨gb303, _, none⟩) NB297_303.out _).trans (((cell_far (p := ⟨gb303, _, none⟩) NB297_303.out _).trans (hHeld.1)))))), ((cell_far (p := ⟨gb303, _, none⟩) NB297_303.out _).trans (((cell_far (p := ⟨gb303, _, none⟩) NB297_303.out _).trans (((cell_far (p := ⟨gb303, _, none⟩) NB297_303.out _).trans (hHeld.2.1)))))), ((cell_far (p := ⟨gb303, _, none⟩) NB297_303.out _).trans (((cell_far (p := ⟨gb303, _, none⟩) NB297_303.out _).trans (((cell_far (p := ⟨gb303, _, none⟩) NB297_303.out _).trans (hHeld.2.2.1)))))), ((cell_far (p := ⟨gb303, _, none⟩) NB298_303.out _).trans (((cell_far (p := ⟨gb303, _, none⟩) NB298_303.out _).trans (((cell_far (p := ⟨gb303, _, none⟩) NB298_303.out _).trans (hHeld.2.2.2.1)))))), ((cell_far (p := ⟨gb303, _, none⟩) NB298_303.out _).trans (((cell_far (p := ⟨gb303, _, none⟩) NB298_303.out _).trans (((cell_far (p := ⟨gb303, _, none⟩) NB298_303.out _).trans (hHeld.2.2.2.2.1)))))), ((cell_far (p := ⟨gb303, _, none⟩) NB298_303.out _).trans (((cell_far (p := ⟨gb303, _, none⟩) NB298_303.out _).trans (((cell_far (p := ⟨gb303, _, none⟩) NB298_303.out _).trans (hHeld.2.2.2.2.2))))))⟩ (fun hHeld => ?_)
              clear hK K
              refine done_ (by kernel_rfl) ?_
              have hnb41 := NB302_297.out
              have hnc41 := NB297_302.out
              have hnb42 := NB302_298.out
              have hnc42 := NB298_302.out
              have hnb43 := NB302_303.out
              have hnc43 := NB303_302.out
              have hcz44_0 : w34.cell? ⟨gb302, 0, none⟩ = some (.bool false) := (blk_cell BK302.out 0).trans rfl
              have hcz44_1 : w34.cell? ⟨gb302, 1, none⟩ = some (.string (⟨#[]⟩ : ByteArray)) := (blk_cell BK302.out 1).trans rfl
              have hcz44_2 : w34.cell? ⟨gb302, 2, none⟩ = some (.int .i64 0) := (blk_cell BK302.out 2).trans rfl
              have hfz44_0 := blk_frozen BK302.out 0
              have hfz44_1 := blk_frozen BK302.out 1
              have hfz44_2 := blk_frozen BK302.out 2
              have hnb45 := NB303_297.out
              have hnc45 := NB297_303.out
              have hnb46 := NB303_298.out
              have hnc46 := NB298_303.out
              have hcz47_0 : w34.cell? ⟨gb303, 0, none⟩ = some (.bool false) := (blk_cell BK303.out 0).trans rfl
              have hcz47_1 : w34.cell? ⟨gb303, 1, none⟩ = some (.string (⟨#[]⟩ : ByteArray)) := (blk_cell BK303.out 1).trans rfl
              have hcz47_2 : w34.cell? ⟨gb303, 2, none⟩ = some (.int .i64 0) := (blk_cell BK303.out 2).trans rfl
              have hfz47_0 := blk_frozen BK303.out 0
              have hfz47_1 := blk_frozen BK303.out 1
              have hfz47_2 := blk_frozen BK303.out 2
              try go_wp2
              go_region
              try go_wp2
              have n0_ : Aside0 ((((((((((w34.setCell ⟨gb302, 0, none⟩ (.bool a0_0)).setCell ⟨gb302, 1, none⟩ (.string a0_1)).setCell ⟨gb302, 2, none⟩ (.int .i64 a0_2)).setCell ⟨gb303, 0, none⟩ (.bool a1_0)).setCell ⟨gb303, 1, none⟩ (.string a1_1)).setCell ⟨gb303, 2, none⟩ (.int .i64 a1_2)).setCell ⟨gb302, 2, none⟩ (.int .i64 (wrap64 (a0_2 + (wrap64 (a2)))))).setCell ⟨gb303, 2, none⟩ (.int .i64 (wrap64 (a1_2 + (wrap64 (a2))))))).drew.heap[gb297]? = some (.cells #[.bool a0_0, .string a0_1, .int .i64 a0_2] 23 (0, 0))) := ⟨by (with_reducible repeat (first | refine blk_drewN ?_ _ | refine blk_drew ?_ | refine blk_alloc ?_ _)); refine blk_far ?_ NB297_303.out _; (with_reducible repeat (first | refine blk_drewN ?_ _ | refine blk_drew ?_ | refine blk_alloc ?_ _)); refine blk_far ?_ NB297_302.out _; (with_reducible repeat (first | refine blk_drewN ?_ _ | refine blk_drew ?_ | refine blk_alloc ?_ _)); refine blk_far ?_ NB297_303.out _; (with_reducible repeat (first | refine blk_drewN ?_ _ | refine blk_drew ?_ | refine blk_alloc ?_ _)); refine blk_far ?_ NB297_303.out _; (with_reducible repeat (first | refine blk_drewN ?_ _ | refine blk_drew ?_ | refine blk_alloc ?_ _)); refine blk_far ?_ NB297_303.out _; (with_reducible repeat (first | refine blk_drewN ?_ _ | refine blk_drew ?_ | refine blk_alloc ?_ _)); refine blk_far ?_ NB297_302.out _; (with_reducible repeat (first | refine blk_drewN ?_ _ | refine blk_drew ?_ | refine blk_alloc ?_ _)); refine blk_far ?_ NB297_302.out _; (with_reducible repeat (first | refine blk_drewN ?_ _ | refine blk_drew ?_ | refine blk_alloc ?_ _)); refine blk_far ?_ NB297_302.out _; (with_reducible repeat (first | refine blk_drewN ?_ _ | refine blk_drew ?_ | refine blk_alloc ?_ _)); exact BK297.out⟩
              have n1_ : Aside0 ((((((((((w34.setCell ⟨gb302, 0, none⟩ (.bool a0_0)).setCell ⟨gb302, 1, none⟩ (.string a0_1)).setCell ⟨gb302, 2, none⟩ (.int .i64 a0_2)).setCell ⟨gb303, 0, none⟩ (.bool a1_0)).setCell ⟨gb303, 1, none⟩ (.string a1_1)).setCell ⟨gb303, 2, none⟩ (.int .i64 a1_2)).setCell ⟨gb302, 2, none⟩ (.int .i64 (wrap64 (a0_2 + (wrap64 (a2)))))).setCell ⟨gb303, 2, none⟩ (.int .i64 (wrap64 (a1_2 + (wrap64 (a2))))))).drew.heap[gb298]? = some (.cells #[.bool a1_0, .string a1_1, .int .i64 a1_2] 23 (0, 0))) := ⟨by (with_reducible repeat (first | refine blk_drewN ?_ _ | refine blk_drew ?_ | refine blk_alloc ?_ _)); refine blk_far ?_ NB298_303.out _; (with_reducible repeat (first | refine blk_drewN ?_ _ | refine blk_drew ?_ | refine blk_alloc ?_ _)); refine blk_far ?_ NB298_302.out _; (with_reducible repeat (first | refine blk_drewN ?_ _ | refine blk_drew ?_ | refine blk_alloc ?_ _)); refine blk_far ?_ NB298_303.out _; (with_reducible repeat (first | refine blk_drewN ?_ _ | refine blk_drew ?_ | refine blk_alloc ?_ _)); refine blk_far ?_ NB298_303.out _; (with_reducible repeat (first | refine blk_drewN ?_ _ | refine blk_drew ?_ | refine blk_alloc ?_ _)); refine blk_far ?_ NB298_303.out _; (with_reducible repeat (first | refine blk_drewN ?_ _ | refine blk_drew ?_ | refine blk_alloc ?_ _)); refine blk_far ?_ NB298_302.out _; (with_reducible repeat (first | refine blk_drewN ?_ _ | refine blk_drew ?_ | refine blk_alloc ?_ _)); refine blk_far ?_ NB298_302.out _; (with_reducible repeat (first | refine blk_drewN ?_ _ | refine blk_drew ?_ | refine blk_alloc ?_ _)); refine blk_far ?_ NB298_302.out _; (with_reducible repeat (first | refine blk_drewN ?_ _ | refine blk_drew ?_ | refine blk_alloc ?_ _)); exact BK298.out⟩
              have n2_ : Aside0 ((((((((((w34.setCell ⟨gb302, 0, none⟩ (.bool a0_0)).setCell ⟨gb302, 1, none⟩ (.string a0_1)).setCell ⟨gb302, 2, none⟩ (.int .i64 a0_2)).setCell ⟨gb303, 0, none⟩ (.bool a1_0)).setCell ⟨gb303, 1, none⟩ (.string a1_1)).setCell ⟨gb303, 2, none⟩ (.int .i64 a1_2)).setCell ⟨gb302, 2, none⟩ (.int .i64 (wrap64 (a0_2 + (wrap64 (a2)))))).setCell ⟨gb303, 2, none⟩ (.int .i64 (wrap64 (a1_2 + (wrap64 (a2))))))).drew.heap[gb302]? = some (.cells #[.bool a0_0, .string a0_1, .int .i64 (wrap64 (a0_2 + (wrap64 (a2))))] 23 (0, 0))) := ⟨by (with_reducible repeat (first | refine blk_drewN ?_ _ | refine blk_drew ?_ | refine blk_alloc ?_ _)); refine blk_far ?_ NB302_303.out _; (with_reducible repeat (first | refine blk_drewN ?_ _ | refine blk_drew ?_ | refine blk_alloc ?_ _)); refine blk_put (cs := #[.bool a0_0, .string a0_1, .int .i64 a0_2]) ?_ 2 _ rfl; (with_reducible repeat (first | refine blk_drewN ?_ _ | refine blk_drew ?_ | refine blk_alloc ?_ _)); refine blk_far ?_ NB302_303.out _; (with_reducible repeat (first | refine blk_drewN ?_ _ | refine blk_drew ?_ | refine blk_alloc ?_ _)); refine blk_far ?_ NB302_303.out _; (with_reducible repeat (first | refine blk_drewN ?_ _ | refine blk_drew ?_ | refine blk_alloc ?_ _)); refine blk_far ?_ NB302_303.out _; (with_reducible repeat (first | refine blk_drewN ?_ _ | refine blk_drew ?_ | refine blk_alloc ?_ _)); refine blk_put (cs := #[.bool a0_0, .string a0_1, .int .i64 0]) ?_ 2 _ rfl; (with_reducible repeat (first | refine blk_drewN ?_ _ | refine blk_drew ?_ | refine blk_alloc ?_ _)); refine blk_put (cs := #[.bool a0_0, .string (⟨#[]⟩ : ByteArray), .int .i64 0]) ?_ 1 _ rfl; (with_reducible repeat (first | refine blk_drewN ?_ _ | refine blk_drew ?_ | refine blk_alloc ?_ _)); refine blk_put (cs := #[.bool false, .string (⟨#[]⟩ : ByteArray), .int .i64 0]) ?_ 0 _ rfl; (with_reducible repeat (first | refine blk_drewN ?_ _ | refine blk_drew ?_ | refine blk_alloc ?_ _)); exact BK302.out⟩
              have n3_ : Aside0 ((((((((((w34.setCell ⟨gb302, 0, none⟩ (.bool a0_0)).setCell ⟨gb302, 1, none⟩ (.string a0_1)).setCell ⟨gb302, 2, none⟩ (.int .i64 a0_2)).setCell ⟨gb303, 0, none⟩ (.bool a1_0)).setCell ⟨gb303, 1, none⟩ (.string a1_1)).setCell ⟨gb303, 2, none⟩ (.int .i64 a1_2)).setCell ⟨gb302, 2, none⟩ (.int .i64 (wrap64 (a0_2 + (wrap64 (a2)))))).setCell ⟨gb303, 2, none⟩ (.int .i64 (wrap64 (a1_2 + (wrap64 (a2))))))).drew.heap[gb303]? = some (.cells #[.bool a1_0, .string a1_1, .int .i64 (wrap64 (a1_2 + (wrap64 (a2))))] 23 (0, 0))) := ⟨by (with_reducible repeat (first | refine blk_drewN ?_ _ | refine blk_drew ?_ | refine blk_alloc ?_ _)); refine blk_put (cs := #[.bool a1_0, .string a1_1, .int .i64 a1_2]) ?_ 2 _ rfl; (with_reducible repeat (first | refine blk_drewN ?_ _ | refine blk_drew ?_ | refine blk_alloc ?_ _)); refine blk_far ?_ NB303_302.out _; (with_reducible repeat (first | refine blk_drewN ?_ _ | refine blk_drew ?_ | refine blk_alloc ?_ _)); refine blk_put (cs := #[.bool a1_0, .string a1_1, .int .i64 0]) ?_ 2 _ rfl; (with_reducible repeat (first | refine blk_drewN ?_ _ | refine blk_drew ?_ | refine blk_alloc ?_ _)); refine blk_put (cs := #[.bool a1_0, .string (⟨#[]⟩ : ByteArray), .int .i64 0]) ?_ 1 _ rfl; (with_reducible repeat (first | refine blk_drewN ?_ _ | refine blk_drew ?_ | refine blk_alloc ?_ _)); refine blk_put (cs := #[.bool false, .string (⟨#[]⟩ : ByteArray), .int .i64 0]) ?_ 0 _ rfl; (with_reducible repeat (first | refine blk_drewN ?_ _ | refine blk_drew ?_ | refine blk_alloc ?_ _)); refine blk_far ?_ NB303_302.out _; (with_reducible repeat (first | refine blk_drewN ?_ _ | refine blk_drew ?_ | refine blk_alloc ?_ _)); refine blk_far ?_ NB303_302.out _; (with_reducible repeat (first | refine blk_drewN ?_ _ | refine blk_drew ?_ | refine blk_alloc ?_ _)); refine blk_far ?_ NB303_302.out _; (with_reducible repeat (first | refine blk_drewN ?_ _ | refine blk_drew ?_ | refine blk_alloc ?_ _)); exact BK303.out⟩
              have n4_ : Aside0 (Below w.heap.size w (((((((((w34.setCell ⟨gb302, 0, none⟩ (.bool a0_0)).setCell ⟨gb302, 1, none⟩ (.string a0_1)).setCell ⟨gb302, 2, none⟩ (.int .i64 a0_2)).setCell ⟨gb303, 0, none⟩ (.bool a1_0)).setCell ⟨gb303, 1, none⟩ (.string a1_1)).setCell ⟨gb303, 2, none⟩ (.int .i64 a1_2)).setCell ⟨gb302, 2, none⟩ (.int .i64 (wrap64 (a0_2 + (wrap64 (a2)))))).setCell ⟨gb303, 2, none⟩ (.int .i64 (wrap64 (a1_2 + (wrap64 (a2))))))).drew) := ⟨by repeat (first | (with_reducible first | exact HB.out | apply below_alloc | apply pw_below_drewN | apply below_drew1 | refine below_set ?_ GE297.out | refine below_set ?_ GE298.out | refine below_set ?_ GE302.out | refine below_set ?_ GE303.out) | exact HB.out)⟩
              (try clear BK297)
              (try clear BK298)
              (try clear BK302)
              (try clear BK303)
              (try clear HB)
              generalize (((((((((w34.setCell ⟨gb302, 0, none⟩ (.bool a0_0)).setCell ⟨gb302, 1, none⟩ (.string a0_1)).setCell ⟨gb302, 2, none⟩ (.int .i64 a0_2)).setCell ⟨gb303, 0, none⟩ (.bool a1_0)).setCell ⟨gb303, 1, none⟩ (.string a1_1)).setCell ⟨gb303, 2, none⟩ (.int .i64 a1_2)).setCell ⟨gb302, 2, none⟩ (.int .i64 (wrap64 (a0_2 + (wrap64 (a2)))))).setCell ⟨gb303, 2, none⟩ (.int .i64 (wrap64 (a1_2 + (wrap64 (a2))))))).drew = w48 at n0_ n1_ n2_ n3_ n4_ ⊢
              have BK297 := n0_
              have BK298 := n1_
              have BK302 := n2_
              have BK303 := n3_
              have HB := n4_
              clear n0_ n1_ n2_ n3_ n4_
              (try (rw [drewN_self w48]; generalize hq_ : World.drewN w48 _ = w48; have n0_ : Aside0 (w48.heap[gb297]? = some (.cells #[.bool a0_0, .string a0_1, .int .i64 a0_2] 23 (0, 0))) := ⟨by rw [← hq_]; exact (by (with_reducible repeat (first | refine blk_drewN ?_ _ | refine blk_drew ?_ | refine blk_alloc ?_ _)); exact BK297.out)⟩; have n1_ : Aside0 (w48.heap[gb298]? = some (.cells #[.bool a1_0, .string a1_1, .int .i64 a1_2] 23 (0, 0))) := ⟨by rw [← hq_]; exact (by (with_reducible repeat (first | refine blk_drewN ?_ _ | refine blk_drew ?_ | refine blk_alloc ?_ _)); exact BK298.out)⟩; have n2_ : Aside0 (w48.heap[gb302]? = some (.cells #[.bool a0_0, .string a0_1, .int .i64 (wrap64 (a0_2 + (wrap64 (a2))))] 23 (0, 0))) := ⟨by rw [← hq_]; exact (by (with_reducible repeat (first | refine blk_drewN ?_ _ | refine blk_drew ?_ | refine blk_alloc ?_ _)); exact BK302.out)⟩; have n3_ : Aside0 (w48.heap[gb303]? = some (.cells #[.bool a1_0, .string a1_1, .int .i64 (wrap64 (a1_2 + (wrap64 (a2))))] 23 (0, 0))) := ⟨by rw [← hq_]; exact (by (with_reducible repeat (first | refine blk_drewN ?_ _ | refine blk_drew ?_ | refine blk_alloc ?_ _)); exact BK303.out)⟩; have n4_ : Aside0 (Below w.heap.size w w48) := ⟨by rw [← hq_]; exact (by repeat (first | (with_reducible first | exact HB.out | apply below_alloc | apply pw_below_drewN | apply below_drew1 | refine below_set ?_ GE297.out | refine below_set ?_ GE298.out | refine below_set ?_ GE302.out | refine below_set ?_ GE303.out) | exact HB.out))⟩; clear BK297 BK298 BK302 BK303 HB hq_; have BK297 := n0_; have BK298 := n1_; have BK302 := n2_; have BK303 := n3_; have HB := n4_; clear n0_ n1_ n2_ n3_ n4_))
              have n0_ := Aside0.mk (blk_drew BK297.out)
              have n1_ := Aside0.mk (blk_drew BK298.out)
              have n2_ := Aside0.mk (blk_drew BK302.out)
              have n3_ := Aside0.mk (blk_drew BK303.out)
              have n4_ := Aside0.mk (below_drew1 HB.out)
              clear BK297
              clear BK298
              clear BK302
              clear BK303
              clear HB
              have BK297 := n0_
              have BK298 := n1_
              have BK302 := n2_
              have BK303 := n3_
              have HB := n4_
              clear n0_ n1_ n2_ n3_ n4_
              refine start_ (n := 39) (S := fun w' => w'.cell? ⟨gb302, 0, none⟩ = some (.bool a0_0) ∧ w'.cell? ⟨gb302, 1, none⟩ = some (.string a0_1) ∧ w'.cell? ⟨gb302, 2, none⟩ = some (.int .i64 (wrap64 (a0_2 + (wrap64 (a2))))) ∧ w'.cell? ⟨gb297, 0, none⟩ = some (.bool a0_0) ∧ w'.cell? ⟨gb297, 1, none⟩ = some (.string a0_1) ∧ w'.cell? ⟨gb297, 2, none⟩ = some (.int .i64 a0_2) ∧ w'.cell? ⟨gb303, 0, none⟩ = some (.bool a1_0) ∧ w'.cell? ⟨gb303, 1, none⟩ = some (.string a1_1) ∧ w'.cell? ⟨gb303, 2, none⟩ = some (.int .i64 (wrap64 (a1_2 + (wrap64 (a2))))) ∧ w'.cell? ⟨gb298, 0, none⟩ = some (.bool a1_0) ∧ w'.cell? ⟨gb298, 1, none⟩ = some (.string a1_1) ∧ w'.cell? ⟨gb298, 2, none⟩ = some (.int .i64 a1_2)) (ds := []) #[false, false, false, false, false, false, false, false, false, false, false, false, false, false, false, false, false, false, false, false, false, false, false, false, false, false, false, false, false, false, false, false, false, false, false, false, false, false, false] (by kernel_rfl) rfl rfl ⟨(blk_cell BK302.out 0).trans rfl, (blk_cell BK302.out 1).trans rfl, (blk_cell BK302.out 2).trans rfl, (blk_cell BK297.out 0).trans rfl, (blk_cell BK297.out 1).trans rfl, (blk_cell BK297.out 2).trans rfl, (blk_cell BK303.out 0).trans rfl, (blk_cell BK303.out 1).trans rfl, (blk_cell BK303.out 2).trans rfl, (blk_cell BK298.out 0).trans rfl, (blk_cell BK298.out 1).trans rfl, (blk_cell BK298.out 2).trans rfl⟩ (fun hHeld => ?_); refine with_tabW figureheadlaw05_DecPlaces.tab5 figureheadlaw05_DecPlaces.bits5 (fun HT_ HW_ => ?_)
              generalize w48.drew = w49 at BK297 BK298 BK302 BK303 HB hHeld ⊢
              refine one_ (i := 0) (N := some 34) #[true, false, false, false, false, false, false, false, false, false, false, false, false, false, false, false, false, false, false, false, false, false, false, false, false, false, false, false, false, false, false, false, false, false, false, false, false, false, false] rfl rfl (one_of HT_.out (by kernel_rfl)) (by decide) (fun K hK => ?_)
              refine goes_ Tryd.func16 (by kernel_rfl) rfl #[] (by rfl) rfl rfl (by (try simp only [List.map_toArray]); (try simp only [List.map_cons]); (try simp only [List.map_nil]); first | done | rfl | (simp only [List.length_drop, List.length_take]; rfl)) ?_
              with_reducible refine (figureheadlaw05_answers.calls kj4  true _ ?side1 ?side2 A22.out).mono ?_
              (case side1 => exact Fig.Glob.below HG.out (by repeat (first | (with_reducible first | exact HB.out | apply below_alloc | apply pw_below_drewN | apply below_drew1 | refine below_set ?_ GE297.out | refine below_set ?_ GE298.out | refine below_set ?_ GE302.out | refine below_set ?_ GE303.out) | exact HB.out)))
              (case side2 => exact ⟨by first | rfl | exact HT.out⟩)
              rintro e w50 ⟨rfl, hb⟩
              refine ⟨_, rfl, ?_⟩
              have n0_ := Aside0.mk (blk_below (g := gb297) (o := .cells #[.bool a0_0, .string a0_1, .int .i64 a0_2] 23 (0, 0)) (by (with_reducible repeat (first | refine blk_drewN ?_ _ | refine blk_drew ?_ | refine blk_alloc ?_ _)); exact BK297.out) hb)
              have n1_ := Aside0.mk (blk_below (g := gb298) (o := .cells #[.bool a1_0, .string a1_1, .int .i64 a1_2] 23 (0, 0)) (by (with_reducible repeat (first | refine blk_drewN ?_ _ | refine blk_drew ?_ | refine blk_alloc ?_ _)); exact BK298.out) hb)
              have n2_ := Aside0.mk (blk_below (g := gb302) (o := .cells #[.bool a0_0, .string a0_1, .int .i64 (wrap64 (a0_2 + (wrap64 (a2))))] 23 (0, 0)) (by (with_reducible repeat (first | refine blk_drewN ?_ _ | refine blk_drew ?_ | refine blk_alloc ?_ _)); exact BK302.out) hb)
              have n3_ := Aside0.mk (blk_below (g := gb303) (o := .cells #[.bool a1_0, .string a1_1, .int .i64 (wrap64 (a1_2 + (wrap64 (a2))))] 23 (0, 0)) (by (with_reducible repeat (first | refine blk_drewN ?_ _ | refine blk_drew ?_ | refine blk_alloc ?_ _)); exact BK303.out) hb)
              have n4_ := Aside0.mk (below_step (by repeat (first | (with_reducible first | exact HB.out | apply below_alloc | apply pw_below_drewN | apply below_drew1 | refine below_set ?_ GE297.out | refine below_set ?_ GE298.out | refine below_set ?_ GE302.out | refine below_set ?_ GE303.out) | exact HB.out)) hb)
              clear BK297
              clear BK298
              clear BK302
              clear BK303
              clear HB
              have BK297 := n0_
              have BK298 := n1_
              have BK302 := n2_
              have BK303 := n3_
              have HB := n4_
              clear n0_ n1_ n2_ n3_ n4_
              (try clear hb)
              (try clear hb2)
              (try clear hk)
              (try clear hi)
              refine hK.out _ _ ⟨(blk_cell BK302.out 0).trans rfl, (blk_cell BK302.out 1).trans rfl, (blk_cell BK302.out 2).trans rfl, (blk_cell BK297.out 0).trans rfl, (blk_cell BK297.out 1).trans rfl, (blk_cell BK297.out 2).trans rfl, (blk_cell BK303.out 0).trans rfl, (blk_cell BK303.out 1).trans rfl, (blk_cell BK303.out 2).trans rfl, (blk_cell BK298.out 0).trans rfl, (blk_cell BK298.out 1).trans rfl, (blk_cell BK298.out 2).trans rfl⟩ (fun hHeld => ?_)
              clear hK K
              refine norm_ (a' := ?_) ?_ ?_
              rotate_left
              · show Act.put _ (some 34) _ = _
                simp only [Act.put, List.setIfInBounds_toArray, List.set_cons_zero, List.set_cons_succ]; (try simp only [i64_w]); (try simp only [i32_w])
                rfl
              refine pure_ (i := 1) (N := some 35) (v := ?_) (a' := ?_) #[true, true, false, false, false, false, false, false, false, false, false, false, false, false, false, false, false, false, false, false, false, false, false, false, false, false, false, false, false, false, false, false, false, false, false, false, false, false, false] rfl rfl (any_of HT_.out (by kernel_rfl)) (fun _ _ _ h => h) (Or.inl ⟨by rfl, ?_⟩) ?_ ?_
              rotate_left
              · intro w'
                go_simp
                with_reducible rfl
              rotate_left
              · simp only [Act.put, List.setIfInBounds_toArray, List.set_cons_zero, List.set_cons_succ]; (try simp only [i64_w]); (try simp only [i32_w])
                rfl
              refine pure_ (i := 3) (N := some 37) (v := ?_) (a' := ?_) #[true, true, false, true, false, false, false, false, false, false, false, false, false, false, false, false, false, false, false, false, false, false, false, false, false, false, false, false, false, false, false, false, false, false, false, false, false, false, false] rfl rfl (any_of HT_.out (by kernel_rfl)) (fun _ _ _ h => h) (Or.inl ⟨by rfl, ?_⟩) ?_ ?_
              rotate_left
              · intro w'
                go_simp
                with_reducible rfl
              rotate_left
              · simp only [Act.put, List.setIfInBounds_toArray, List.set_cons_zero, List.set_cons_succ]; (try simp only [i64_w]); (try simp only [i32_w])
                rfl
              refine pure_ (i := 4) (N := some 38) (v := ?_) (a' := ?_) #[true, true, false, true, true, false, false, false, false, false, false, false, false, false, false, false, false, false, false, false, false, false, false, false, false, false, false, false, false, false, false, false, false, false, false, false, false, false, false] rfl rfl (any_of HT_.out (by kernel_rfl)) (fun _ _ _ h => h) (Or.inl ⟨by rfl, ?_⟩) ?_ ?_
              rotate_left
              · intro w'
                go_simp
                with_reducible rfl
              rotate_left
              · simp only [Act.put, List.setIfInBounds_toArray, List.set_cons_zero, List.set_cons_succ]; (try simp only [i64_w]); (try simp only [i32_w])
                rfl
              refine pure_ (i := 5) (N := some 39) (v := ?_) (a' := ?_) #[true, true, false, true, true, true, false, false, false, false, false, false, false, false, false, false, false, false, false, false, false, false, false, false, false, false, false, false, false, false, false, false, false, false, false, false, false, false, false] rfl rfl (any_of HT_.out (by kernel_rfl)) (fun _ _ _ h => h) (Or.inl ⟨by rfl, ?_⟩) ?_ ?_
              rotate_left
              · intro w'
                go_simp
                with_reducible rfl
              rotate_left
              · simp only [Act.put, List.setIfInBounds_toArray, List.set_cons_zero, List.set_cons_succ]; (try simp only [i64_w]); (try simp only [i32_w])
                rfl
              refine pure_ (i := 6) (N := some 40) (v := ?_) (a' := ?_) #[true, true, false, true, true, true, true, false, false, false, false, false, false, false, false, false, false, false, false, false, false, false, false, false, false, false, false, false, false, false, false, false, false, false, false, false, false, false, false] rfl rfl (any_of HT_.out (by kernel_rfl)) (fun _ _ _ h => h) (Or.inl ⟨by rfl, ?_⟩) ?_ ?_
              rotate_left
              · intro w'
                go_simp
                with_reducible rfl
              rotate_left
              · simp only [Act.put, List.setIfInBounds_toArray, List.set_cons_zero, List.set_cons_succ]; (try simp only [i64_w]); (try simp only [i32_w])
                rfl
              refine pure_ (i := 7) (N := some 41) (v := ?_) (a' := ?_) #[true, true, false, true, true, true, true, true, false, false, false, false, false, false, false, false, false, false, false, false, false, false, false, false, false, false, false, false, false, false, false, false, false, false, false, false, false, false, false] rfl rfl (any_of HT_.out (by kernel_rfl)) (fun _ _ _ h => h) (Or.inl ⟨by rfl, ?_⟩) ?_ ?_
              rotate_left
              · intro w'
                go_simp
                with_reducible rfl
              rotate_left
              · simp only [Act.put, List.setIfInBounds_toArray, List.set_cons_zero, List.set_cons_succ]; (try simp only [i64_w]); (try simp only [i32_w])
                rfl
              refine pure_ (i := 10) (N := some 44) (v := ?_) (a' := ?_) #[true, true, false, true, true, true, true, true, false, false, true, false, false, false, false, false, false, false, false, false, false, false, false, false, false, false, false, false, false, false, false, false, false, false, false, false, false, false, false] rfl rfl (any_of HT_.out (by kernel_rfl)) (fun _ _ _ h => h) (Or.inl ⟨by rfl, ?_⟩) ?_ ?_
              rotate_left
              · intro w'
                go_simp
                with_reducible rfl
              rotate_left
              · simp only [Act.put, List.setIfInBounds_toArray, List.set_cons_zero, List.set_cons_succ]; (try simp only [i64_w]); (try simp only [i32_w])
                rfl
              refine pure_ (i := 11) (N := some 45) (v := ?_) (a' := ?_) #[true, true, false, true, true, true, true, true, false, false, true, true, false, false, false, false, false, false, false, false, false, false, false, false, false, false, false, false, false, false, false, false, false, false, false, false, false, false, false] rfl rfl (any_of HT_.out (by kernel_rfl)) (fun _ _ _ h => h) (Or.inl ⟨by rfl, ?_⟩) ?_ ?_
              rotate_left
              · intro w'
                go_simp
                with_reducible rfl
              rotate_left
              · simp only [Act.put, List.setIfInBounds_toArray, List.set_cons_zero, List.set_cons_succ]; (try simp only [i64_w]); (try simp only [i32_w])
                rfl
              refine take_ (i := 2) (N := some 36) (v := ?_) (a' := ?_) #[true, true, true, true, true, true, true, true, false, false, true, true, false, false, false, false, false, false, false, false, false, false, false, false, false, false, false, false, false, false, false, false, false, false, false, false, false, false, false] rfl rfl (take_ofW HT_.out HW_.out (by kernel_rfl)) (fun _ _ _ h => h) (Or.inl ⟨by rfl, ?_⟩) hHeld ?_ ?_
              rotate_left
              · rintro w' ⟨s0, s1, s2, s3, s4, s5, s6, s7, s8, s9, s10, s11⟩
                go_simp
                with_reducible rfl
              rotate_left
              · simp only [Act.put, List.setIfInBounds_toArray, List.set_cons_zero, List.set_cons_succ]; (try simp only [i64_w]); (try simp only [i32_w])
                rfl
              refine take_ (i := 9) (N := some 43) (v := ?_) (a' := ?_) #[true, true, true, true, true, true, true, true, false, true, true, true, false, false, false, false, false, false, false, false, false, false, false, false, false, false, false, false, false, false, false, false, false, false, false, false, false, false, false] rfl rfl (take_ofW HT_.out HW_.out (by kernel_rfl)) (fun _ _ _ h => h) (Or.inl ⟨by rfl, ?_⟩) hHeld ?_ ?_
              rotate_left
              · rintro w' ⟨s0, s1, s2, s3, s4, s5, s6, s7, s8, s9, s10, s11⟩
                go_simp
                with_reducible rfl
              rotate_left
              · simp only [Act.put, List.setIfInBounds_toArray, List.set_cons_zero, List.set_cons_succ]; (try simp only [i64_w]); (try simp only [i32_w])
                rfl
              refine one_ (i := 8) (N := some 42) #[true, true, true, true, true, true, true, true, true, true, true, true, false, false, false, false, false, false, false, false, false, false, false, false, false, false, false, false, false, false, false, false, false, false, false, false, false, false, false] rfl rfl (one_of HT_.out (by kernel_rfl)) (by decide) (fun K hK => ?_)
              refine goes_ Tryd.func27 (by kernel_rfl) rfl #[.agg #[.bool a0_0, .string a0_1, .int .i64 (wrap64 (a0_2 + (wrap64 (a2))))], .int .i64 (wrap64 ((wrap64 (a3)) + (wrap64 (a2))))] (by rfl) rfl rfl (by (try simp only [List.map_toArray]); (try simp only [List.map_cons]); (try simp only [List.map_nil]); first | done | rfl | (simp only [List.length_drop, List.length_take]; rfl)) ?_
              with_reducible refine (dec_Digit.calls a0_0 a0_1 (wrap64 (a0_2 + (wrap64 (a2)))) (wrap64 ((wrap64 (a3)) + (wrap64 (a2)))) t305 _ A24.out).mono ?_
              rintro e w51 ⟨rfl, hb⟩
              refine ⟨_, rfl, ?_⟩
              have n0_ := Aside0.mk (blk_below (g := gb297) (o := .cells #[.bool a0_0, .string a0_1, .int .i64 a0_2] 23 (0, 0)) (by (with_reducible repeat (first | refine blk_drewN ?_ _ | refine blk_drew ?_ | refine blk_alloc ?_ _)); exact BK297.out) hb)
              have n1_ := Aside0.mk (blk_below (g := gb298) (o := .cells #[.bool a1_0, .string a1_1, .int .i64 a1_2] 23 (0, 0)) (by (with_reducible repeat (first | refine blk_drewN ?_ _ | refine blk_drew ?_ | refine blk_alloc ?_ _)); exact BK298.out) hb)
              have n2_ := Aside0.mk (blk_below (g := gb302) (o := .cells #[.bool a0_0, .string a0_1, .int .i64 (wrap64 (a0_2 + (wrap64 (a2))))] 23 (0, 0)) (by (with_reducible repeat (first | refine blk_drewN ?_ _ | refine blk_drew ?_ | refine blk_alloc ?_ _)); exact BK302.out) hb)
              have n3_ := Aside0.mk (blk_below (g := gb303) (o := .cells #[.bool a1_0, .string a1_1, .int .i64 (wrap64 (a1_2 + (wrap64 (a2))))] 23 (0, 0)) (by (with_reducible repeat (first | refine blk_drewN ?_ _ | refine blk_drew ?_ | refine blk_alloc ?_ _)); exact BK303.out) hb)
              have n4_ := Aside0.mk (below_step (by repeat (first | (with_reducible first | exact HB.out | apply below_alloc | apply pw_below_drewN | apply below_drew1 | refine below_set ?_ GE297.out | refine below_set ?_ GE298.out | refine below_set ?_ GE302.out | refine below_set ?_ GE303.out) | exact HB.out)) hb)
              clear BK297
              clear BK298
              clear BK302
              clear BK303
              clear HB
              have BK297 := n0_
              have BK298 := n1_
              have BK302 := n2_
              have BK303 := n3_
              have HB := n4_
              clear n0_ n1_ n2_ n3_ n4_
              (try clear hb)
              (try clear hb2)
              (try clear hk)
              (try clear hi)
              refine hK.out _ _ ⟨(blk_cell BK302.out 0).trans rfl, (blk_cell BK302.out 1).trans rfl, (blk_cell BK302.out 2).trans rfl, (blk_cell BK297.out 0).trans rfl, (blk_cell BK297.out 1).trans rfl, (blk_cell BK297.out 2).trans rfl, (blk_cell BK303.out 0).trans rfl, (blk_cell BK303.out 1).trans rfl, (blk_cell BK303.out 2).trans rfl, (blk_cell BK298.out 0).trans rfl, (blk_cell BK298.out 1).trans rfl, (blk_cell BK298.out 2).trans rfl⟩ (fun hHeld => ?_)
              clear hK K
              refine norm_ (a' := ?_) ?_ ?_
              rotate_left
              · show Act.put _ (some 42) _ = _
                simp only [Act.put, List.setIfInBounds_toArray, List.set_cons_zero, List.set_cons_succ]; (try simp only [i64_w]); (try simp only [i32_w])
                rfl
              refine one_ (i := 12) (N := some 46) #[true, true, true, true, true, true, true, true, true, true, true, true, true, false, false, false, false, false, false, false, false, false, false, false, false, false, false, false, false, false, false, false, false, false, false, false, false, false, false] rfl rfl (one_of HT_.out (by kernel_rfl)) (by decide) (fun K hK => ?_)
              refine goes_ Tryd.func27 (by kernel_rfl) rfl #[.agg #[.bool a0_0, .string a0_1, .int .i64 a0_2], .int .i64 (wrap64 (a3))] (by rfl) rfl rfl (by (try simp only [List.map_toArray]); (try simp only [List.map_cons]); (try simp only [List.map_nil]); first | done | rfl | (simp only [List.length_drop, List.length_take]; rfl)) ?_
              with_reducible refine (dec_Digit.calls a0_0 a0_1 a0_2 (wrap64 (a3)) t306 _ A25.out).mono ?_
              rintro e w52 ⟨rfl, hb⟩
              refine ⟨_, rfl, ?_⟩
              have n0_ := Aside0.mk (blk_below (g := gb297) (o := .cells #[.bool a0_0, .string a0_1, .int .i64 a0_2] 23 (0, 0)) (by (with_reducible repeat (first | refine blk_drewN ?_ _ | refine blk_drew ?_ | refine blk_alloc ?_ _)); exact BK297.out) hb)
              have n1_ := Aside0.mk (blk_below (g := gb298) (o := .cells #[.bool a1_0, .string a1_1, .int .i64 a1_2] 23 (0, 0)) (by (with_reducible repeat (first | refine blk_drewN ?_ _ | refine blk_drew ?_ | refine blk_alloc ?_ _)); exact BK298.out) hb)
              have n2_ := Aside0.mk (blk_below (g := gb302) (o := .cells #[.bool a0_0, .string a0_1, .int .i64 (wrap64 (a0_2 + (wrap64 (a2))))] 23 (0, 0)) (by (with_reducible repeat (first | refine blk_drewN ?_ _ | refine blk_drew ?_ | refine blk_alloc ?_ _)); exact BK302.out) hb)
              have n3_ := Aside0.mk (blk_below (g := gb303) (o := .cells #[.bool a1_0, .string a1_1, .int .i64 (wrap64 (a1_2 + (wrap64 (a2))))] 23 (0, 0)) (by (with_reducible repeat (first | refine blk_drewN ?_ _ | refine blk_drew ?_ | refine blk_alloc ?_ _)); exact BK303.out) hb)
              have n4_ := Aside0.mk (below_step (by repeat (first | (with_reducible first | exact HB.out | apply below_alloc | apply pw_below_drewN | apply below_drew1 | refine below_set ?_ GE297.out | refine below_set ?_ GE298.out | refine below_set ?_ GE302.out | refine below_set ?_ GE303.out) | exact HB.out)) hb)
              clear BK297
              clear BK298
              clear BK302
              clear BK303
              clear HB
              have BK297 := n0_
              have BK298 := n1_
              have BK302 := n2_
              have BK303 := n3_
              have HB := n4_
              clear n0_ n1_ n2_ n3_ n4_
              (try clear hb)
              (try clear hb2)
              (try clear hk)
              (try clear hi)
              refine hK.out _ _ ⟨(blk_cell BK302.out 0).trans rfl, (blk_cell BK302.out 1).trans rfl, (blk_cell BK302.out 2).trans rfl, (blk_cell BK297.out 0).trans rfl, (blk_cell BK297.out 1).trans rfl, (blk_cell BK297.out 2).trans rfl, (blk_cell BK303.out 0).trans rfl, (blk_cell BK303.out 1).trans rfl, (blk_cell BK303.out 2).trans rfl, (blk_cell BK298.out 0).trans rfl, (blk_cell BK298.out 1).trans rfl, (blk_cell BK298.out 2).trans rfl⟩ (fun hHeld => ?_)
              clear hK K
              refine norm_ (a' := ?_) ?_ ?_
              rotate_left
              · show Act.put _ (some 46) _ = _
                simp only [Act.put, List.setIfInBounds_toArray, List.set_cons_zero, List.set_cons_succ]; (try simp only [i64_w]); (try simp only [i32_w])
                rfl
              refine pure_ (i := 13) (N := some 47) (v := ?_) (a' := ?_) #[true, true, true, true, true, true, true, true, true, true, true, true, true, true, false, false, false, false, false, false, false, false, false, false, false, false, false, false, false, false, false, false, false, false, false, false, false, false, false] rfl rfl (any_of HT_.out (by kernel_rfl)) (fun _ _ _ h => h) (Or.inl ⟨by rfl, ?_⟩) ?_ ?_
              rotate_left
              · intro w'
                go_simp
                with_reducible rfl
              rotate_left
              · simp only [Act.put, List.setIfInBounds_toArray, List.set_cons_zero, List.set_cons_succ]; (try simp only [i64_w]); (try simp only [i32_w])
                rfl
              refine pure_ (i := 14) (N := some 48) (v := ?_) (a' := ?_) #[true, true, true, true, true, true, true, true, true, true, true, true, true, true, true, false, false, false, false, false, false, false, false, false, false, false, false, false, false, false, false, false, false, false, false, false, false, false, false] rfl rfl (any_of HT_.out (by kernel_rfl)) (fun _ _ _ h => h) (Or.inl ⟨by rfl, ?_⟩) ?_ ?_
              rotate_left
              · intro w'
                go_simp
                with_reducible rfl
              rotate_left
              · simp only [Act.put, List.setIfInBounds_toArray, List.set_cons_zero, List.set_cons_succ]; (try simp only [i64_w]); (try simp only [i32_w])
                rfl
              refine pure_ (i := 15) (N := some 49) (v := ?_) (a' := ?_) #[true, true, true, true, true, true, true, true, true, true, true, true, true, true, true, true, false, false, false, false, false, false, false, false, false, false, false, false, false, false, false, false, false, false, false, false, false, false, false] rfl rfl (any_of HT_.out (by kernel_rfl)) (fun _ _ _ h => h) (Or.inl ⟨by rfl, ?_⟩) ?_ ?_
              rotate_left
              · intro w'
                go_simp
                with_reducible rfl
              rotate_left
              · simp only [Act.put, List.setIfInBounds_toArray, List.set_cons_zero, List.set_cons_succ]; (try simp only [i64_w]); (try simp only [i32_w])
                rfl
              refine take_ (i := 16) (N := some 50) (v := ?_) (a' := ?_) #[true, true, true, true, true, true, true, true, true, true, true, true, true, true, true, true, true, false, false, false, false, false, false, false, false, false, false, false, false, false, false, false, false, false, false, false, false, false, false] rfl rfl (take_ofW HT_.out HW_.out (by kernel_rfl)) (fun _ _ _ h => h) (Or.inl ⟨by rfl, ?_⟩) hHeld ?_ ?_
              rotate_left
              · rintro w' ⟨s0, s1, s2, s3, s4, s5, s6, s7, s8, s9, s10, s11⟩
                go_simp
                with_reducible rfl
              rotate_left
              · simp only [Act.put, List.setIfInBounds_toArray, List.set_cons_zero, List.set_cons_succ]; (try simp only [i64_w]); (try simp only [i32_w])
                rfl
              refine one_ (i := 17) (N := some 51) #[true, true, true, true, true, true, true, true, true, true, true, true, true, true, true, true, true, true, false, false, false, false, false, false, false, false, false, false, false, false, false, false, false, false, false, false, false, false, false] rfl rfl (one_of HT_.out (by kernel_rfl)) (by decide) (fun K hK => ?_)
              refine goes_ Tryd.func20 (by kernel_rfl) rfl #[.agg #[.bool a0_0, .string a0_1, .int .i64 a0_2]] (by rfl) rfl rfl (by (try simp only [List.map_toArray]); (try simp only [List.map_cons]); (try simp only [List.map_nil]); first | done | rfl | (simp only [List.length_drop, List.length_take]; rfl)) ?_
              with_reducible refine (dec_Zero.calls a0_0 a0_1 a0_2 true _ A27.out).mono ?_
              rintro e w53 ⟨rfl, hb⟩
              refine ⟨_, rfl, ?_⟩
              have n0_ := Aside0.mk (blk_below (g := gb297) (o := .cells #[.bool a0_0, .string a0_1, .int .i64 a0_2] 23 (0, 0)) (by (with_reducible repeat (first | refine blk_drewN ?_ _ | refine blk_drew ?_ | refine blk_alloc ?_ _)); exact BK297.out) hb)
              have n1_ := Aside0.mk (blk_below (g := gb298) (o := .cells #[.bool a1_0, .string a1_1, .int .i64 a1_2] 23 (0, 0)) (by (with_reducible repeat (first | refine blk_drewN ?_ _ | refine blk_drew ?_ | refine blk_alloc ?_ _)); exact BK298.out) hb)
              have n2_ := Aside0.mk (blk_below (g := gb302) (o := .cells #[.bool a0_0, .string a0_1, .int .i64 (wrap64 (a0_2 + (wrap64 (a2))))] 23 (0, 0)) (by (with_reducible repeat (first | refine blk_drewN ?_ _ | refine blk_drew ?_ | refine blk_alloc ?_ _)); exact BK302.out) hb)
              have n3_ := Aside0.mk (blk_below (g := gb303) (o := .cells #[.bool a1_0, .string a1_1, .int .i64 (wrap64 (a1_2 + (wrap64 (a2))))] 23 (0, 0)) (by (with_reducible repeat (first | refine blk_drewN ?_ _ | refine blk_drew ?_ | refine blk_alloc ?_ _)); exact BK303.out) hb)
              have n4_ := Aside0.mk (below_step (by repeat (first | (with_reducible first | exact HB.out | apply below_alloc | apply pw_below_drewN | apply below_drew1 | refine below_set ?_ GE297.out | refine below_set ?_ GE298.out | refine below_set ?_ GE302.out | refine below_set ?_ GE303.out) | exact HB.out)) hb)
              clear BK297
              clear BK298
              clear BK302
              clear BK303
              clear HB
              have BK297 := n0_
              have BK298 := n1_
              have BK302 := n2_
              have BK303 := n3_
              have HB := n4_
              clear n0_ n1_ n2_ n3_ n4_
              (try clear hb)
              (try clear hb2)
              (try clear hk)
              (try clear hi)
              refine hK.out _ _ ⟨(blk_cell BK302.out 0).trans rfl, (blk_cell BK302.out 1).trans rfl, (blk_cell BK302.out 2).trans rfl, (blk_cell BK297.out 0).trans rfl, (blk_cell BK297.out 1).trans rfl, (blk_cell BK297.out 2).trans rfl, (blk_cell BK303.out 0).trans rfl, (blk_cell BK303.out 1).trans rfl, (blk_cell BK303.out 2).trans rfl, (blk_cell BK298.out 0).trans rfl, (blk_cell BK298.out 1).trans rfl, (blk_cell BK298.out 2).trans rfl⟩ (fun hHeld => ?_)
              clear hK K
              refine norm_ (a' := ?_) ?_ ?_
              rotate_left
              · show Act.put _ (some 51) _ = _
                simp only [Act.put, List.setIfInBounds_toArray, List.set_cons_zero, List.set_cons_succ]; (try simp only [i64_w]); (try simp only [i32_w])
                rfl
              refine pure_ (i := 18) (N := some 52) (v := ?_) (a' := ?_) #[true, true, true, true, true, true, true, true, true, true, true, true, true, true, true, true, true, true, true, false, false, false, false, false, false, false, false, false, false, false, false, false, false, false, false, false, false, false, false] rfl rfl (any_of HT_.out (by kernel_rfl)) (fun _ _ _ h => h) (Or.inl ⟨by rfl, ?_⟩) ?_ ?_
              rotate_left
              · intro w'
                go_simp
                with_reducible rfl
              rotate_left
              · simp only [Act.put, List.setIfInBounds_toArray, List.set_cons_zero, List.set_cons_succ]; (try simp only [i64_w]); (try simp only [i32_w])
                rfl
              refine pure_ (i := 19) (N := some 53) (v := undef) (a' := ?_) #[true, true, true, true, true, true, true, true, true, true, true, true, true, true, true, true, true, true, true, true, false, false, false, false, false, false, false, false, false, false, false, false, false, false, false, false, false, false, false] rfl rfl (any_of HT_.out (by kernel_rfl)) (fun _ _ _ h => h) (Or.inr ⟨by rfl, rfl⟩) ?_ ?_
              rotate_left
              · simp only [Act.put, List.setIfInBounds_toArray, List.set_cons_zero, List.set_cons_succ]; (try simp only [i64_w]); (try simp only [i32_w])
                rfl
              refine pure_ (i := 20) (N := some 54) (v := undef) (a' := ?_) #[true, true, true, true, true, true, true, true, true, true, true, true, true, true, true, true, true, true, true, true, true, false, false, false, false, false, false, false, false, false, false, false, false, false, false, false, false, false, false] rfl rfl (any_of HT_.out (by kernel_rfl)) (fun _ _ _ h => h) (Or.inr ⟨by rfl, rfl⟩) ?_ ?_
              rotate_left
              · simp only [Act.put, List.setIfInBounds_toArray, List.set_cons_zero, List.set_cons_succ]; (try simp only [i64_w]); (try simp only [i32_w])
                rfl
              refine pure_ (i := 21) (N := some 55) (v := undef) (a' := ?_) #[true, true, true, true, true, true, true, true, true, true, true, true, true, true, true, true, true, true, true, true, true, true, false, false, false, false, false, false, false, false, false, false, false, false, false, false, false, false, false] rfl rfl (any_of HT_.out (by kernel_rfl)) (fun _ _ _ h => h) (Or.inr ⟨by rfl, rfl⟩) ?_ ?_
              rotate_left
              · simp only [Act.put, List.setIfInBounds_toArray, List.set_cons_zero, List.set_cons_succ]; (try simp only [i64_w]); (try simp only [i32_w])
                rfl
              refine pure_ (i := 22) (N := some 56) (v := undef) (a' := ?_) #[true, true, true, true, true, true, true, true, true, true, true, true, true, true, true, true, true, true, true, true, true, true, true, false, false, false, false, false, false, false, false, false, false, false, false, false, false, false, false] rfl rfl (any_of HT_.out (by kernel_rfl)) (fun _ _ _ h => h) (Or.inr ⟨by rfl, rfl⟩) ?_ ?_
              rotate_left
              · simp only [Act.put, List.setIfInBounds_toArray, List.set_cons_zero, List.set_cons_succ]; (try simp only [i64_w]); (try simp only [i32_w])
                rfl
              refine pure_ (i := 23) (N := some 57) (v := undef) (a' := ?_) #[true, true, true, true, true, true, true, true, true, true, true, true, true, true, true, true, true, true, true, true, true, true, true, true, false, false, false, false, false, false, false, false, false, false, false, false, false, false, false] rfl rfl (any_of HT_.out (by kernel_rfl)) (fun _ _ _ h => h) (Or.inr ⟨by rfl, rfl⟩) ?_ ?_
              rotate_left
              · simp only [Act.put, List.setIfInBounds_toArray, List.set_cons_zero, List.set_cons_succ]; (try simp only [i64_w]); (try simp only [i32_w])
                rfl
              refine pure_ (i := 24) (N := some 58) (v := undef) (a' := ?_) #[true, true, true, true, true, true, true, true, true, true, true, true, true, true, true, true, true, true, true, true, true, true, true, true, true, false, false, false, false, false, false, false, false, false, false, false, false, false, false] rfl rfl (any_of HT_.out (by kernel_rfl)) (fun _ _ _ h => h) (Or.inr ⟨by rfl, rfl⟩) ?_ ?_
              rotate_left
              · simp only [Act.put, List.setIfInBounds_toArray, List.set_cons_zero, List.set_cons_succ]; (try simp only [i64_w]); (try simp only [i32_w])
                rfl
              refine pure_ (i := 25) (N := some 59) (v := undef) (a' := ?_) #[true, true, true, true, true, true, true, true, true, true, true, true, true, true, true, true, true, true, true, true, true, true, true, true, true, true, false, false, false, false, false, false, false, false, false, false, false, false, false] rfl rfl (any_of HT_.out (by kernel_rfl)) (fun _ _ _ h => h) (Or.inr ⟨by rfl, rfl⟩) ?_ ?_
              rotate_left
              · simp only [Act.put, List.setIfInBounds_toArray, List.set_cons_zero, List.set_cons_succ]; (try simp only [i64_w]); (try simp only [i32_w])
                rfl
              refine pure_ (i := 26) (N := some 60) (v := undef) (a' := ?_) #[true, true, true, true, true, true, true, true, true, true, true, true, true, true, true, true, true, true, true, true, true, true, true, true, true, true, true, false, false, false, false, false, false, false, false, false, false, false, false] rfl rfl (any_of HT_.out (by kernel_rfl)) (fun _ _ _ h => h) (Or.inr ⟨by rfl, rfl⟩) ?_ ?_
              rotate_left
              · simp only [Act.put, List.setIfInBounds_toArray, List.set_cons_zero, List.set_cons_succ]; (try simp only [i64_w]); (try simp only [i32_w])
                rfl
              refine pure_ (i := 27) (N := some 61) (v := ?_) (a' := ?_) #[true, true, true, true, true, true, true, true, true, true, true, true, true, true, true, true, true, true, true, true, true, true, true, true, true, true, true, true, false, false, false, false, false, false, false, false, false, false, false] rfl rfl (any_of HT_.out (by kernel_rfl)) (fun _ _ _ h => h) (Or.inl ⟨by rfl, ?_⟩) ?_ ?_
              rotate_left
              · intro w'
                go_simp
                with_reducible rfl
              rotate_left
              · simp only [Act.put, List.setIfInBounds_toArray, List.set_cons_zero, List.set_cons_succ]; (try simp only [i64_w]); (try simp only [i32_w])
                rfl
              refine pure_ (i := 28) (N := some 62) (v := ?_) (a' := ?_) #[true, true, true, true, true, true, true, true, true, true, true, true, true, true, true, true, true, true, true, true, true, true, true, true, true, true, true, true, true, false, false, false, false, false, false, false, false, false, false] rfl rfl (any_of HT_.out (by kernel_rfl)) (fun _ _ _ h => h) (Or.inl ⟨by rfl, ?_⟩) ?_ ?_
              rotate_left
              · intro w'
                go_simp
                with_reducible rfl
              rotate_left
              · simp only [Act.put, List.setIfInBounds_toArray, List.set_cons_zero, List.set_cons_succ]; (try simp only [i64_w]); (try simp only [i32_w])
                rfl
              refine pure_ (i := 29) (N := some 63) (v := ?_) (a' := ?_) #[true, true, true, true, true, true, true, true, true, true, true, true, true, true, true, true, true, true, true, true, true, true, true, true, true, true, true, true, true, true, false, false, false, false, false, false, false, false, false] rfl rfl (any_of HT_.out (by kernel_rfl)) (fun _ _ _ h => h) (Or.inl ⟨by rfl, ?_⟩) ?_ ?_
              rotate_left
              · intro w'
                go_simp
                with_reducible rfl
              rotate_left
              · simp only [Act.put, List.setIfInBounds_toArray, List.set_cons_zero, List.set_cons_succ]; (try simp only [i64_w]); (try simp only [i32_w])
                rfl
              refine take_ (i := 30) (N := some 64) (v := ?_) (a' := ?_) #[true, true, true, true, true, true, true, true, true, true, true, true, true, true, true, true, true, true, true, true, true, true, true, true, true, true, true, true, true, true, true, false, false, false, false, false, false, false, false] rfl rfl (take_ofW HT_.out HW_.out (by kernel_rfl)) (fun _ _ _ h => h) (Or.inl ⟨by rfl, ?_⟩) hHeld ?_ ?_
              rotate_left
              · rintro w' ⟨s0, s1, s2, s3, s4, s5, s6, s7, s8, s9, s10, s11⟩
                go_simp
                with_reducible rfl
              rotate_left
              · simp only [Act.put, List.setIfInBounds_toArray, List.set_cons_zero, List.set_cons_succ]; (try simp only [i64_w]); (try simp only [i32_w])
                rfl
              refine take_ (i := 31) (N := some 65) (v := ?_) (a' := ?_) #[true, true, true, true, true, true, true, true, true, true, true, true, true, true, true, true, true, true, true, true, true, true, true, true, true, true, true, true, true, true, true, true, false, false, false, false, false, false, false] rfl rfl (take_ofW HT_.out HW_.out (by kernel_rfl)) (fun _ _ _ h => h) (Or.inl ⟨by rfl, ?_⟩) hHeld ?_ ?_
              rotate_left
              · rintro w' ⟨s0, s1, s2, s3, s4, s5, s6, s7, s8, s9, s10, s11⟩
                go_simp
                with_reducible rfl
              rotate_left
              · simp only [Act.put, List.setIfInBounds_toArray, List.set_cons_zero, List.set_cons_succ]; (try simp only [i64_w]); (try simp only [i32_w])
                rfl
              refine take_ (i := 33) (N := some 67) (v := ?_) (a' := ?_) #[true, true, true, true, true, true, true, true, true, true, true, true, true, true, true, true, true, true, true, true, true, true, true, true, true, true, true, true, true, true, true, true, false, true, false, false, false, false, false] rfl rfl (take_ofW HT_.out HW_.out (by kernel_rfl)) (fun _ _ _ h => h) (Or.inl ⟨by rfl, ?_⟩) hHeld ?_ ?_
              rotate_left
              · rintro w' ⟨s0, s1, s2, s3, s4, s5, s6, s7, s8, s9, s10, s11⟩
                go_simp
                with_reducible rfl
              rotate_left
              · simp only [Act.put, List.setIfInBounds_toArray, List.set_cons_zero, List.set_cons_succ]; (try simp only [i64_w]); (try simp only [i32_w])
                rfl
              refine take_ (i := 34) (N := some 68) (v := ?_) (a' := ?_) #[true, true, true, true, true, true, true, true, true, true, true, true, true, true, true, true, true, true, true, true, true, true, true, true, true, true, true, true, true, true, true, true, false, true, true, false, false, false, false] rfl rfl (take_ofW HT_.out HW_.out (by kernel_rfl)) (fun _ _ _ h => h) (Or.inl ⟨by rfl, ?_⟩) hHeld ?_ ?_
              rotate_left
              · rintro w' ⟨s0, s1, s2, s3, s4, s5, s6, s7, s8, s9, s10, s11⟩
                go_simp
                with_reducible rfl
              rotate_left
              · simp only [Act.put, List.setIfInBounds_toArray, List.set_cons_zero, List.set_cons_succ]; (try simp only [i64_w]); (try simp only [i32_w])
                rfl
              refine one_ (i := 32) (N := some 66) #[true, true, true, true, true, true, true, true, true, true, true, true, true, true, true, true, true, true, true, true, true, true, true, true, true, true, true, true, true, true, true, true, true, true, true, false, false, false, false] rfl rfl (one_of HT_.out (by kernel_rfl)) (by decide) (fun K hK => ?_)
              refine goes_ Tryd.func28 (by kernel_rfl) rfl #[.agg #[.bool a0_0, .string a0_1, .int .i64 (wrap64 (a0_2 + (wrap64 (a2))))], .agg #[.bool a1_0, .string a1_1, .int .i64 (wrap64 (a1_2 + (wrap64 (a2))))]] (by rfl) rfl rfl (by (try simp only [List.map_toArray]); (try simp only [List.map_cons]); (try simp only [List.map_nil]); first | done | rfl | (simp only [List.length_drop, List.length_take]; rfl)) ?_
              with_reducible refine (dec_Cmp.calls kj4 a0_0 a0_1 (wrap64 (a0_2 + (wrap64 (a2)))) a1_0 a1_1 (wrap64 (a1_2 + (wrap64 (a2)))) t308 _ ?side1 A29.out).mono ?_
              (case side1 => exact Fig.Glob.below HG.out (by repeat (first | (with_reducible first | exact HB.out | apply below_alloc | apply pw_below_drewN | apply below_drew1 | refine below_set ?_ GE297.out | refine below_set ?_ GE298.out | refine below_set ?_ GE302.out | refine below_set ?_ GE303.out) | exact HB.out)))
              rintro e w54 ⟨rfl, hb⟩
              refine ⟨_, rfl, ?_⟩
              have n0_ := Aside0.mk (blk_below (g := gb297) (o := .cells #[.bool a0_0, .string a0_1, .int .i64 a0_2] 23 (0, 0)) (by (with_reducible repeat (first | refine blk_drewN ?_ _ | refine blk_drew ?_ | refine blk_alloc ?_ _)); exact BK297.out) hb)
              have n1_ := Aside0.mk (blk_below (g := gb298) (o := .cells #[.bool a1_0, .string a1_1, .int .i64 a1_2] 23 (0, 0)) (by (with_reducible repeat (first | refine blk_drewN ?_ _ | refine blk_drew ?_ | refine blk_alloc ?_ _)); exact BK298.out) hb)
              have n2_ := Aside0.mk (blk_below (g := gb302) (o := .cells #[.bool a0_0, .string a0_1, .int .i64 (wrap64 (a0_2 + (wrap64 (a2))))] 23 (0, 0)) (by (with_reducible repeat (first | refine blk_drewN ?_ _ | refine blk_drew ?_ | refine blk_alloc ?_ _)); exact BK302.out) hb)
              have n3_ := Aside0.mk (blk_below (g := gb303) (o := .cells #[.bool a1_0, .string a1_1, .int .i64 (wrap64 (a1_2 + (wrap64 (a2))))] 23 (0, 0)) (by (with_reducible repeat (first | refine blk_drewN ?_ _ | refine blk_drew ?_ | refine blk_alloc ?_ _)); exact BK303.out) hb)
              have n4_ := Aside0.mk (below_step (by repeat (first | (with_reducible first | exact HB.out | apply below_alloc | apply pw_below_drewN | apply below_drew1 | refine below_set ?_ GE297.out | refine below_set ?_ GE298.out | refine below_set ?_ GE302.out | refine below_set ?_ GE303.out) | exact HB.out)) hb)
              clear BK297
              clear BK298
              clear BK302
              clear BK303
              clear HB
              have BK297 := n0_
              have BK298 := n1_
              have BK302 := n2_
              have BK303 := n3_
              have HB := n4_
              clear n0_ n1_ n2_ n3_ n4_
              (try clear hb)
              (try clear hb2)
              (try clear hk)
              (try clear hi)
              refine hK.out _ _ ⟨(blk_cell BK302.out 0).trans rfl, (blk_cell BK302.out 1).trans rfl, (blk_cell BK302.out 2).trans rfl, (blk_cell BK297.out 0).trans rfl, (blk_cell BK297.out 1).trans rfl, (blk_cell BK297.out 2).trans rfl, (blk_cell BK303.out 0).trans rfl, (blk_cell BK303.out 1).trans rfl, (blk_cell BK303.out 2).trans rfl, (blk_cell BK298.out 0).trans rfl, (blk_cell BK298.out 1).trans rfl, (blk_cell BK298.out 2).trans rfl⟩ (fun hHeld => ?_)
              clear hK K
              refine norm_ (a' := ?_) ?_ ?_
              rotate_left
              · show Act.put _ (some 66) _ = _
                simp only [Act.put, List.setIfInBounds_toArray, List.set_cons_zero, List.set_cons_succ]; (try simp only [i64_w]); (try simp only [i32_w])
                rfl
              refine one_ (i := 35) (N := some 69) #[true, true, true, true, true, true, true, true, true, true, true, true, true, true, true, true, true, true, true, true, true, true, true, true, true, true, true, true, true, true, true, true, true, true, true, true, false, false, false] rfl rfl (one_of HT_.out (by kernel_rfl)) (by decide) (fun K hK => ?_)
              refine goes_ Tryd.func28 (by kernel_rfl) rfl #[.agg #[.bool a0_0, .string a0_1, .int .i64 a0_2], .agg #[.bool a1_0, .string a1_1, .int .i64 a1_2]] (by rfl) rfl rfl (by (try simp only [List.map_toArray]); (try simp only [List.map_cons]); (try simp only [List.map_nil]); first | done | rfl | (simp only [List.length_drop, List.length_take]; rfl)) ?_
              with_reducible refine (dec_Cmp.calls kj4 a0_0 a0_1 a0_2 a1_0 a1_1 a1_2 t309 _ ?side1 A30.out).mono ?_
              (case side1 => exact Fig.Glob.below HG.out (by repeat (first | (with_reducible first | exact HB.out | apply below_alloc | apply pw_below_drewN | apply below_drew1 | refine below_set ?_ GE297.out | refine below_set ?_ GE298.out | refine below_set ?_ GE302.out | refine below_set ?_ GE303.out) | exact HB.out)))
              rintro e w55 ⟨rfl, hb⟩
              refine ⟨_, rfl, ?_⟩
              have n0_ := Aside0.mk (blk_below (g := gb297) (o := .cells #[.bool a0_0, .string a0_1, .int .i64 a0_2] 23 (0, 0)) (by (with_reducible repeat (first | refine blk_drewN ?_ _ | refine blk_drew ?_ | refine blk_alloc ?_ _)); exact BK297.out) hb)
              have n1_ := Aside0.mk (blk_below (g := gb298) (o := .cells #[.bool a1_0, .string a1_1, .int .i64 a1_2] 23 (0, 0)) (by (with_reducible repeat (first | refine blk_drewN ?_ _ | refine blk_drew ?_ | refine blk_alloc ?_ _)); exact BK298.out) hb)
              have n2_ := Aside0.mk (blk_below (g := gb302) (o := .cells #[.bool a0_0, .string a0_1, .int .i64 (wrap64 (a0_2 + (wrap64 (a2))))] 23 (0, 0)) (by (with_reducible repeat (first | refine blk_drewN ?_ _ | refine blk_drew ?_ | refine blk_alloc ?_ _)); exact BK302.out) hb)
              have n3_ := Aside0.mk (blk_below (g := gb303) (o := .cells #[.bool a1_0, .string a1_1, .int .i64 (wrap64 (a1_2 + (wrap64 (a2))))] 23 (0, 0)) (by (with_reducible repeat (first | refine blk_drewN ?_ _ | refine blk_drew ?_ | refine blk_alloc ?_ _)); exact BK303.out) hb)
              have n4_ := Aside0.mk (below_step (by repeat (first | (with_reducible first | exact HB.out | apply below_alloc | apply pw_below_drewN | apply below_drew1 | refine below_set ?_ GE297.out | refine below_set ?_ GE298.out | refine below_set ?_ GE302.out | refine below_set ?_ GE303.out) | exact HB.out)) hb)
              clear BK297
              clear BK298
              clear BK302
              clear BK303
              clear HB
              have BK297 := n0_
              have BK298 := n1_
              have BK302 := n2_
              have BK303 := n3_
              have HB := n4_
              clear n0_ n1_ n2_ n3_ n4_
              (try clear hb)
              (try clear hb2)
              (try clear hk)
              (try clear hi)
              refine hK.out _ _ ⟨(blk_cell BK302.out 0).trans rfl, (blk_cell BK302.out 1).trans rfl, (blk_cell BK302.out 2).trans rfl, (blk_cell BK297.out 0).trans rfl, (blk_cell BK297.out 1).trans rfl, (blk_cell BK297.out 2).trans rfl, (blk_cell BK303.out 0).trans rfl, (blk_cell BK303.out 1).trans rfl, (blk_cell BK303.out 2).trans rfl, (blk_cell BK298.out 0).trans rfl, (blk_cell BK298.out 1).trans rfl, (blk_cell BK298.out 2).trans rfl⟩ (fun hHeld => ?_)
              clear hK K
              refine norm_ (a' := ?_) ?_ ?_
              rotate_left
              · show Act.put _ (some 69) _ = _
                simp only [Act.put, List.setIfInBounds_toArray, List.set_cons_zero, List.set_cons_succ]; (try simp only [i64_w]); (try simp only [i32_w])
                rfl
              refine pure_ (i := 36) (N := some 70) (v := ?_) (a' := ?_) #[true, true, true, true, true, true, true, true, true, true, true, true, true, true, true, true, true, true, true, true, true, true, true, true, true, true, true, true, true, true, true, true, true, true, true, true, true, false, false] rfl rfl (any_of HT_.out (by kernel_rfl)) (fun _ _ _ h => h) (Or.inl ⟨by rfl, ?_⟩) ?_ ?_
              rotate_left
              · intro w'
                go_simp
                with_reducible rfl
              rotate_left
              · simp only [Act.put, List.setIfInBounds_toArray, List.set_cons_zero, List.set_cons_succ]; (try simp only [i64_w]); (try simp only [i32_w])
                rfl
              refine pure_ (i := 37) (N := some 71) (v := ?_) (a' := ?_) #[true, true, true, true, true, true, true, true, true, true, true, true, true, true, true, true, true, true, true, true, true, true, true, true, true, true, true, true, true, true, true, true, true, true, true, true, true, true, false] rfl rfl (any_of HT_.out (by kernel_rfl)) (fun _ _ _ h => h) (Or.inl ⟨by rfl, ?_⟩) ?_ ?_
              rotate_left
              · intro w'
                go_simp
                with_reducible rfl
              rotate_left
              · simp only [Act.put, List.setIfInBounds_toArray, List.set_cons_zero, List.set_cons_succ]; (try simp only [i64_w]); (try simp only [i32_w])
                rfl
              refine pure_ (i := 38) (N := some 8) (v := ?_) (a' := ?_) #[true, true, true, true, true, true, true, true, true, true, true, true, true, true, true, true, true, true, true, true, true, true, true, true, true, true, true, true, true, true, true, true, true, true, true, true, true, true, true] rfl rfl (any_of HT_.out (by kernel_rfl)) (fun _ _ _ h => h) (Or.inl ⟨by rfl, ?_⟩) ?_ ?_
              rotate_left
              · intro w'
                go_simp
                with_reducible rfl
              rotate_left
              · simp only [Act.put, List.setIfInBounds_toArray, List.set_cons_zero, List.set_cons_succ]; (try simp only [i64_w]); (try simp only [i32_w])
                rfl
              refine done_ (done_of HT_.out (by kernel_rfl)) ?_
              try go_wp2
              go_ret
              exact ⟨by first | rfl | (simp [errW_none, errW_some] <;> rfl) | (simp [*, errW_none, errW_some] <;> rfl), by repeat (first | (with_reducible first | exact HB.out | apply below_alloc | apply pw_below_drewN | apply below_drew1 | refine below_set ?_ GE297.out | refine below_set ?_ GE298.out | refine below_set ?_ GE302.out | refine below_set ?_ GE303.out) | exact HB.out)⟩
            · replace c28 := Bool.eq_false_iff.mpr c28
              subst c28
              have H1 : ((dec_Top.f a0_0 a0_1 (wrap64 (a0_2 + (wrap64 (a2))))).bind fun t310 => ((dec_Top.f a0_0 a0_1 a0_2).bind fun t311 => (if t310 = (wrap64 (t311 + (wrap64 (a2)))) then ((dec_Cmp.f kj4 a0_0 a0_1 (wrap64 (a0_2 + (wrap64 (a2)))) a1_0 a1_1 (wrap64 (a1_2 + (wrap64 (a2))))).bind fun t312 => ((dec_Cmp.f kj4 a0_0 a0_1 a0_2 a1_0 a1_1 a1_2).bind fun t313 => (some (t312 == t313)))) else (some false)))) = some r := by rw [if_neg (show ¬ (false = true) by decide)] at H; exact H
              clear H
              have H := H1
              clear H1
              replace H := Option.bind_eq_some_iff.mp H
              obtain ⟨t310, A560, H⟩ := H
              replace H : ((dec_Top.f a0_0 a0_1 a0_2).bind fun t311 => (if t310 = (wrap64 (t311 + (wrap64 (a2)))) then ((dec_Cmp.f kj4 a0_0 a0_1 (wrap64 (a0_2 + (wrap64 (a2)))) a1_0 a1_1 (wrap64 (a1_2 + (wrap64 (a2))))).bind fun t312 => ((dec_Cmp.f kj4 a0_0 a0_1 a0_2 a1_0 a1_1 a1_2).bind fun t313 => (some (t312 == t313)))) else (some false))) = some r := H
              have A56 := Aside0.mk A560
              clear A560
              replace H := Option.bind_eq_some_iff.mp H
              obtain ⟨t311, A570, H⟩ := H
              replace H : (if t310 = (wrap64 (t311 + (wrap64 (a2)))) then ((dec_Cmp.f kj4 a0_0 a0_1 (wrap64 (a0_2 + (wrap64 (a2)))) a1_0 a1_1 (wrap64 (a1_2 + (wrap64 (a2))))).bind fun t312 => ((dec_Cmp.f kj4 a0_0 a0_1 a0_2 a1_0 a1_1 a1_2).bind fun t313 => (some (t312 == t313)))) else (some false)) = some r := H
              have A57 := Aside0.mk A570
              clear A570
              by_cases c58 : t310 = (wrap64 (t311 + (wrap64 (a2))))
              · rw [if_pos c58] at H
                have c58b0 : (t310 == (wrap64 (t311 + (wrap64 (a2))))) = true := beq_iff_eq.mpr c58
                have c58b1 : (t310 != (wrap64 (t311 + (wrap64 (a2))))) = false := bne_eq_false_iff_eq.mpr c58
                clear c58
                replace H := Option.bind_eq_some_iff.mp H
                obtain ⟨t312, A590, H⟩ := H
                replace H : ((dec_Cmp.f kj4 a0_0 a0_1 a0_2 a1_0 a1_1 a1_2).bind fun t313 => (some (t312 == t313))) = some r := H
                have A59 := Aside0.mk A590
                clear A590
                replace H := Option.bind_eq_some_iff.mp H
                obtain ⟨t313, A600, H⟩ := H
                replace H : (some (t312 == t313)) = some r := H
                have A60 := Aside0.mk A600
                clear A600
                obtain rfl := Option.some.inj H
                try go_wp2
                (try (rw [drewN_self wc]; generalize hq_ : World.drewN wc _ = wc; have n0_ : Aside0 (wc.heap[gb297]? = some (.cells #[.bool a0_0, .string a0_1, .int .i64 a0_2] 23 (0, 0))) := ⟨by rw [← hq_]; exact (by (with_reducible repeat (first | refine blk_drewN ?_ _ | refine blk_drew ?_ | refine blk_alloc ?_ _)); exact BK297.out)⟩; have n1_ : Aside0 (wc.heap[gb298]? = some (.cells #[.bool a1_0, .string a1_1, .int .i64 a1_2] 23 (0, 0))) := ⟨by rw [← hq_]; exact (by (with_reducible repeat (first | refine blk_drewN ?_ _ | refine blk_drew ?_ | refine blk_alloc ?_ _)); exact BK298.out)⟩; have n2_ : Aside0 (Below w.heap.size w wc) := ⟨by rw [← hq_]; exact (by repeat (first | (with_reducible first | exact HB.out | apply below_alloc | apply pw_below_drewN | apply below_drew1 | refine below_set ?_ GE297.out | refine below_set ?_ GE298.out) | exact HB.out))⟩; clear BK297 BK298 HB hq_; have BK297 := n0_; have BK298 := n1_; have HB := n2_; clear n0_ n1_ n2_))
                have n0_ := Aside0.mk (blk_drew BK297.out)
                have n1_ := Aside0.mk (blk_drew BK298.out)
                have n2_ := Aside0.mk (below_drew1 HB.out)
                clear BK297
                clear BK298
                clear HB
                have BK297 := n0_
                have BK298 := n1_
                have HB := n2_
                clear n0_ n1_ n2_
                refine start_ (n := 6) (S := fun w' => w'.cell? ⟨gb297, 0, none⟩ = some (.bool a0_0) ∧ w'.cell? ⟨gb297, 1, none⟩ = some (.string a0_1) ∧ w'.cell? ⟨gb297, 2, none⟩ = some (.int .i64 a0_2) ∧ w'.cell? ⟨gb298, 0, none⟩ = some (.bool a1_0) ∧ w'.cell? ⟨gb298, 1, none⟩ = some (.string a1_1) ∧ w'.cell? ⟨gb298, 2, none⟩ = some (.int .i64 a1_2)) (ds := []) #[false, false, false, false, false, false] (by kernel_rfl) rfl rfl ⟨(blk_cell BK297.out 0).trans rfl, (blk_cell BK297.out 1).trans rfl, (blk_cell BK297.out 2).trans rfl, (blk_cell BK298.out 0).trans rfl, (blk_cell BK298.out 1).trans rfl, (blk_cell BK298.out 2).trans rfl⟩ (fun hHeld => ?_)
                generalize wc.drew = w61 at BK297 BK298 HB hHeld ⊢
                refine take_ (i := 0) (N := some 20) (v := ?_) (a' := ?_) #[true, false, false, false, false, false] rfl rfl (by kernel_rfl) (fun _ _ _ h => h) (Or.inl ⟨by rfl, ?_⟩) hHeld ?_ ?_
                rotate_left
                · rintro w' ⟨s0, s1, s2, s3, s4, s5⟩
                  go_simp
                  with_reducible rfl
                rotate_left
                · simp only [Act.put, List.setIfInBounds_toArray, List.set_cons_zero, List.set_cons_succ]; (try simp only [i64_w]); (try simp only [i32_w])
                  rfl
                refine take_ (i := 1) (N := some 21) (v := ?_) (a' := ?_) #[true, true, false, false, false, false] rfl rfl (by kernel_rfl) (fun _ _ _ h => h) (Or.inl ⟨by rfl, ?_⟩) hHeld ?_ ?_
                rotate_left
                · rintro w' ⟨s0, s1, s2, s3, s4, s5⟩
                  go_simp
                  with_reducible rfl
                rotate_left
                · simp only [Act.put, List.setIfInBounds_toArray, List.set_cons_zero, List.set_cons_succ]; (try simp only [i64_w]); (try simp only [i32_w])
                  rfl
                refine join_ (σ := Nat × Nat) 2 #[true, true, true, true, false, false] (fun s_ => [(9, .pointer (some ⟨s_.1, 0, none⟩)), (10, .pointer (some ⟨s_.2, 0, none⟩))]) (fun s_ w' => (w'.cell? ⟨gb297, 0, none⟩ = some (.bool a0_0) ∧ w'.cell? ⟨gb297, 1, none⟩ = some (.string a0_1) ∧ w'.cell? ⟨gb297, 2, none⟩ = some (.int .i64 a0_2) ∧ w'.cell? ⟨gb298, 0, none⟩ = some (.bool a1_0) ∧ w'.cell? ⟨gb298, 1, none⟩ = some (.string a1_1) ∧ w'.cell? ⟨gb298, 2, none⟩ = some (.int .i64 a1_2)) ∧ (w'.heap[gb297]? = some (.cells #[.bool a0_0, .string a0_1, .int .i64 a0_2] 23 (0, 0))) ∧ (w'.heap[gb298]? = some (.cells #[.bool a1_0, .string a1_1, .int .i64 a1_2] 23 (0, 0))) ∧ (w'.heap[s_.1]? = some (.cells #[.bool false, .string (⟨#[]⟩ : ByteArray), .int .i64 0] 23 (0, 0))) ∧ (w'.heap[s_.2]? = some (.cells #[.bool false, .string (⟨#[]⟩ : ByteArray), .int .i64 0] 23 (0, 0))) ∧ (w.heap.size ≤ s_.1) ∧ (w.heap.size ≤ s_.1) ∧ (gb297 ≠ s_.1) ∧ (s_.1 ≠ gb297) ∧ (gb298 ≠ s_.1) ∧ (s_.1 ≠ gb298) ∧ (s_.2 ≠ s_.1) ∧ (s_.1 ≠ s_.2) ∧ (w.heap.size ≤ s_.2) ∧ (w.heap.size ≤ s_.2) ∧ (gb297 ≠ s_.2) ∧ (s_.2 ≠ gb297) ∧ (gb298 ≠ s_.2) ∧ (s_.2 ≠ gb298) ∧ (Below w.heap.size w w')) ?_ ?_
                rotate_left
                · intro hCont
                  refine two_ (i := 2) (j := 3) (Ni := some 9) (Nj := some 10) #[true, true, true, false, false, false] #[true, true, false, true, false, false] rfl rfl rfl rfl (by kernel_rfl) (by decide) (by decide) (fun K hK => ?_) (fun K hK => ?_)
                  · skip
                    refine box_step ?hg (N := 9) ?hd (cs := #[.bool false, .string (⟨#[]⟩ : ByteArray), .int .i64 0]) (t := 23) ?hr ?_; (case hd => rfl); (case hg => rfl); (case hr => first | (go_simp; done) | (go_simp; rfl))
                    intro gb302 hg w62 hbox hb
                    have n0_ := Aside0.mk (blk_below (g := gb297) (o := .cells #[.bool a0_0, .string a0_1, .int .i64 a0_2] 23 (0, 0)) (by (with_reducible repeat (first | refine blk_drewN ?_ _ | refine blk_drew ?_ | refine blk_alloc ?_ _)); exact BK297.out) hb)
                    have n1_ := Aside0.mk (blk_below (g := gb298) (o := .cells #[.bool a1_0, .string a1_1, .int .i64 a1_2] 23 (0, 0)) (by (with_reducible repeat (first | refine blk_drewN ?_ _ | refine blk_drew ?_ | refine blk_alloc ?_ _)); exact BK298.out) hb)
                    have n2_ := Aside0.mk (below_step (by repeat (first | (with_reducible first | exact HB.out | apply below_alloc | apply pw_below_drewN | apply below_drew1 | refine below_set ?_ GE297.out | refine below_set ?_ GE298.out) | exact HB.out)) hb)
                    have n3_ := Aside0.mk (hbox)
                    have n4_ := Aside0.mk ((by rw [hg]; exact (below_size (by repeat (first | (with_reducible first | exact HB.out | apply below_alloc | apply pw_below_drewN | apply below_drew1 | refine below_set ?_ GE297.out | refine below_set ?_ GE298.out) | exact HB.out))) : w.heap.size ≤ gb302))
                    have n5_ := Aside0.mk ((by rw [hg]; exact (below_size (by repeat (first | (with_reducible first | exact HB.out | apply below_alloc | apply pw_below_drewN | apply below_drew1 | refine below_set ?_ GE297.out | refine below_set ?_ GE298.out) | exact HB.out))) : w.heap.size ≤ gb302))
                    have n6_ := Aside0.mk ((by rw [hg]; exact Nat.ne_of_lt (blk_lt (g := gb297) (o := .cells #[.bool a0_0, .string a0_1, .int .i64 a0_2] 23 (0, 0)) (by (with_reducible repeat (first | refine blk_drewN ?_ _ | refine blk_drew ?_ | refine blk_alloc ?_ _)); exact BK297.out)) : gb297 ≠ gb302))
                    have n7_ := Aside0.mk ((by rw [hg]; exact Nat.ne_of_gt (blk_lt (g := gb297) (o := .cells #[.bool a0_0, .string a0_1, .int .i64 a0_2] 23 (0, 0)) (by (with_reducible repeat (first | refine blk_drewN ?_ _ | refine blk_drew ?_ | refine blk_alloc ?_ _)); exact BK297.out)) : gb302 ≠ gb297))
                    have n8_ := Aside0.mk ((by rw [hg]; exact Nat.ne_of_lt (blk_lt (g := gb298) (o := .cells #[.bool a1_0, .string a1_1, .int .i64 a1_2] 23 (0, 0)) (by (with_reducible repeat (first | refine blk_drewN ?_ _ | refine blk_drew ?_ | refine blk_alloc ?_ _)); exact BK298.out)) : gb298 ≠ gb302))
                    have n9_ := Aside0.mk ((by rw [hg]; exact Nat.ne_of_gt (blk_lt (g := gb298) (o := .cells #[.bool a1_0, .string a1_1, .int .i64 a1_2] 23 (0, 0)) (by (with_reducible repeat (first | refine blk_drewN ?_ _ | refine blk_drew ?_ | refine blk_alloc ?_ _)); exact BK298.out)) : gb302 ≠ gb298))
                    clear BK297
                    clear BK298
                    clear HB
                    have BK297 := n0_
                    have BK298 := n1_
                    have HB := n2_
                    have BK302 := n3_
                    have GW302 := n4_
                    have GE302 := n5_
                    have NB297_302 := n6_
                    have NB302_297 := n7_
                    have NB298_302 := n8_
                    have NB302_298 := n9_
                    clear n0_ n1_ n2_ n3_ n4_ n5_ n6_ n7_ n8_ n9_
                    clear hb hbox hg
                    refine hK.out _ _ ⟨(blk_cell BK297.out 0).trans rfl, (blk_cell BK297.out 1).trans rfl, (blk_cell BK297.out 2).trans rfl, (blk_cell BK298.out 0).trans rfl, (blk_cell BK298.out 1).trans rfl, (blk_cell BK298.out 2).trans rfl⟩ (fun hHeld => ?_)
                    clear hK K
                    refine norm_ (a' := ?_) ?_ ?_
                    rotate_left
                    · show Act.put _ (some 9) _ = _
                      simp only [Act.put, List.setIfInBounds_toArray, List.set_cons_zero, List.set_cons_succ]; (try simp only [i64_w]); (try simp only [i32_w])
                      rfl
                    refine one_ (i := 3) (N := some 10) #[true, true, true, true, false, false] rfl rfl (by kernel_rfl) (by decide) (fun K hK => ?_)
                    refine box_step ?hg (N := 10) ?hd (cs := #[.bool false, .string (⟨#[]⟩ : ByteArray), .int .i64 0]) (t := 23) ?hr ?_; (case hd => rfl); (case hg => rfl); (case hr => first | (go_simp; done) | (go_simp; rfl))
                    intro gb303 hg w63 hbox hb
                    have n0_ := Aside0.mk (blk_below (g := gb297) (o := .cells #[.bool a0_0, .string a0_1, .int .i64 a0_2] 23 (0, 0)) (by (with_reducible repeat (first | refine blk_drewN ?_ _ | refine blk_drew ?_ | refine blk_alloc ?_ _)); exact BK297.out) hb)
                    have n1_ := Aside0.mk (blk_below (g := gb298) (o := .cells #[.bool a1_0, .string a1_1, .int .i64 a1_2] 23 (0, 0)) (by (with_reducible repeat (first | refine blk_drewN ?_ _ | refine blk_drew ?_ | refine blk_alloc ?_ _)); exact BK298.out) hb)
                    have n2_ := Aside0.mk (blk_below (g := gb302) (o := .cells #[.bool false, .string (⟨#[]⟩ : ByteArray), .int .i64 0] 23 (0, 0)) (by (with_reducible repeat (first | refine blk_drewN ?_ _ | refine blk_drew ?_ | refine blk_alloc ?_ _)); exact BK302.out) hb)
                    have n3_ := Aside0.mk (below_step (by repeat (first | (with_reducible first | exact HB.out | apply below_alloc | apply pw_below_drewN | apply below_drew1 | refine below_set ?_ GE297.out | refine below_set ?_ GE298.out | refine below_set ?_ GE302.out) | exact HB.out)) hb)
                    have n4_ := Aside0.mk (hbox)
                    have n5_ := Aside0.mk ((by rw [hg]; exact (below_size (by repeat (first | (with_reducible first | exact HB.out | apply below_alloc | apply pw_below_drewN | apply below_drew1 | refine below_set ?_ GE297.out | refine below_set ?_ GE298.out | refine below_set ?_ GE302.out) | exact HB.out))) : w.heap.size ≤ gb303))
                    have n6_ := Aside0.mk ((by rw [hg]; exact (below_size (by repeat (first | (with_reducible first | exact HB.out | apply below_alloc | apply pw_below_drewN | apply below_drew1 | refine below_set ?_ GE297.out | refine below_set ?_ GE298.out | refine below_set ?_ GE302.out) | exact HB.out))) : w.heap.size ≤ gb303))
                    have n7_ := Aside0.mk ((by rw [hg]; exact Nat.ne_of_lt (blk_lt (g := gb297) (o := .cells #[.bool a0_0, .string a0_1, .int .i64 a0_2] 23 (0, 0)) (by (with_reducible repeat (first | refine blk_drewN ?_ _ | refine blk_drew ?_ | refine blk_alloc ?_ _)); exact BK297.out)) : gb297 ≠ gb303))
                    have n8_ := Aside0.mk ((by rw [hg]; exact Nat.ne_of_gt (blk_lt (g := gb297) (o := .cells #[.bool a0_0, .string a0_1, .int .i64 a0_2] 23 (0, 0)) (by (with_reducible repeat (first | refine blk_drewN ?_ _ | refine blk_drew ?_ | refine blk_alloc ?_ _)); exact BK297.out)) : gb303 ≠ gb297))
                    have n9_ := Aside0.mk ((by rw [hg]; exact Nat.ne_of_lt (blk_lt (g := gb298) (o := .cells #[.bool a1_0, .string a1_1, .int .i64 a1_2] 23 (0, 0)) (by (with_reducible repeat (first | refine blk_drewN ?_ _ | refine blk_drew ?_ | refine blk_alloc ?_ _)); exact BK298.out)) : gb298 ≠ gb303))
                    have n10_ := Aside0.mk ((by rw [hg]; exact Nat.ne_of_gt (blk_lt (g := gb298) (o := .cells #[.bool a1_0, .string a1_1, .int .i64 a1_2] 23 (0, 0)) (by (with_reducible repeat (first | refine blk_drewN ?_ _ | refine blk_drew ?_ | refine blk_alloc ?_ _)); exact BK298.out)) : gb303 ≠ gb298))
                    have n11_ := Aside0.mk ((by rw [hg]; exact Nat.ne_of_lt (blk_lt (g := gb302) (o := .cells #[.bool false, .string (⟨#[]⟩ : ByteArray), .int .i64 0] 23 (0, 0)) (by (with_reducible repeat (first | refine blk_drewN ?_ _ | refine blk_drew ?_ | refine blk_alloc ?_ _)); exact BK302.out)) : gb302 ≠ gb303))
                    have n12_ := Aside0.mk ((by rw [hg]; exact Nat.ne_of_gt (blk_lt (g := gb302) (o := .cells #[.bool false, .string (⟨#[]⟩ : ByteArray), .int .i64 0] 23 (0, 0)) (by (with_reducible repeat (first | refine blk_drewN ?_ _ | refine blk_drew ?_ | refine blk_alloc ?_ _)); exact BK302.out)) : gb303 ≠ gb302))
                    clear BK297
                    clear BK298
                    clear BK302
                    clear HB
                    have BK297 := n0_
                    have BK298 := n1_
                    have BK302 := n2_
                    have HB := n3_
                    have BK303 := n4_
                    have GW303 := n5_
                    have GE303 := n6_
                    have NB297_303 := n7_
                    have NB303_297 := n8_
                    have NB298_303 := n9_
                    have NB303_298 := n10_
                    have NB302_303 := n11_
                    have NB303_302 := n12_
                    clear n0_ n1_ n2_ n3_ n4_ n5_ n6_ n7_ n8_ n9_ n10_ n11_ n12_
                    clear hb hbox hg
                    refine hK.out _ _ ⟨(blk_cell BK297.out 0).trans rfl, (blk_cell BK297.out 1).trans rfl, (blk_cell BK297.out 2).trans rfl, (blk_cell BK298.out 0).trans rfl, (blk_cell BK298.out 1).trans rfl, (blk_cell BK298.out 2).trans rfl⟩ (fun hHeld => ?_)
                    clear hK K
                    refine norm_ (a' := ?_) ?_ ?_
                    rotate_left
                    · show Act.put _ (some 10) _ = _
                      simp only [Act.put, List.setIfInBounds_toArray, List.set_cons_zero, List.set_cons_succ]; (try simp only [i64_w]); (try simp only [i32_w])
                      rfl
                    exact norm_ (by simp only [putAll, Act.put, List.setIfInBounds_toArray, List.set_cons_zero, List.set_cons_succ]) (hCont (gb302, gb303) _ ⟨hHeld, (by (with_reducible repeat (first | refine blk_drewN ?_ _ | refine blk_drew ?_ | refine blk_alloc ?_ _)); exact BK297.out), (by (with_reducible repeat (first | refine blk_drewN ?_ _ | refine blk_drew ?_ | refine blk_alloc ?_ _)); exact BK298.out), (by (with_reducible repeat (first | refine blk_drewN ?_ _ | refine blk_drew ?_ | refine blk_alloc ?_ _)); exact BK302.out), (by (with_reducible repeat (first | refine blk_drewN ?_ _ | refine blk_drew ?_ | refine blk_alloc ?_ _)); exact BK303.out), GW302.out, GE302.out, NB297_302.out, NB302_297.out, NB298_302.out, NB302_298.out, NB303_302.out, NB302_303.out, GW303.out, GE303.out, NB297_303.out, NB303_297.out, NB298_303.out, NB303_298.out, (by repeat (first | (with_reducible first | exact HB.out | apply below_alloc | apply pw_below_drewN | apply below_drew1 | refine below_set ?_ GE297.out | refine below_set ?_ GE298.out | refine below_set ?_ GE302.out | refine below_set ?_ GE303.out) | exact HB.out))⟩)
                  · skip
                    refine box_step ?hg (N := 10) ?hd (cs := #[.bool false, .string (⟨#[]⟩ : ByteArray), .int .i64 0]) (t := 23) ?hr ?_; (case hd => rfl); (case hg => rfl); (case hr => first | (go_simp; done) | (go_simp; rfl))
                    intro gb303 hg w62 hbox hb
                    have n0_ := Aside0.mk (blk_below (g := gb297) (o := .cells #[.bool a0_0, .string a0_1, .int .i64 a0_2] 23 (0, 0)) (by (with_reducible repeat (first | refine blk_drewN ?_ _ | refine blk_drew ?_ | refine blk_alloc ?_ _)); exact BK297.out) hb)
                    have n1_ := Aside0.mk (blk_below (g := gb298) (o := .cells #[.bool a1_0, .string a1_1, .int .i64 a1_2] 23 (0, 0)) (by (with_reducible repeat (first | refine blk_drewN ?_ _ | refine blk_drew ?_ | refine blk_alloc ?_ _)); exact BK298.out) hb)
                    have n2_ := Aside0.mk (below_step (by repeat (first | (with_reducible first | exact HB.out | apply below_alloc | apply pw_below_drewN | apply below_drew1 | refine below_set ?_ GE297.out | refine below_set ?_ GE298.out) | exact HB.out)) hb)
                    have n3_ := Aside0.mk (hbox)
                    have n4_ := Aside0.mk ((by rw [hg]; exact (below_size (by repeat (first | (with_reducible first | exact HB.out | apply below_alloc | apply pw_below_drewN | apply below_drew1 | refine below_set ?_ GE297.out | refine below_set ?_ GE298.out) | exact HB.out))) : w.heap.size ≤ gb303))
                    have n5_ := Aside0.mk ((by rw [hg]; exact (below_size (by repeat (first | (with_reducible first | exact HB.out | apply below_alloc | apply pw_below_drewN | apply below_drew1 | refine below_set ?_ GE297.out | refine below_set ?_ GE298.out) | exact HB.out))) : w.heap.size ≤ gb303))
                    have n6_ := Aside0.mk ((by rw [hg]; exact Nat.ne_of_lt (blk_lt (g := gb297) (o := .cells #[.bool a0_0, .string a0_1, .int .i64 a0_2] 23 (0, 0)) (by (with_reducible repeat (first | refine blk_drewN ?_ _ | refine blk_drew ?_ | refine blk_alloc ?_ _)); exact BK297.out)) : gb297 ≠ gb303))
                    have n7_ := Aside0.mk ((by rw [hg]; exact Nat.ne_of_gt (blk_lt (g := gb297) (o := .cells #[.bool a0_0, .string a0_1, .int .i64 a0_2] 23 (0, 0)) (by (with_reducible repeat (first | refine blk_drewN ?_ _ | refine blk_drew ?_ | refine blk_alloc ?_ _)); exact BK297.out)) : gb303 ≠ gb297))
                    have n8_ := Aside0.mk ((by rw [hg]; exact Nat.ne_of_lt (blk_lt (g := gb298) (o := .cells #[.bool a1_0, .string a1_1, .int .i64 a1_2] 23 (0, 0)) (by (with_reducible repeat (first | refine blk_drewN ?_ _ | refine blk_drew ?_ | refine blk_alloc ?_ _)); exact BK298.out)) : gb298 ≠ gb303))
                    have n9_ := Aside0.mk ((by rw [hg]; exact Nat.ne_of_gt (blk_lt (g := gb298) (o := .cells #[.bool a1_0, .string a1_1, .int .i64 a1_2] 23 (0, 0)) (by (with_reducible repeat (first | refine blk_drewN ?_ _ | refine blk_drew ?_ | refine blk_alloc ?_ _)); exact BK298.out)) : gb303 ≠ gb298))
                    clear BK297
                    clear BK298
                    clear HB
                    have BK297 := n0_
                    have BK298 := n1_
                    have HB := n2_
                    have BK303 := n3_
                    have GW303 := n4_
                    have GE303 := n5_
                    have NB297_303 := n6_
                    have NB303_297 := n7_
                    have NB298_303 := n8_
                    have NB303_298 := n9_
                    clear n0_ n1_ n2_ n3_ n4_ n5_ n6_ n7_ n8_ n9_
                    clear hb hbox hg
                    refine hK.out _ _ ⟨(blk_cell BK297.out 0).trans rfl, (blk_cell BK297.out 1).trans rfl, (blk_cell BK297.out 2).trans rfl, (blk_cell BK298.out 0).trans rfl, (blk_cell BK298.out 1).trans rfl, (blk_cell BK298.out 2).trans rfl⟩ (fun hHeld => ?_)
                    clear hK K
                    refine norm_ (a' := ?_) ?_ ?_
                    rotate_left
                    · show Act.put _ (some 10) _ = _
                      simp only [Act.put, List.setIfInBounds_toArray, List.set_cons_zero, List.set_cons_succ]; (try simp only [i64_w]); (try simp only [i32_w])
                      rfl
                    refine one_ (i := 2) (N := some 9) #[true, true, true, true, false, false] rfl rfl (by kernel_rfl) (by decide) (fun K hK => ?_)
                    refine box_step ?hg (N := 9) ?hd (cs := #[.bool false, .string (⟨#[]⟩ : ByteArray), .int .i64 0]) (t := 23) ?hr ?_; (case hd => rfl); (case hg => rfl); (case hr => first | (go_simp; done) | (go_simp; rfl))
                    intro gb302 hg w63 hbox hb
                    have n0_ := Aside0.mk (blk_below (g := gb297) (o := .cells #[.bool a0_0, .string a0_1, .int .i64 a0_2] 23 (0, 0)) (by (with_reducible repeat (first | refine blk_drewN ?_ _ | refine blk_drew ?_ | refine blk_alloc ?_ _)); exact BK297.out) hb)
                    have n1_ := Aside0.mk (blk_below (g := gb298) (o := .cells #[.bool a1_0, .string a1_1, .int .i64 a1_2] 23 (0, 0)) (by (with_reducible repeat (first | refine blk_drewN ?_ _ | refine blk_drew ?_ | refine blk_alloc ?_ _)); exact BK298.out) hb)
                    have n2_ := Aside0.mk (blk_below (g := gb303) (o := .cells #[.bool false, .string (⟨#[]⟩ : ByteArray), .int .i64 0] 23 (0, 0)) (by (with_reducible repeat (first | refine blk_drewN ?_ _ | refine blk_drew ?_ | refine blk_alloc ?_ _)); exact BK303.out) hb)
                    have n3_ := Aside0.mk (below_step (by repeat (first | (with_reducible first | exact HB.out | apply below_alloc | apply pw_below_drewN | apply below_drew1 | refine below_set ?_ GE297.out | refine below_set ?_ GE298.out | refine below_set ?_ GE303.out) | exact HB.out)) hb)
                    have n4_ := Aside0.mk (hbox)
                    have n5_ := Aside0.mk ((by rw [hg]; exact (below_size (by repeat (first | (with_reducible first | exact HB.out | apply below_alloc | apply pw_below_drewN | apply below_drew1 | refine below_set ?_ GE297.out | refine below_set ?_ GE298.out | refine below_set ?_ GE303.out) | exact HB.out))) : w.heap.size ≤ gb302))
                    have n6_ := Aside0.mk ((by rw [hg]; exact (below_size (by repeat (first | (with_reducible first | exact HB.out | apply below_alloc | apply pw_below_drewN | apply below_drew1 | refine below_set ?_ GE297.out | refine below_set ?_ GE298.out | refine below_set ?_ GE303.out) | exact HB.out))) : w.heap.size ≤ gb302))
                    have n7_ := Aside0.mk ((by rw [hg]; exact Nat.ne_of_lt (blk_lt (g := gb297) (o := .cells #[.bool a0_0, .string a0_1, .int .i64 a0_2] 23 (0, 0)) (by (with_reducible repeat (first | refine blk_drewN ?_ _ | refine blk_drew ?_ | refine blk_alloc ?_ _)); exact BK297.out)) : gb297 ≠ gb302))
                    have n8_ := Aside0.mk ((by rw [hg]; exact Nat.ne_of_gt (blk_lt (g := gb297) (o := .cells #[.bool a0_0, .string a0_1, .int .i64 a0_2] 23 (0, 0)) (by (with_reducible repeat (first | refine blk_drewN ?_ _ | refine blk_drew ?_ | refine blk_alloc ?_ _)); exact BK297.out)) : gb302 ≠ gb297))
                    have n9_ := Aside0.mk ((by rw [hg]; exact Nat.ne_of_lt (blk_lt (g := gb298) (o := .cells #[.bool a1_0, .string a1_1, .int .i64 a1_2] 23 (0, 0)) (by (with_reducible repeat (first | refine blk_drewN ?_ _ | refine blk_drew ?_ | refine blk_alloc ?_ _)); exact BK298.out)) : gb298 ≠ gb302))
                    have n10_ := Aside0.mk ((by rw [hg]; exact Nat.ne_of_gt (blk_lt (g := gb298) (o := .cells #[.bool a1_0, .string a1_1, .int .i64 a1_2] 23 (0, 0)) (by (with_reducible repeat (first | refine blk_drewN ?_ _ | refine blk_drew ?_ | refine blk_alloc ?_ _)); exact BK298.out)) : gb302 ≠ gb298))
                    have n11_ := Aside0.mk ((by rw [hg]; exact Nat.ne_of_lt (blk_lt (g := gb303) (o := .cells #[.bool false, .string (⟨#[]⟩ : ByteArray), .int .i64 0] 23 (0, 0)) (by (with_reducible repeat (first | refine blk_drewN ?_ _ | refine blk_drew ?_ | refine blk_alloc ?_ _)); exact BK303.out)) : gb303 ≠ gb302))
                    have n12_ := Aside0.mk ((by rw [hg]; exact Nat.ne_of_gt (blk_lt (g := gb303) (o := .cells #[.bool false, .string (⟨#[]⟩ : ByteArray), .int .i64 0] 23 (0, 0)) (by (with_reducible repeat (first | refine blk_drewN ?_ _ | refine blk_drew ?_ | refine blk_alloc ?_ _)); exact BK303.out)) : gb302 ≠ gb303))
                    clear BK297
                    clear BK298
                    clear BK303
                    clear HB
                    have BK297 := n0_
                    have BK298 := n1_
                    have BK303 := n2_
                    have HB := n3_
                    have BK302 := n4_
                    have GW302 := n5_
                    have GE302 := n6_
                    have NB297_302 := n7_
                    have NB302_297 := n8_
                    have NB298_302 := n9_
                    have NB302_298 := n10_
                    have NB303_302 := n11_
                    have NB302_303 := n12_
                    clear n0_ n1_ n2_ n3_ n4_ n5_ n6_ n7_ n8_ n9_ n10_ n11_ n12_
                    clear hb hbox hg
                    refine hK.out _ _ ⟨(blk_cell BK297.out 0).trans rfl, (blk_cell BK297.out 1).trans rfl, (blk_cell BK297.out 2).trans rfl, (blk_cell BK298.out 0).trans rfl, (blk_cell BK298.out 1).trans rfl, (blk_cell BK298.out 2).trans rfl⟩ (fun hHeld => ?_)
                    clear hK K
                    refine norm_ (a' := ?_) ?_ ?_
                    rotate_left
                    · show Act.put _ (some 9) _ = _
                      simp only [Act.put, List.setIfInBounds_toArray, List.set_cons_zero, List.set_cons_succ]; (try simp only [i64_w]); (try simp only [i32_w])
                      rfl
                    exact norm_ (by simp only [putAll, Act.put, List.setIfInBounds_toArray, List.set_cons_zero, List.set_cons_succ]) (hCont (gb302, gb303) _ ⟨hHeld, (by (with_reducible repeat (first | refine blk_drewN ?_ _ | refine blk_drew ?_ | refine blk_alloc ?_ _)); exact BK297.out), (by (with_reducible repeat (first | refine blk_drewN ?_ _ | refine blk_drew ?_ | refine blk_alloc ?_ _)); exact BK298.out), (by (with_reducible repeat (first | refine blk_drewN ?_ _ | refine blk_drew ?_ | refine blk_alloc ?_ _)); exact BK302.out), (by (with_reducible repeat (first | refine blk_drewN ?_ _ | refine blk_drew ?_ | refine blk_alloc ?_ _)); exact BK303.out), GW302.out, GE302.out, NB297_302.out, NB302_297.out, NB298_302.out, NB302_298.out, NB303_302.out, NB302_303.out, GW303.out, GE303.out, NB297_303.out, NB303_297.out, NB298_303.out, NB303_298.out, (by repeat (first | (with_reducible first | exact HB.out | apply below_alloc | apply pw_below_drewN | apply below_drew1 | refine below_set ?_ GE297.out | refine below_set ?_ GE298.out | refine below_set ?_ GE303.out | refine below_set ?_ GE302.out) | exact HB.out))⟩)
                rintro ⟨gb302, gb303⟩ w64 ⟨hS_, h0_, h1_, h2_, h3_, h4_, h5_, h6_, h7_, h8_, h9_, h10_, h11_, h12_, h13_, h14_, h15_, h16_, h17_, h18_⟩
                have n0_ : Aside0 (w64.heap[gb297]? = some (.cells #[.bool a0_0, .string a0_1, .int .i64 a0_2] 23 (0, 0))) := ⟨h0_⟩
                have n1_ : Aside0 (w64.heap[gb298]? = some (.cells #[.bool a1_0, .string a1_1, .int .i64 a1_2] 23 (0, 0))) := ⟨h1_⟩
                have n2_ : Aside0 (w64.heap[gb302]? = some (.cells #[.bool false, .string (⟨#[]⟩ : ByteArray), .int .i64 0] 23 (0, 0))) := ⟨h2_⟩
                have n3_ : Aside0 (w64.heap[gb303]? = some (.cells #[.bool false, .string (⟨#[]⟩ : ByteArray), .int .i64 0] 23 (0, 0))) := ⟨h3_⟩
                have n4_ : Aside0 (w.heap.size ≤ gb302) := ⟨h4_⟩
                have n5_ : Aside0 (w.heap.size ≤ gb302) := ⟨h5_⟩
                have n6_ : Aside0 (gb297 ≠ gb302) := ⟨h6_⟩
                have n7_ : Aside0 (gb302 ≠ gb297) := ⟨h7_⟩
                have n8_ : Aside0 (gb298 ≠ gb302) := ⟨h8_⟩
                have n9_ : Aside0 (gb302 ≠ gb298) := ⟨h9_⟩
                have n10_ : Aside0 (gb303 ≠ gb302) := ⟨h10_⟩
                have n11_ : Aside0 (gb302 ≠ gb303) := ⟨h11_⟩
                have n12_ : Aside0 (w.heap.size ≤ gb303) := ⟨h12_⟩
                have n13_ : Aside0 (w.heap.size ≤ gb303) := ⟨h13_⟩
                have n14_ : Aside0 (gb297 ≠ gb303) := ⟨h14_⟩
                have n15_ : Aside0 (gb303 ≠ gb297) := ⟨h15_⟩
                have n16_ : Aside0 (gb298 ≠ gb303) := ⟨h16_⟩
                have n17_ : Aside0 (gb303 ≠ gb298) := ⟨h17_⟩
                have n18_ : Aside0 (Below w.heap.size w w64) := ⟨h18_⟩
                clear BK297
                clear BK298
                clear HB
                clear h0_ h1_ h2_ h3_ h4_ h5_ h6_ h7_ h8_ h9_ h10_ h11_ h12_ h13_ h14_ h15_ h16_ h17_ h18_
                have BK297 := n0_
                have BK298 := n1_
                have BK302 := n2_
                have BK303 := n3_
                have GW302 := n4_
                have GE302 := n5_
                have NB297_302 := n6_
                have NB302_297 := n7_
                have NB298_302 := n8_
                have NB302_298 := n9_
                have NB303_302 := n10_
                have NB302_303 := n11_
                have GW303 := n12_
                have GE303 := n13_
                have NB297_303 := n14_
                have NB303_297 := n15_
                have NB298_303 := n16_
                have NB303_298 := n17_
                have HB := n18_
                clear n0_ n1_ n2_ n3_ n4_ n5_ n6_ n7_ n8_ n9_ n10_ n11_ n12_ n13_ n14_ n15_ n16_ n17_ n18_
                have hHeld : w64.cell? ⟨gb297, 0, none⟩ = some (.bool a0_0) ∧ w64.cell? ⟨gb297, 1, none⟩ = some (.string a0_1) ∧ w64.cell? ⟨gb297, 2, none⟩ = some (.int .i64 a0_2) ∧ w64.cell? ⟨gb298, 0, none⟩ = some (.bool a1_0) ∧ w64.cell? ⟨gb298, 1, none⟩ = some (.string a1_1) ∧ w64.cell? ⟨gb298, 2, none⟩ = some (.int .i64 a1_2) := hS_
                refine norm_ (a' := ?_) ?_ ?_
                rotate_left
                · simp only [putAll, Act.put, List.setIfInBounds_toArray, List.set_cons_zero, List.set_cons_succ]
                  rfl
                refine one_ (i := 4) (N := none) #[true, true, true, true, true, false] rfl rfl (by kernel_rfl) (by decide) (fun K hK => ?_)
                have hs65 : w64.cell? ⟨gb302, 0, none⟩ = some (.bool false) := (blk_cell BK302.out 0).trans rfl
                have hfs65 := blk_frozen BK302.out 0
                have hns65_0 := NB297_302.out
                have hns65_1 := NB298_302.out
                have hns65_3 := NB303_302.out
                have hms65_0 := NB302_297.out
                have hms65_1 := NB302_298.out
                have hms65_3 := NB302_303.out
                have hs66 : w64.cell? ⟨gb302, 1, none⟩ = some (.string (⟨#[]⟩ : ByteArray)) := (blk_cell BK302.out 1).trans rfl
                have hfs66 := blk_frozen BK302.out 1
                have hns66_0 := NB297_302.out
                have hns66_1 := NB298_302.out
                have hns66_3 := NB303_302.out
                have hms66_0 := NB302_297.out
                have hms66_1 := NB302_298.out
                have hms66_3 := NB302_303.out
                have hs67 : w64.cell? ⟨gb302, 2, none⟩ = some (.int .i64 0) := (blk_cell BK302.out 2).trans rfl
                have hfs67 := blk_frozen BK302.out 2
                have hns67_0 := NB297_302.out
                have hns67_1 := NB298_302.out
                have hns67_3 := NB303_302.out
                have hms67_0 := NB302_297.out
                have hms67_1 := NB302_298.out
                have hms67_3 := NB302_303.out
                refine skip_ (w1 := ?_) (by rfl) rfl ?_ ?_
                rotate_left
                · go_simp
                  rfl
                refine hK.out _ _ ⟨((cell_far (p := ⟨gb302, _, none⟩) NB297_302.out _).trans (((cell_far (p := ⟨gb302, _, none⟩) NB297_302.out _).trans (((cell_far (p := ⟨gb302, _, none⟩) NB297_302.out _).trans (hHeld.1)))))), ((cell_far (p := ⟨gb302, _, none⟩) NB297_302.out _).trans (((cell_far (p := ⟨gb302, _, none⟩) NB297_302.out _).trans (((cell_far (p := ⟨gb302, _, none⟩) NB297_302.out _).trans (hHeld.2.1)))))), ((cell_far (p := ⟨gb302, _, none⟩) NB297_302.out _).trans (((cell_far (p := ⟨gb302, _, none⟩) NB297_302.out _).trans (((cell_far (p := ⟨gb302, _, none⟩) NB297_302.out _).trans (hHeld.2.2.1)))))), ((cell_far (p := ⟨gb302, _, none⟩) NB298_302.out _).trans (((cell_far (p := ⟨gb302, _, none⟩) NB298_302.out _).trans (((cell_far (p := ⟨gb302, _, none⟩) NB298_302.out _).trans (hHeld.2.2.2.1)))))), ((cell_far (p := ⟨gb302, _, none⟩) NB298_302.out _).trans (((cell_far (p := ⟨gb302, _, none⟩) NB298_302.out _).trans (((cell_far (p := ⟨gb302, _, none⟩) NB298_302.out _).trans (hHeld.2.2.2.2.1)))))), ((cell_far (p := ⟨gb302, _, none⟩) NB298_302.out _).trans (((cell_far (p := ⟨gb302, _, none⟩) NB298_302.out _).trans (((cell_far (p := ⟨gb302, _, none⟩) NB298_302.out _).trans (hHeld.2.2.2.2.2))))))⟩ (fun hHeld => ?_)
                clear hK K
                refine one_ (i := 5) (N := none) #[true, true, true, true, true, true] rfl rfl (by kernel_rfl) (by decide) (fun K hK => ?_)
                have hs68 : w64.cell? ⟨gb303, 0, none⟩ = some (.bool false) := (blk_cell BK303.out 0).trans rfl
                have hfs68 := blk_frozen BK303.out 0
                have hns68_0 := NB297_303.out
                have hns68_1 := NB298_303.out
                have hns68_2 := NB302_303.out
                have hms68_0 := NB303_297.out
                have hms68_1 := NB303_298.out
                have hms68_2 := NB303_302.out
                have hs69 : w64.cell? ⟨gb303, 1, none⟩ = some (.string (⟨#[]⟩ : ByteArray)) := (blk_cell BK303.out 1).trans rfl
                have hfs69 := blk_frozen BK303.out 1
                have hns69_0 := NB297_303.out
                have hns69_1 := NB298_303.out
                have hns69_2 := NB302_303.out
                have hms69_0 := NB303_297.out
                have hms69_1 := NB303_298.out
                have hms69_2 := NB303_302.out
                have hs70 : w64.cell? ⟨gb303, 2, none⟩ = some (.int .i64 0) := (blk_cell BK303.out 2).trans rfl
                have hfs70 := blk_frozen BK303.out 2
                have hns70_0 := NB297_303.out
                have hns70_1 := NB298_303.out
                have hns70_2 := NB302_303.out
                have hms70_0 := NB303_297.out
                have hms70_1 := NB303_298.out
                have hms70_2 := NB303_302.out
                refine skip_ (w1 := ?_) (by rfl) rfl ?_ ?_
                rotate_left
                · go_simp
                  rfl
                refine hK.out _ _ ⟨((cell_far (p := ⟨gb303, _, none⟩) NB297_303.out _).trans (((cell_far (p := ⟨gb303, _, none⟩) NB297_303.out _).trans (((cell_far (p := ⟨gb303, _, none⟩) NB297_303.out _).trans (hHeld.1)))))), ((cell_far (p := ⟨gb303, _, none⟩) NB297_303.out _).trans (((cell_far (p := ⟨gb303, _, none⟩) NB297_303.out _).trans (((cell_far (p := ⟨gb303, _, none⟩) NB297_303.out _).trans (hHeld.2.1)))))), ((cell_far (p := ⟨gb303, _, none⟩) NB297_303.out _).trans (((cell_far (p := ⟨gb303, _, none⟩) NB297_303.out _).trans (((cell_far (p := ⟨gb303, _, none⟩) NB297_303.out _).trans (hHeld.2.2.1)))))), ((cell_far (p := ⟨gb303, _, none⟩) NB298_303.out _).trans (((cell_far (p := ⟨gb303, _, none⟩) NB298_303.out _).trans (((cell_far (p := ⟨gb303, _, none⟩) NB298_303.out _).trans (hHeld.2.2.2.1)))))), ((cell_far (p := ⟨gb303, _, none⟩) NB298_303.out _).trans (((cell_far (p := ⟨gb303, _, none⟩) NB298_303.out _).trans (((cell_far (p := ⟨gb303, _, none⟩) NB298_303.out _).trans (hHeld.2.2.2.2.1)))))), ((cell_far (p := ⟨gb303, _, none⟩) NB298_303.out _).trans (((cell_far (p := ⟨gb303, _, none⟩) NB298_303.out _).trans (((cell_far (p := ⟨gb303, _, none⟩) NB298_303.out _).trans (hHeld.2.2.2.2.2))))))⟩ (fun hHeld => ?_)
                clear hK K
                refine done_ (by kernel_rfl) ?_
                have hnb71 := NB302_297.out
                have hnc71 := NB297_302.out
                have hnb72 := NB302_298.out
                have hnc72 := NB298_302.out
                have hnb73 := NB302_303.out
                have hnc73 := NB303_302.out
                have hcz74_0 : w64.cell? ⟨gb302, 0, none⟩ = some (.bool false) := (blk_cell BK302.out 0).trans rfl
                have hcz74_1 : w64.cell? ⟨gb302, 1, none⟩ = some (.string (⟨#[]⟩ : ByteArray)) := (blk_cell BK302.out 1).trans rfl
                have hcz74_2 : w64.cell? ⟨gb302, 2, none⟩ = some (.int .i64 0) := (blk_cell BK302.out 2).trans rfl
                have hfz74_0 := blk_frozen BK302.out 0
                have hfz74_1 := blk_frozen BK302.out 1
                have hfz74_2 := blk_frozen BK302.out 2
                have hnb75 := NB303_297.out
                have hnc75 := NB297_303.out
                have hnb76 := NB303_298.out
                have hnc76 := NB298_303.out
                have hcz77_0 : w64.cell? ⟨gb303, 0, none⟩ = some (.bool false) := (blk_cell BK303.out 0).trans rfl
                have hcz77_1 : w64.cell? ⟨gb303, 1, none⟩ = some (.string (⟨#[]⟩ : ByteArray)) := (blk_cell BK303.out 1).trans rfl
                have hcz77_2 : w64.cell? ⟨gb303, 2, none⟩ = some (.int .i64 0) := (blk_cell BK303.out 2).trans rfl
                have hfz77_0 := blk_frozen BK303.out 0
                have hfz77_1 := blk_frozen BK303.out 1
                have hfz77_2 := blk_frozen BK303.out 2
                try go_wp2
                go_region
                try go_wp2
                have n0_ : Aside0 ((((((((((w64.setCell ⟨gb302, 0, none⟩ (.bool a0_0)).setCell ⟨gb302, 1, none⟩ (.string a0_1)).setCell ⟨gb302, 2, none⟩ (.int .i64 a0_2)).setCell ⟨gb303, 0, none⟩ (.bool a1_0)).setCell ⟨gb303, 1, none⟩ (.string a1_1)).setCell ⟨gb303, 2, none⟩ (.int .i64 a1_2)).setCell ⟨gb302, 2, none⟩ (.int .i64 (wrap64 (a0_2 + (wrap64 (a2)))))).setCell ⟨gb303, 2, none⟩ (.int .i64 (wrap64 (a1_2 + (wrap64 (a2))))))).drew.heap[gb297]? = some (.cells #[.bool a0_0, .string a0_1, .int .i64 a0_2] 23 (0, 0))) := ⟨by (with_reducible repeat (first | refine blk_drewN ?_ _ | refine blk_drew ?_ | refine blk_alloc ?_ _)); refine blk_far ?_ NB297_303.out _; (with_reducible repeat (first | refine blk_drewN ?_ _ | refine blk_drew ?_ | refine blk_alloc ?_ _)); refine blk_far ?_ NB297_302.out _; (with_reducible repeat (first | refine blk_drewN ?_ _ | refine blk_drew ?_ | refine blk_alloc ?_ _)); refine blk_far ?_ NB297_303.out _; (with_reducible repeat (first | refine blk_drewN ?_ _ | refine blk_drew ?_ | refine blk_alloc ?_ _)); refine blk_far ?_ NB297_303.out _; (with_reducible repeat (first | refine blk_drewN ?_ _ | refine blk_drew ?_ | refine blk_alloc ?_ _)); refine blk_far ?_ NB297_303.out _; (with_reducible repeat (first | refine blk_drewN ?_ _ | refine blk_drew ?_ | refine blk_alloc ?_ _)); refine blk_far ?_ NB297_302.out _; (with_reducible repeat (first | refine blk_drewN ?_ _ | refine blk_drew ?_ | refine blk_alloc ?_ _)); refine blk_far ?_ NB297_302.out _; (with_reducible repeat (first | refine blk_drewN ?_ _ | refine blk_drew ?_ | refine blk_alloc ?_ _)); refine blk_far ?_ NB297_302.out _; (with_reducible repeat (first | refine blk_drewN ?_ _ | refine blk_drew ?_ | refine blk_alloc ?_ _)); exact BK297.out⟩
                have n1_ : Aside0 ((((((((((w64.setCell ⟨gb302, 0, none⟩ (.bool a0_0)).setCell ⟨gb302, 1, none⟩ (.string a0_1)).setCell ⟨gb302, 2, none⟩ (.int .i64 a0_2)).setCell ⟨gb303, 0, none⟩ (.bool a1_0)).setCell ⟨gb303, 1, none⟩ (.string a1_1)).setCell ⟨gb303, 2, none⟩ (.int .i64 a1_2)).setCell ⟨gb302, 2, none⟩ (.int .i64 (wrap64 (a0_2 + (wrap64 (a2)))))).setCell ⟨gb303, 2, none⟩ (.int .i64 (wrap64 (a1_2 + (wrap64 (a2))))))).drew.heap[gb298]? = some (.cells #[.bool a1_0, .string a1_1, .int .i64 a1_2] 23 (0, 0))) := ⟨by (with_reducible repeat (first | refine blk_drewN ?_ _ | refine blk_drew ?_ | refine blk_alloc ?_ _)); refine blk_far ?_ NB298_303.out _; (with_reducible repeat (first | refine blk_drewN ?_ _ | refine blk_drew ?_ | refine blk_alloc ?_ _)); refine blk_far ?_ NB298_302.out _; (with_reducible repeat (first | refine blk_drewN ?_ _ | refine blk_drew ?_ | refine blk_alloc ?_ _)); refine blk_far ?_ NB298_303.out _; (with_reducible repeat (first | refine blk_drewN ?_ _ | refine blk_drew ?_ | refine blk_alloc ?_ _)); refine blk_far ?_ NB298_303.out _; (with_reducible repeat (first | refine blk_drewN ?_ _ | refine blk_drew ?_ | refine blk_alloc ?_ _)); refine blk_far ?_ NB298_303.out _; (with_reducible repeat (first | refine blk_drewN ?_ _ | refine blk_drew ?_ | refine blk_alloc ?_ _)); refine blk_far ?_ NB298_302.out _; (with_reducible repeat (first | refine blk_drewN ?_ _ | refine blk_drew ?_ | refine blk_alloc ?_ _)); refine blk_far ?_ NB298_302.out _; (with_reducible repeat (first | refine blk_drewN ?_ _ | refine blk_drew ?_ | refine blk_alloc ?_ _)); refine blk_far ?_ NB298_302.out _; (with_reducible repeat (first | refine blk_drewN ?_ _ | refine blk_drew ?_ | refine blk_alloc ?_ _)); exact BK298.out⟩
                have n2_ : Aside0 ((((((((((w64.setCell ⟨gb302, 0, none⟩ (.bool a0_0)).setCell ⟨gb302, 1, none⟩ (.string a0_1)).setCell ⟨gb302, 2, none⟩ (.int .i64 a0_2)).setCell ⟨gb303, 0, none⟩ (.bool a1_0)).setCell ⟨gb303, 1, none⟩ (.string a1_1)).setCell ⟨gb303, 2, none⟩ (.int .i64 a1_2)).setCell ⟨gb302, 2, none⟩ (.int .i64 (wrap64 (a0_2 + (wrap64 (a2)))))).setCell ⟨gb303, 2, none⟩ (.int .i64 (wrap64 (a1_2 + (wrap64 (a2))))))).drew.heap[gb302]? = some (.cells #[.bool a0_0, .string a0_1, .int .i64 (wrap64 (a0_2 + (wrap64 (a2))))] 23 (0, 0))) := ⟨by (with_reducible repeat (first | refine blk_drewN ?_ _ | refine blk_drew ?_ | refine blk_alloc ?_ _)); refine blk_far ?_ NB302_303.out _; (with_reducible repeat (first | refine blk_drewN ?_ _ | refine blk_drew ?_ | refine blk_alloc ?_ _)); refine blk_put (cs := #[.bool a0_0, .string a0_1, .int .i64 a0_2]) ?_ 2 _ rfl; (with_reducible repeat (first | refine blk_drewN ?_ _ | refine blk_drew ?_ | refine blk_alloc ?_ _)); refine blk_far ?_ NB302_303.out _; (with_reducible repeat (first | refine blk_drewN ?_ _ | refine blk_drew ?_ | refine blk_alloc ?_ _)); refine blk_far ?_ NB302_303.out _; (with_reducible repeat (first | refine blk_drewN ?_ _ | refine blk_drew ?_ | refine blk_alloc ?_ _)); refine blk_far ?_ NB302_303.out _; (with_reducible repeat (first | refine blk_drewN ?_ _ | refine blk_drew ?_ | refine blk_alloc ?_ _)); refine blk_put (cs := #[.bool a0_0, .string a0_1, .int .i64 0]) ?_ 2 _ rfl; (with_reducible repeat (first | refine blk_drewN ?_ _ | refine blk_drew ?_ | refine blk_alloc ?_ _)); refine blk_put (cs := #[.bool a0_0, .string (⟨#[]⟩ : ByteArray), .int .i64 0]) ?_ 1 _ rfl; (with_reducible repeat (first | refine blk_drewN ?_ _ | refine blk_drew ?_ | refine blk_alloc ?_ _)); refine blk_put (cs := #[.bool false, .string (⟨#[]⟩ : ByteArray), .int .i64 0]) ?_ 0 _ rfl; (with_reducible repeat (first | refine blk_drewN ?_ _ | refine blk_drew ?_ | refine blk_alloc ?_ _)); exact BK302.out⟩
                have n3_ : Aside0 ((((((((((w64.setCell ⟨gb302, 0, none⟩ (.bool a0_0)).setCell ⟨gb302, 1, none⟩ (.string a0_1)).setCell ⟨gb302, 2, none⟩ (.int .i64 a0_2)).setCell ⟨gb303, 0, none⟩ (.bool a1_0)).setCell ⟨gb303, 1, none⟩ (.string a1_1)).setCell ⟨gb303, 2, none⟩ (.int .i64 a1_2)).setCell ⟨gb302, 2, none⟩ (.int .i64 (wrap64 (a0_2 + (wrap64 (a2)))))).setCell ⟨gb303, 2, none⟩ (.int .i64 (wrap64 (a1_2 + (wrap64 (a2))))))).drew.heap[gb303]? = some (.cells #[.bool a1_0, .string a1_1, .int .i64 (wrap64 (a1_2 + (wrap64 (a2))))] 23 (0, 0))) := ⟨by (with_reducible repeat (first | refine blk_drewN ?_ _ | refine blk_drew ?_ | refine blk_alloc ?_ _)); refine blk_put (cs := #[.bool a1_0, .string a1_1, .int .i64 a1_2]) ?_ 2 _ rfl; (with_reducible repeat (first | refine blk_drewN ?_ _ | refine blk_drew ?_ | refine blk_alloc ?_ _)); refine blk_far ?_ NB303_302.out _; (with_reducible repeat (first | refine blk_drewN ?_ _ | refine blk_drew ?_ | refine blk_alloc ?_ _)); refine blk_put (cs := #[.bool a1_0, .string a1_1, .int .i64 0]) ?_ 2 _ rfl; (with_reducible repeat (first | refine blk_drewN ?_ _ | refine blk_drew ?_ | refine blk_alloc ?_ _)); refine blk_put (cs := #[.bool a1_0, .string (⟨#[]⟩ : ByteArray), .int .i64 0]) ?_ 1 _ rfl; (with_reducible repeat (first | refine blk_drewN ?_ _ | refine blk_drew ?_ | refine blk_alloc ?_ _)); refine blk_put (cs := #[.bool false, .string (⟨#[]⟩ : ByteArray), .int .i64 0]) ?_ 0 _ rfl; (with_reducible repeat (first | refine blk_drewN ?_ _ | refine blk_drew ?_ | refine blk_alloc ?_ _)); refine blk_far ?_ NB303_302.out _; (with_reducible repeat (first | refine blk_drewN ?_ _ | refine blk_drew ?_ | refine blk_alloc ?_ _)); refine blk_far ?_ NB303_302.out _; (with_reducible repeat (first | refine blk_drewN ?_ _ | refine blk_drew ?_ | refine blk_alloc ?_ _)); refine blk_far ?_ NB303_302.out _; (with_reducible repeat (first | refine blk_drewN ?_ _ | refine blk_drew ?_ | refine blk_alloc ?_ _)); exact BK303.out⟩
                have n4_ : Aside0 (Below w.heap.size w (((((((((w64.setCell ⟨gb302, 0, none⟩ (.bool a0_0)).setCell ⟨gb302, 1, none⟩ (.string a0_1)).setCell ⟨gb302, 2, none⟩ (.int .i64 a0_2)).setCell ⟨gb303, 0, none⟩ (.bool a1_0)).setCell ⟨gb303, 1, none⟩ (.string a1_1)).setCell ⟨gb303, 2, none⟩ (.int .i64 a1_2)).setCell ⟨gb302, 2, none⟩ (.int .i64 (wrap64 (a0_2 + (wrap64 (a2)))))).setCell ⟨gb303, 2, none⟩ (.int .i64 (wrap64 (a1_2 + (wrap64 (a2))))))).drew) := ⟨by repeat (first | (with_reducible first | exact HB.out | apply below_alloc | apply pw_below_drewN | apply below_drew1 | refine below_set ?_ GE297.out | refine below_set ?_ GE298.out | refine below_set ?_ GE302.out | refine below_set ?_ GE303.out) | exact HB.out)⟩
                (try clear BK297)
                (try clear BK298)
                (try clear BK302)
                (try clear BK303)
                (try clear HB)
                generalize (((((((((w64.setCell ⟨gb302, 0, none⟩ (.bool a0_0)).setCell ⟨gb302, 1, none⟩ (.string a0_1)).setCell ⟨gb302, 2, none⟩ (.int .i64 a0_2)).setCell ⟨gb303, 0, none⟩ (.bool a1_0)).setCell ⟨gb303, 1, none⟩ (.string a1_1)).setCell ⟨gb303, 2, none⟩ (.int .i64 a1_2)).setCell ⟨gb302, 2, none⟩ (.int .i64 (wrap64 (a0_2 + (wrap64 (a2)))))).setCell ⟨gb303, 2, none⟩ (.int .i64 (wrap64 (a1_2 + (wrap64 (a2))))))).drew = w78 at n0_ n1_ n2_ n3_ n4_ ⊢
                have BK297 := n0_
                have BK298 := n1_
                have BK302 := n2_
                have BK303 := n3_
                have HB := n4_
                clear n0_ n1_ n2_ n3_ n4_
                (try (rw [drewN_self w78]; generalize hq_ : World.drewN w78 _ = w78; have n0_ : Aside0 (w78.heap[gb297]? = some (.cells #[.bool a0_0, .string a0_1, .int .i64 a0_2] 23 (0, 0))) := ⟨by rw [← hq_]; exact (by (with_reducible repeat (first | refine blk_drewN ?_ _ | refine blk_drew ?_ | refine blk_alloc ?_ _)); exact BK297.out)⟩; have n1_ : Aside0 (w78.heap[gb298]? = some (.cells #[.bool a1_0, .string a1_1, .int .i64 a1_2] 23 (0, 0))) := ⟨by rw [← hq_]; exact (by (with_reducible repeat (first | refine blk_drewN ?_ _ | refine blk_drew ?_ | refine blk_alloc ?_ _)); exact BK298.out)⟩; have n2_ : Aside0 (w78.heap[gb302]? = some (.cells #[.bool a0_0, .string a0_1, .int .i64 (wrap64 (a0_2 + (wrap64 (a2))))] 23 (0, 0))) := ⟨by rw [← hq_]; exact (by (with_reducible repeat (first | refine blk_drewN ?_ _ | refine blk_drew ?_ | refine blk_alloc ?_ _)); exact BK302.out)⟩; have n3_ : Aside0 (w78.heap[gb303]? = some (.cells #[.bool a1_0, .string a1_1, .int .i64 (wrap64 (a1_2 + (wrap64 (a2))))] 23 (0, 0))) := ⟨by rw [← hq_]; exact (by (with_reducible repeat (first | refine blk_drewN ?_ _ | refine blk_drew ?_ | refine blk_alloc ?_ _)); exact BK303.out)⟩; have n4_ : Aside0 (Below w.heap.size w w78) := ⟨by rw [← hq_]; exact (by repeat (first | (with_reducible first | exact HB.out | apply below_alloc | apply pw_below_drewN | apply below_drew1 | refine below_set ?_ GE297.out | refine below_set ?_ GE298.out | refine below_set ?_ GE302.out | refine below_set ?_ GE303.out) | exact HB.out))⟩; clear BK297 BK298 BK302 BK303 HB hq_; have BK297 := n0_; have BK298 := n1_; have BK302 := n2_; have BK303 := n3_; have HB := n4_; clear n0_ n1_ n2_ n3_ n4_))
                have n0_ := Aside0.mk (blk_drew BK297.out)
                have n1_ := Aside0.mk (blk_drew BK298.out)
                have n2_ := Aside0.mk (blk_drew BK302.out)
                have n3_ := Aside0.mk (blk_drew BK303.out)
                have n4_ := Aside0.mk (below_drew1 HB.out)
                clear BK297
                clear BK298
                clear BK302
                clear BK303
                clear HB
                have BK297 := n0_
                have BK298 := n1_
                have BK302 := n2_
                have BK303 := n3_
                have HB := n4_
                clear n0_ n1_ n2_ n3_ n4_
                refine start_ (n := 39) (S := fun w' => w'.cell? ⟨gb302, 0, none⟩ = some (.bool a0_0) ∧ w'.cell? ⟨gb302, 1, none⟩ = some (.string a0_1) ∧ w'.cell? ⟨gb302, 2, none⟩ = some (.int .i64 (wrap64 (a0_2 + (wrap64 (a2))))) ∧ w'.cell? ⟨gb297, 0, none⟩ = some (.bool a0_0) ∧ w'.cell? ⟨gb297, 1, none⟩ = some (.string a0_1) ∧ w'.cell? ⟨gb297, 2, none⟩ = some (.int .i64 a0_2) ∧ w'.cell? ⟨gb303, 0, none⟩ = some (.bool a1_0) ∧ w'.cell? ⟨gb303, 1, none⟩ = some (.string a1_1) ∧ w'.cell? ⟨gb303, 2, none⟩ = some (.int .i64 (wrap64 (a1_2 + (wrap64 (a2))))) ∧ w'.cell? ⟨gb298, 0, none⟩ = some (.bool a1_0) ∧ w'.cell? ⟨gb298, 1, none⟩ = some (.string a1_1) ∧ w'.cell? ⟨gb298, 2, none⟩ = some (.int .i64 a1_2)) (ds := []) #[false, false, false, false, false, false, false, false, false, false, false, false, false, false, false, false, false, false, false, false, false, false, false, false, false, false, false, false, false, false, false, false, false, false, false, false, false, false, false] (by kernel_rfl) rfl rfl ⟨(blk_cell BK302.out 0).trans rfl, (blk_cell BK302.out 1).trans rfl, (blk_cell BK302.out 2).trans rfl, (blk_cell BK297.out 0).trans rfl, (blk_cell BK297.out 1).trans rfl, (blk_cell BK297.out 2).trans rfl, (blk_cell BK303.out 0).trans rfl, (blk_cell BK303.out 1).trans rfl, (blk_cell BK303.out 2).trans rfl, (blk_cell BK298.out 0).trans rfl, (blk_cell BK298.out 1).trans rfl, (blk_cell BK298.out 2).trans rfl⟩ (fun hHeld => ?_); refine with_tabW figureheadlaw05_DecPlaces.tab5 figureheadlaw05_DecPlaces.bits5 (fun HT_ HW_ => ?_)
                generalize w78.drew = w79 at BK297 BK298 BK302 BK303 HB hHeld ⊢
                refine one_ (i := 0) (N := some 34) #[true, false, false, false, false, false, false, false, false, false, false, false, false, false, false, false, false, false, false, false, false, false, false, false, false, false, false, false, false, false, false, false, false, false, false, false, false, false, false] rfl rfl (one_of HT_.out (by kernel_rfl)) (by decide) (fun K hK => ?_)
                refine goes_ Tryd.func16 (by kernel_rfl) rfl #[] (by rfl) rfl rfl (by (try simp only [List.map_toArray]); (try simp only [List.map_cons]); (try simp only [List.map_nil]); first | done | rfl | (simp only [List.length_drop, List.length_take]; rfl)) ?_
                with_reducible refine (figureheadlaw05_answers.calls kj4  true _ ?side1 ?side2 A22.out).mono ?_
                (case side1 => exact Fig.Glob.below HG.out (by repeat (first | (with_reducible first | exact HB.out | apply below_alloc | apply pw_below_drewN | apply below_drew1 | refine below_set ?_ GE297.out | refine below_set ?_ GE298.out | refine below_set ?_ GE302.out | refine below_set ?_ GE303.out) | exact HB.out)))
                (case side2 => exact ⟨by first | rfl | exact HT.out⟩)
                rintro e w80 ⟨rfl, hb⟩
                refine ⟨_, rfl, ?_⟩
                have n0_ := Aside0.mk (blk_below (g := gb297) (o := .cells #[.bool a0_0, .string a0_1, .int .i64 a0_2] 23 (0, 0)) (by (with_reducible repeat (first | refine blk_drewN ?_ _ | refine blk_drew ?_ | refine blk_alloc ?_ _)); exact BK297.out) hb)
                have n1_ := Aside0.mk (blk_below (g := gb298) (o := .cells #[.bool a1_0, .string a1_1, .int .i64 a1_2] 23 (0, 0)) (by (with_reducible repeat (first | refine blk_drewN ?_ _ | refine blk_drew ?_ | refine blk_alloc ?_ _)); exact BK298.out) hb)
                have n2_ := Aside0.mk (blk_below (g := gb302) (o := .cells #[.bool a0_0, .string a0_1, .int .i64 (wrap64 (a0_2 + (wrap64 (a2))))] 23 (0, 0)) (by (with_reducible repeat (first | refine blk_drewN ?_ _ | refine blk_drew ?_ | refine blk_alloc ?_ _)); exact BK302.out) hb)
                have n3_ := Aside0.mk (blk_below (g := gb303) (o := .cells #[.bool a1_0, .string a1_1, .int .i64 (wrap64 (a1_2 + (wrap64 (a2))))] 23 (0, 0)) (by (with_reducible repeat (first | refine blk_drewN ?_ _ | refine blk_drew ?_ | refine blk_alloc ?_ _)); exact BK303.out) hb)
                have n4_ := Aside0.mk (below_step (by repeat (first | (with_reducible first | exact HB.out | apply below_alloc | apply pw_below_drewN | apply below_drew1 | refine below_set ?_ GE297.out | refine below_set ?_ GE298.out | refine below_set ?_ GE302.out | refine below_set ?_ GE303.out) | exact HB.out)) hb)
                clear BK297
                clear BK298
                clear BK302
                clear BK303
                clear HB
                have BK297 := n0_
                have BK298 := n1_
                have BK302 := n2_
                have BK303 := n3_
                have HB := n4_
                clear n0_ n1_ n2_ n3_ n4_
                (try clear hb)
                (try clear hb2)
                (try clear hk)
                (try clear hi)
                refine hK.out _ _ ⟨(blk_cell BK302.out 0).trans rfl, (blk_cell BK302.out 1).trans rfl, (blk_cell BK302.out 2).trans rfl, (blk_cell BK297.out 0).trans rfl, (blk_cell BK297.out 1).trans rfl, (blk_cell BK297.out 2).trans rfl, (blk_cell BK303.out 0).trans rfl, (blk_cell BK303.out 1).trans rfl, (blk_cell BK303.out 2).trans rfl, (blk_cell BK298.out 0).trans rfl, (blk_cell BK298.out 1).trans rfl, (blk_cell BK298.out 2).trans rfl⟩ (fun hHeld => ?_)
                clear hK K
                refine norm_ (a' := ?_) ?_ ?_
                rotate_left
                · show Act.put _ (some 34) _ = _
                  simp only [Act.put, List.setIfInBounds_toArray, List.set_cons_zero, List.set_cons_succ]; (try simp only [i64_w]); (try simp only [i32_w])
                  rfl
                refine pure_ (i := 1) (N := some 35) (v := ?_) (a' := ?_) #[true, true, false, false, false, false, false, false, false, false, false, false, false, false, false, false, false, false, false, false, false, false, false, false, false, false, false, false, false, false, false, false, false, false, false, false, false, false, false] rfl rfl (any_of HT_.out (by kernel_rfl)) (fun _ _ _ h => h) (Or.inl ⟨by rfl, ?_⟩) ?_ ?_
                rotate_left
                · intro w'
                  go_simp
                  with_reducible rfl
                rotate_left
                · simp only [Act.put, List.setIfInBounds_toArray, List.set_cons_zero, List.set_cons_succ]; (try simp only [i64_w]); (try simp only [i32_w])
                  rfl
                refine pure_ (i := 3) (N := some 37) (v := ?_) (a' := ?_) #[true, true, false, true, false, false, false, false, false, false, false, false, false, false, false, false, false, false, false, false, false, false, false, false, false, false, false, false, false, false, false, false, false, false, false, false, false, false, false] rfl rfl (any_of HT_.out (by kernel_rfl)) (fun _ _ _ h => h) (Or.inl ⟨by rfl, ?_⟩) ?_ ?_
                rotate_left
                · intro w'
                  go_simp
                  with_reducible rfl
                rotate_left
                · simp only [Act.put, List.setIfInBounds_toArray, List.set_cons_zero, List.set_cons_succ]; (try simp only [i64_w]); (try simp only [i32_w])
                  rfl
                refine pure_ (i := 4) (N := some 38) (v := ?_) (a' := ?_) #[true, true, false, true, true, false, false, false, false, false, false, false, false, false, false, false, false, false, false, false, false, false, false, false, false, false, false, false, false, false, false, false, false, false, false, false, false, false, false] rfl rfl (any_of HT_.out (by kernel_rfl)) (fun _ _ _ h => h) (Or.inl ⟨by rfl, ?_⟩) ?_ ?_
                rotate_left
                · intro w'
                  go_simp
                  with_reducible rfl
                rotate_left
                · simp only [Act.put, List.setIfInBounds_toArray, List.set_cons_zero, List.set_cons_succ]; (try simp only [i64_w]); (try simp only [i32_w])
                  rfl
                refine pure_ (i := 5) (N := some 39) (v := ?_) (a' := ?_) #[true, true, false, true, true, true, false, false, false, false, false, false, false, false, false, false, false, false, false, false, false, false, false, false, false, false, false, false, false, false, false, false, false, false, false, false, false, false, false] rfl rfl (any_of HT_.out (by kernel_rfl)) (fun _ _ _ h => h) (Or.inl ⟨by rfl, ?_⟩) ?_ ?_
                rotate_left
                · intro w'
                  go_simp
                  with_reducible rfl
                rotate_left
                · simp only [Act.put, List.setIfInBounds_toArray, List.set_cons_zero, List.set_cons_succ]; (try simp only [i64_w]); (try simp only [i32_w])
                  rfl
                refine pure_ (i := 6) (N := some 40) (v := ?_) (a' := ?_) #[true, true, false, true, true, true, true, false, false, false, false, false, false, false, false, false, false, false, false, false, false, false, false, false, false, false, false, false, false, false, false, false, false, false, false, false, false, false, false] rfl rfl (any_of HT_.out (by kernel_rfl)) (fun _ _ _ h => h) (Or.inl ⟨by rfl, ?_⟩) ?_ ?_
                rotate_left
                · intro w'
                  go_simp
                  with_reducible rfl
                rotate_left
                · simp only [Act.put, List.setIfInBounds_toArray, List.set_cons_zero, List.set_cons_succ]; (try simp only [i64_w]); (try simp only [i32_w])
                  rfl
                refine pure_ (i := 7) (N := some 41) (v := ?_) (a' := ?_) #[true, true, false, true, true, true, true, true, false, false, false, false, false, false, false, false, false, false, false, false, false, false, false, false, false, false, false, false, false, false, false, false, false, false, false, false, false, false, false] rfl rfl (any_of HT_.out (by kernel_rfl)) (fun _ _ _ h => h) (Or.inl ⟨by rfl, ?_⟩) ?_ ?_
                rotate_left
                · intro w'
                  go_simp
                  with_reducible rfl
                rotate_left
                · simp only [Act.put, List.setIfInBounds_toArray, List.set_cons_zero, List.set_cons_succ]; (try simp only [i64_w]); (try simp only [i32_w])
                  rfl
                refine pure_ (i := 10) (N := some 44) (v := ?_) (a' := ?_) #[true, true, false, true, true, true, true, true, false, false, true, false, false, false, false, false, false, false, false, false, false, false, false, false, false, false, false, false, false, false, false, false, false, false, false, false, false, false, false] rfl rfl (any_of HT_.out (by kernel_rfl)) (fun _ _ _ h => h) (Or.inl ⟨by rfl, ?_⟩) ?_ ?_
                rotate_left
                · intro w'
                  go_simp
                  with_reducible rfl
                rotate_left
                · simp only [Act.put, List.setIfInBounds_toArray, List.set_cons_zero, List.set_cons_succ]; (try simp only [i64_w]); (try simp only [i32_w])
                  rfl
                refine pure_ (i := 11) (N := some 45) (v := ?_) (a' := ?_) #[true, true, false, true, true, true, true, true, false, false, true, true, false, false, false, false, false, false, false, false, false, false, false, false, false, false, false, false, false, false, false, false, false, false, false, false, false, false, false] rfl rfl (any_of HT_.out (by kernel_rfl)) (fun _ _ _ h => h) (Or.inl ⟨by rfl, ?_⟩) ?_ ?_
                rotate_left
                · intro w'
                  go_simp
                  with_reducible rfl
                rotate_left
                · simp only [Act.put, List.setIfInBounds_toArray, List.set_cons_zero, List.set_cons_succ]; (try simp only [i64_w]); (try simp only [i32_w])
                  rfl
                refine take_ (i := 2) (N := some 36) (v := ?_) (a' := ?_) #[true, true, true, true, true, true, true, true, false, false, true, true, false, false, false, false, false, false, false, false, false, false, false, false, false, false, false, false, false, false, false, false, false, false, false, false, false, false, false] rfl rfl (take_ofW HT_.out HW_.out (by kernel_rfl)) (fun _ _ _ h => h) (Or.inl ⟨by rfl, ?_⟩) hHeld ?_ ?_
                rotate_left
                · rintro w' ⟨s0, s1, s2, s3, s4, s5, s6, s7, s8, s9, s10, s11⟩
                  go_simp
                  with_reducible rfl
                rotate_left
                · simp only [Act.put, List.setIfInBounds_toArray, List.set_cons_zero, List.set_cons_succ]; (try simp only [i64_w]); (try simp only [i32_w])
                  rfl
                refine take_ (i := 9) (N := some 43) (v := ?_) (a' := ?_) #[true, true, true, true, true, true, true, true, false, true, true, true, false, false, false, false, false, false, false, false, false, false, false, false, false, false, false, false, false, false, false, false, false, false, false, false, false, false, false] rfl rfl (take_ofW HT_.out HW_.out (by kernel_rfl)) (fun _ _ _ h => h) (Or.inl ⟨by rfl, ?_⟩) hHeld ?_ ?_
                rotate_left
                · rintro w' ⟨s0, s1, s2, s3, s4, s5, s6, s7, s8, s9, s10, s11⟩
                  go_simp
                  with_reducible rfl
                rotate_left
                · simp only [Act.put, List.setIfInBounds_toArray, List.set_cons_zero, List.set_cons_succ]; (try simp only [i64_w]); (try simp only [i32_w])
                  rfl
                refine one_ (i := 8) (N := some 42) #[true, true, true, true, true, true, true, true, true, true, true, true, false, false, false, false, false, false, false, false, false, false, false, false, false, false, false, false, false, false, false, false, false, false, false, false, false, false, false] rfl rfl (one_of HT_.out (by kernel_rfl)) (by decide) (fun K hK => ?_)
                refine goes_ Tryd.func27 (by kernel_rfl) rfl #[.agg #[.bool a0_0, .string a0_1, .int .i64 (wrap64 (a0_2 + (wrap64 (a2))))], .int .i64 (wrap64 ((wrap64 (a3)) + (wrap64 (a2))))] (by rfl) rfl rfl (by (try simp only [List.map_toArray]); (try simp only [List.map_cons]); (try simp only [List.map_nil]); first | done | rfl | (simp only [List.length_drop, List.length_take]; rfl)) ?_
                with_reducible refine (dec_Digit.calls a0_0 a0_1 (wrap64 (a0_2 + (wrap64 (a2)))) (wrap64 ((wrap64 (a3)) + (wrap64 (a2)))) t305 _ A24.out).mono ?_
                rintro e w81 ⟨rfl, hb⟩
                refine ⟨_, rfl, ?_⟩
                have n0_ := Aside0.mk (blk_below (g := gb297) (o := .cells #[.bool a0_0, .string a0_1, .int .i64 a0_2] 23 (0, 0)) (by (with_reducible repeat (first | refine blk_drewN ?_ _ | refine blk_drew ?_ | refine blk_alloc ?_ _)); exact BK297.out) hb)
                have n1_ := Aside0.mk (blk_below (g := gb298) (o := .cells #[.bool a1_0, .string a1_1, .int .i64 a1_2] 23 (0, 0)) (by (with_reducible repeat (first | refine blk_drewN ?_ _ | refine blk_drew ?_ | refine blk_alloc ?_ _)); exact BK298.out) hb)
                have n2_ := Aside0.mk (blk_below (g := gb302) (o := .cells #[.bool a0_0, .string a0_1, .int .i64 (wrap64 (a0_2 + (wrap64 (a2))))] 23 (0, 0)) (by (with_reducible repeat (first | refine blk_drewN ?_ _ | refine blk_drew ?_ | refine blk_alloc ?_ _)); exact BK302.out) hb)
                have n3_ := Aside0.mk (blk_below (g := gb303) (o := .cells #[.bool a1_0, .string a1_1, .int .i64 (wrap64 (a1_2 + (wrap64 (a2))))] 23 (0, 0)) (by (with_reducible repeat (first | refine blk_drewN ?_ _ | refine blk_drew ?_ | refine blk_alloc ?_ _)); exact BK303.out) hb)
                have n4_ := Aside0.mk (below_step (by repeat (first | (with_reducible first | exact HB.out | apply below_alloc | apply pw_below_drewN | apply below_drew1 | refine below_set ?_ GE297.out | refine below_set ?_ GE298.out | refine below_set ?_ GE302.out | refine below_set ?_ GE303.out) | exact HB.out)) hb)
                clear BK297
                clear BK298
                clear BK302
                clear BK303
                clear HB
                have BK297 := n0_
                have BK298 := n1_
                have BK302 := n2_
                have BK303 := n3_
                have HB := n4_
                clear n0_ n1_ n2_ n3_ n4_
                (try clear hb)
                (try clear hb2)
                (try clear hk)
                (try clear hi)
                refine hK.out _ _ ⟨(blk_cell BK302.out 0).trans rfl, (blk_cell BK302.out 1).trans rfl, (blk_cell BK302.out 2).trans rfl, (blk_cell BK297.out 0).trans rfl, (blk_cell BK297.out 1).trans rfl, (blk_cell BK297.out 2).trans rfl, (blk_cell BK303.out 0).trans rfl, (blk_cell BK303.out 1).trans rfl, (blk_cell BK303.out 2).trans rfl, (blk_cell BK298.out 0).trans rfl, (blk_cell BK298.out 1).trans rfl, (blk_cell BK298.out 2).trans rfl⟩ (fun hHeld => ?_)
                clear hK K
                refine norm_ (a' := ?_) ?_ ?_
                rotate_left
                · show Act.put _ (some 42) _ = _
                  simp only [Act.put, List.setIfInBounds_toArray, List.set_cons_zero, List.set_cons_succ]; (try simp only [i64_w]); (try simp only [i32_w])
                  rfl
                refine one_ (i := 12) (N := some 46) #[true, true, true, true, true, true, true, true, true, true, true, true, true, false, false, false, false, false, false, false, false, false, false, false, false, false, false, false, false, false, false, false, false, false, false, false, false, false, false] rfl rfl (one_of HT_.out (by kernel_rfl)) (by decide) (fun K hK => ?_)
                refine goes_ Tryd.func27 (by kernel_rfl) rfl #[.agg #[.bool a0_0, .string a0_1, .int .i64 a0_2], .int .i64 (wrap64 (a3))] (by rfl) rfl rfl (by (try simp only [List.map_toArray]); (try simp only [List.map_cons]); (try simp only [List.map_nil]); first | done | rfl | (simp only [List.length_drop, List.length_take]; rfl)) ?_
                with_reducible refine (dec_Digit.calls a0_0 a0_1 a0_2 (wrap64 (a3)) t306 _ A25.out).mono ?_
                rintro e w82 ⟨rfl, hb⟩
                refine ⟨_, rfl, ?_⟩
                have n0_ := Aside0.mk (blk_below (g := gb297) (o := .cells #[.bool a0_0, .string a0_1, .int .i64 a0_2] 23 (0, 0)) (by (with_reducible repeat (first | refine blk_drewN ?_ _ | refine blk_drew ?_ | refine blk_alloc ?_ _)); exact BK297.out) hb)
                have n1_ := Aside0.mk (blk_below (g := gb298) (o := .cells #[.bool a1_0, .string a1_1, .int .i64 a1_2] 23 (0, 0)) (by (with_reducible repeat (first | refine blk_drewN ?_ _ | refine blk_drew ?_ | refine blk_alloc ?_ _)); exact BK298.out) hb)
                have n2_ := Aside0.mk (blk_below (g := gb302) (o := .cells #[.bool a0_0, .string a0_1, .int .i64 (wrap64 (a0_2 + (wrap64 (a2))))] 23 (0, 0)) (by (with_reducible repeat (first | refine blk_drewN ?_ _ | refine blk_drew ?_ | refine blk_alloc ?_ _)); exact BK302.out) hb)
                have n3_ := Aside0.mk (blk_below (g := gb303) (o := .cells #[.bool a1_0, .string a1_1, .int .i64 (wrap64 (a1_2 + (wrap64 (a2))))] 23 (0, 0)) (by (with_reducible repeat (first | refine blk_drewN ?_ _ | refine blk_drew ?_ | refine blk_alloc ?_ _)); exact BK303.out) hb)
                have n4_ := Aside0.mk (below_step (by repeat (first | (with_reducible first | exact HB.out | apply below_alloc | apply pw_below_drewN | apply below_drew1 | refine below_set ?_ GE297.out | refine below_set ?_ GE298.out | refine below_set ?_ GE302.out | refine below_set ?_ GE303.out) | exact HB.out)) hb)
                clear BK297
                clear BK298
                clear BK302
                clear BK303
                clear HB
                have BK297 := n0_
                have BK298 := n1_
                have BK302 := n2_
                have BK303 := n3_
                have HB := n4_
                clear n0_ n1_ n2_ n3_ n4_
                (try clear hb)
                (try clear hb2)
                (try clear hk)
                (try clear hi)
                refine hK.out _ _ ⟨(blk_cell BK302.out 0).trans rfl, (blk_cell BK302.out 1).trans rfl, (blk_cell BK302.out 2).trans rfl, (blk_cell BK297.out 0).trans rfl, (blk_cell BK297.out 1).trans rfl, (blk_cell BK297.out 2).trans rfl, (blk_cell BK303.out 0).trans rfl, (blk_cell BK303.out 1).trans rfl, (blk_cell BK303.out 2).trans rfl, (blk_cell BK298.out 0).trans rfl, (blk_cell BK298.out 1).trans rfl, (blk_cell BK298.out 2).trans rfl⟩ (fun hHeld => ?_)
                clear hK K
                refine norm_ (a' := ?_) ?_ ?_
                rotate_left
                · show Act.put _ (some 46) _ = _
                  simp only [Act.put, List.setIfInBounds_toArray, List.set_cons_zero, List.set_cons_succ]; (try simp only [i64_w]); (try simp only [i32_w])
                  rfl
                refine pure_ (i := 13) (N := some 47) (v := ?_) (a' := ?_) #[true, true, true, true, true, true, true, true, true, true, true, true, true, true, false, false, false, false, false, false, false, false, false, false, false, false, false, false, false, false, false, false, false, false, false, false, false, false, false] rfl rfl (any_of HT_.out (by kernel_rfl)) (fun _ _ _ h => h) (Or.inl ⟨by rfl, ?_⟩) ?_ ?_
                rotate_left
                · intro w'
                  go_simp
                  with_reducible rfl
                rotate_left
                · simp only [Act.put, List.setIfInBounds_toArray, List.set_cons_zero, List.set_cons_succ]; (try simp only [i64_w]); (try simp only [i32_w])
                  rfl
                refine pure_ (i := 14) (N := some 48) (v := ?_) (a' := ?_) #[true, true, true, true, true, true, true, true, true, true, true, true, true, true, true, false, false, false, false, false, false, false, false, false, false, false, false, false, false, false, false, false, false, false, false, false, false, false, false] rfl rfl (any_of HT_.out (by kernel_rfl)) (fun _ _ _ h => h) (Or.inl ⟨by rfl, ?_⟩) ?_ ?_
                rotate_left
                · intro w'
                  go_simp
                  with_reducible rfl
                rotate_left
                · simp only [Act.put, List.setIfInBounds_toArray, List.set_cons_zero, List.set_cons_succ]; (try simp only [i64_w]); (try simp only [i32_w])
                  rfl
                refine pure_ (i := 15) (N := some 49) (v := ?_) (a' := ?_) #[true, true, true, true, true, true, true, true, true, true, true, true, true, true, true, true, false, false, false, false, false, false, false, false, false, false, false, false, false, false, false, false, false, false, false, false, false, false, false] rfl rfl (any_of HT_.out (by kernel_rfl)) (fun _ _ _ h => h) (Or.inl ⟨by rfl, ?_⟩) ?_ ?_
                rotate_left
                · intro w'
                  go_simp
                  with_reducible rfl
                rotate_left
                · simp only [Act.put, List.setIfInBounds_toArray, List.set_cons_zero, List.set_cons_succ]; (try simp only [i64_w]); (try simp only [i32_w])
                  rfl
                refine take_ (i := 16) (N := some 50) (v := ?_) (a' := ?_) #[true, true, true, true, true, true, true, true, true, true, true, true, true, true, true, true, true, false, false, false, false, false, false, false, false, false, false, false, false, false, false, false, false, false, false, false, false, false, false] rfl rfl (take_ofW HT_.out HW_.out (by kernel_rfl)) (fun _ _ _ h => h) (Or.inl ⟨by rfl, ?_⟩) hHeld ?_ ?_
                rotate_left
                · rintro w' ⟨s0, s1, s2, s3, s4, s5, s6, s7, s8, s9, s10, s11⟩
                  go_simp
                  with_reducible rfl
                rotate_left
                · simp only [Act.put, List.setIfInBounds_toArray, List.set_cons_zero, List.set_cons_succ]; (try simp only [i64_w]); (try simp only [i32_w])
                  rfl
                refine one_ (i := 17) (N := some 51) #[true, true, true, true, true, true, true, true, true, true, true, true, true, true, true, true, true, true, false, false, false, false, false, false, false, false, false, false, false, false, false, false, false, false, false, false, false, false, false] rfl rfl (one_of HT_.out (by kernel_rfl)) (by decide) (fun K hK => ?_)
                refine goes_ Tryd.func20 (by kernel_rfl) rfl #[.agg #[.bool a0_0, .string a0_1, .int .i64 a0_2]] (by rfl) rfl rfl (by (try simp only [List.map_toArray]); (try simp only [List.map_cons]); (try simp only [List.map_nil]); first | done | rfl | (simp only [List.length_drop, List.length_take]; rfl)) ?_
                with_reducible refine (dec_Zero.calls a0_0 a0_1 a0_2 false _ A27.out).mono ?_
                rintro e w83 ⟨rfl, hb⟩
                refine ⟨_, rfl, ?_⟩
                have n0_ := Aside0.mk (blk_below (g := gb297) (o := .cells #[.bool a0_0, .string a0_1, .int .i64 a0_2] 23 (0, 0)) (by (with_reducible repeat (first | refine blk_drewN ?_ _ | refine blk_drew ?_ | refine blk_alloc ?_ _)); exact BK297.out) hb)
                have n1_ := Aside0.mk (blk_below (g := gb298) (o := .cells #[.bool a1_0, .string a1_1, .int .i64 a1_2] 23 (0, 0)) (by (with_reducible repeat (first | refine blk_drewN ?_ _ | refine blk_drew ?_ | refine blk_alloc ?_ _)); exact BK298.out) hb)
                have n2_ := Aside0.mk (blk_below (g := gb302) (o := .cells #[.bool a0_0, .string a0_1, .int .i64 (wrap64 (a0_2 + (wrap64 (a2))))] 23 (0, 0)) (by (with_reducible repeat (first | refine blk_drewN ?_ _ | refine blk_drew ?_ | refine blk_alloc ?_ _)); exact BK302.out) hb)
                have n3_ := Aside0.mk (blk_below (g := gb303) (o := .cells #[.bool a1_0, .string a1_1, .int .i64 (wrap64 (a1_2 + (wrap64 (a2))))] 23 (0, 0)) (by (with_reducible repeat (first | refine blk_drewN ?_ _ | refine blk_drew ?_ | refine blk_alloc ?_ _)); exact BK303.out) hb)
                have n4_ := Aside0.mk (below_step (by repeat (first | (with_reducible first | exact HB.out | apply below_alloc | apply pw_below_drewN | apply below_drew1 | refine below_set ?_ GE297.out | refine below_set ?_ GE298.out | refine below_set ?_ GE302.out | refine below_set ?_ GE303.out) | exact HB.out)) hb)
                clear BK297
                clear BK298
                clear BK302
                clear BK303
                clear HB
                have BK297 := n0_
                have BK298 := n1_
                have BK302 := n2_
                have BK303 := n3_
                have HB := n4_
                clear n0_ n1_ n2_ n3_ n4_
                (try clear hb)
                (try clear hb2)
                (try clear hk)
                (try clear hi)
                refine hK.out _ _ ⟨(blk_cell BK302.out 0).trans rfl, (blk_cell BK302.out 1).trans rfl, (blk_cell BK302.out 2).trans rfl, (blk_cell BK297.out 0).trans rfl, (blk_cell BK297.out 1).trans rfl, (blk_cell BK297.out 2).trans rfl, (blk_cell BK303.out 0).trans rfl, (blk_cell BK303.out 1).trans rfl, (blk_cell BK303.out 2).trans rfl, (blk_cell BK298.out 0).trans rfl, (blk_cell BK298.out 1).trans rfl, (blk_cell BK298.out 2).trans rfl⟩ (fun hHeld => ?_)
                clear hK K
                refine norm_ (a' := ?_) ?_ ?_
                rotate_left
                · show Act.put _ (some 51) _ = _
                  simp only [Act.put, List.setIfInBounds_toArray, List.set_cons_zero, List.set_cons_succ]; (try simp only [i64_w]); (try simp only [i32_w])
                  rfl
                refine pure_ (i := 18) (N := some 52) (v := ?_) (a' := ?_) #[true, true, true, true, true, true, true, true, true, true, true, true, true, true, true, true, true, true, true, false, false, false, false, false, false, false, false, false, false, false, false, false, false, false, false, false, false, false, false] rfl rfl (any_of HT_.out (by kernel_rfl)) (fun _ _ _ h => h) (Or.inl ⟨by rfl, ?_⟩) ?_ ?_
                rotate_left
                · intro w'
                  go_simp
                  with_reducible rfl
                rotate_left
                · simp only [Act.put, List.setIfInBounds_toArray, List.set_cons_zero, List.set_cons_succ]; (try simp only [i64_w]); (try simp only [i32_w])
                  rfl
                refine pure_ (i := 23) (N := some 57) (v := ?_) (a' := ?_) #[true, true, true, true, true, true, true, true, true, true, true, true, true, true, true, true, true, true, true, false, false, false, false, true, false, false, false, false, false, false, false, false, false, false, false, false, false, false, false] rfl rfl (any_of HT_.out (by kernel_rfl)) (fun _ _ _ h => h) (Or.inl ⟨by rfl, ?_⟩) ?_ ?_
                rotate_left
                · intro w'
                  go_simp
                  with_reducible rfl
                rotate_left
                · simp only [Act.put, List.setIfInBounds_toArray, List.set_cons_zero, List.set_cons_succ]; (try simp only [i64_w]); (try simp only [i32_w])
                  rfl
                refine pure_ (i := 24) (N := some 58) (v := ?_) (a' := ?_) #[true, true, true, true, true, true, true, true, true, true, true, true, true, true, true, true, true, true, true, false, false, false, false, true, true, false, false, false, false, false, false, false, false, false, false, false, false, false, false] rfl rfl (any_of HT_.out (by kernel_rfl)) (fun _ _ _ h => h) (Or.inl ⟨by rfl, ?_⟩) ?_ ?_
                rotate_left
                · intro w'
                  go_simp
                  with_reducible rfl
                rotate_left
                · simp only [Act.put, List.setIfInBounds_toArray, List.set_cons_zero, List.set_cons_succ]; (try simp only [i64_w]); (try simp only [i32_w])
                  rfl
                refine take_ (i := 19) (N := some 53) (v := ?_) (a' := ?_) #[true, true, true, true, true, true, true, true, true, true, true, true, true, true, true, true, true, true, true, true, false, false, false, true, true, false, false, false, false, false, false, false, false, false, false, false, false, false, false] rfl rfl (take_ofW HT_.out HW_.out (by kernel_rfl)) (fun _ _ _ h => h) (Or.inl ⟨by rfl, ?_⟩) hHeld ?_ ?_
                rotate_left
                · rintro w' ⟨s0, s1, s2, s3, s4, s5, s6, s7, s8, s9, s10, s11⟩
                  go_simp
                  with_reducible rfl
                rotate_left
                · simp only [Act.put, List.setIfInBounds_toArray, List.set_cons_zero, List.set_cons_succ]; (try simp only [i64_w]); (try simp only [i32_w])
                  rfl
                refine take_ (i := 21) (N := some 55) (v := ?_) (a' := ?_) #[true, true, true, true, true, true, true, true, true, true, true, true, true, true, true, true, true, true, true, true, false, true, false, true, true, false, false, false, false, false, false, false, false, false, false, false, false, false, false] rfl rfl (take_ofW HT_.out HW_.out (by kernel_rfl)) (fun _ _ _ h => h) (Or.inl ⟨by rfl, ?_⟩) hHeld ?_ ?_
                rotate_left
                · rintro w' ⟨s0, s1, s2, s3, s4, s5, s6, s7, s8, s9, s10, s11⟩
                  go_simp
                  with_reducible rfl
                rotate_left
                · simp only [Act.put, List.setIfInBounds_toArray, List.set_cons_zero, List.set_cons_succ]; (try simp only [i64_w]); (try simp only [i32_w])
                  rfl
                refine one_ (i := 20) (N := some 54) #[true, true, true, true, true, true, true, true, true, true, true, true, true, true, true, true, true, true, true, true, true, true, false, true, true, false, false, false, false, false, false, false, false, false, false, false, false, false, false] rfl rfl (one_of HT_.out (by kernel_rfl)) (by decide) (fun K hK => ?_)
                refine goes_ Tryd.func25 (by kernel_rfl) rfl #[.agg #[.bool a0_0, .string a0_1, .int .i64 (wrap64 (a0_2 + (wrap64 (a2))))]] (by rfl) rfl rfl (by (try simp only [List.map_toArray]); (try simp only [List.map_cons]); (try simp only [List.map_nil]); first | done | rfl | (simp only [List.length_drop, List.length_take]; rfl)) ?_
                with_reducible refine (dec_Top.calls a0_0 a0_1 (wrap64 (a0_2 + (wrap64 (a2)))) t310 _ A56.out).mono ?_
                rintro e w84 ⟨rfl, hb⟩
                refine ⟨_, rfl, ?_⟩
                have n0_ := Aside0.mk (blk_below (g := gb297) (o := .cells #[.bool a0_0, .string a0_1, .int .i64 a0_2] 23 (0, 0)) (by (with_reducible repeat (first | refine blk_drewN ?_ _ | refine blk_drew ?_ | refine blk_alloc ?_ _)); exact BK297.out) hb)
                have n1_ := Aside0.mk (blk_below (g := gb298) (o := .cells #[.bool a1_0, .string a1_1, .int .i64 a1_2] 23 (0, 0)) (by (with_reducible repeat (first | refine blk_drewN ?_ _ | refine blk_drew ?_ | refine blk_alloc ?_ _)); exact BK298.out) hb)
                have n2_ := Aside0.mk (blk_below (g := gb302) (o := .cells #[.bool a0_0, .string a0_1, .int .i64 (wrap64 (a0_2 + (wrap64 (a2))))] 23 (0, 0)) (by (with_reducible repeat (first | refine blk_drewN ?_ _ | refine blk_drew ?_ | refine blk_alloc ?_ _)); exact BK302.out) hb)
                have n3_ := Aside0.mk (blk_below (g := gb303) (o := .cells #[.bool a1_0, .string a1_1, .int .i64 (wrap64 (a1_2 + (wrap64 (a2))))] 23 (0, 0)) (by (with_reducible repeat (first | refine blk_drewN ?_ _ | refine blk_drew ?_ | refine blk_alloc ?_ _)); exact BK303.out) hb)
                have n4_ := Aside0.mk (below_step (by repeat (first | (with_reducible first | exact HB.out | apply below_alloc | apply pw_below_drewN | apply below_drew1 | refine below_set ?_ GE297.out | refine below_set ?_ GE298.out | refine below_set ?_ GE302.out | refine below_set ?_ GE303.out) | exact HB.out)) hb)
                clear BK297
                clear BK298
                clear BK302
                clear BK303
                clear HB
                have BK297 := n0_
                have BK298 := n1_
                have BK302 := n2_
                have BK303 := n3_
                have HB := n4_
                clear n0_ n1_ n2_ n3_ n4_
                (try clear hb)
                (try clear hb2)
                (try clear hk)
                (try clear hi)
                refine hK.out _ _ ⟨(blk_cell BK302.out 0).trans rfl, (blk_cell BK302.out 1).trans rfl, (blk_cell BK302.out 2).trans rfl, (blk_cell BK297.out 0).trans rfl, (blk_cell BK297.out 1).trans rfl, (blk_cell BK297.out 2).trans rfl, (blk_cell BK303.out 0).trans rfl, (blk_cell BK303.out 1).trans rfl, (blk_cell BK303.out 2).trans rfl, (blk_cell BK298.out 0).trans rfl, (blk_cell BK298.out 1).trans rfl, (blk_cell BK298.out 2).trans rfl⟩ (fun hHeld => ?_)
                clear hK K
                refine norm_ (a' := ?_) ?_ ?_
                rotate_left
                · show Act.put _ (some 54) _ = _
                  simp only [Act.put, List.setIfInBounds_toArray, List.set_cons_zero, List.set_cons_succ]; (try simp only [i64_w]); (try simp only [i32_w])
                  rfl
                refine one_ (i := 22) (N := some 56) #[true, true, true, true, true, true, true, true, true, true, true, true, true, true, true, true, true, true, true, true, true, true, true, true, true, false, false, false, false, false, false, false, false, false, false, false, false, false, false] rfl rfl (one_of HT_.out (by kernel_rfl)) (by decide) (fun K hK => ?_)
                refine goes_ Tryd.func25 (by kernel_rfl) rfl #[.agg #[.bool a0_0, .string a0_1, .int .i64 a0_2]] (by rfl) rfl rfl (by (try simp only [List.map_toArray]); (try simp only [List.map_cons]); (try simp only [List.map_nil]); first | done | rfl | (simp only [List.length_drop, List.length_take]; rfl)) ?_
                with_reducible refine (dec_Top.calls a0_0 a0_1 a0_2 t311 _ A57.out).mono ?_
                rintro e w85 ⟨rfl, hb⟩
                refine ⟨_, rfl, ?_⟩
                have n0_ := Aside0.mk (blk_below (g := gb297) (o := .cells #[.bool a0_0, .string a0_1, .int .i64 a0_2] 23 (0, 0)) (by (with_reducible repeat (first | refine blk_drewN ?_ _ | refine blk_drew ?_ | refine blk_alloc ?_ _)); exact BK297.out) hb)
                have n1_ := Aside0.mk (blk_below (g := gb298) (o := .cells #[.bool a1_0, .string a1_1, .int .i64 a1_2] 23 (0, 0)) (by (with_reducible repeat (first | refine blk_drewN ?_ _ | refine blk_drew ?_ | refine blk_alloc ?_ _)); exact BK298.out) hb)
                have n2_ := Aside0.mk (blk_below (g := gb302) (o := .cells #[.bool a0_0, .string a0_1, .int .i64 (wrap64 (a0_2 + (wrap64 (a2))))] 23 (0, 0)) (by (with_reducible repeat (first | refine blk_drewN ?_ _ | refine blk_drew ?_ | refine blk_alloc ?_ _)); exact BK302.out) hb)
                have n3_ := Aside0.mk (blk_below (g := gb303) (o := .cells #[.bool a1_0, .string a1_1, .int .i64 (wrap64 (a1_2 + (wrap64 (a2))))] 23 (0, 0)) (by (with_reducible repeat (first | refine blk_drewN ?_ _ | refine blk_drew ?_ | refine blk_alloc ?_ _)); exact BK303.out) hb)
                have n4_ := Aside0.mk (below_step (by repeat (first | (with_reducible first | exact HB.out | apply below_alloc | apply pw_below_drewN | apply below_drew1 | refine below_set ?_ GE297.out | refine below_set ?_ GE298.out | refine below_set ?_ GE302.out | refine below_set ?_ GE303.out) | exact HB.out)) hb)
                clear BK297
                clear BK298
                clear BK302
                clear BK303
                clear HB
                have BK297 := n0_
                have BK298 := n1_
                have BK302 := n2_
                have BK303 := n3_
                have HB := n4_
                clear n0_ n1_ n2_ n3_ n4_
                (try clear hb)
                (try clear hb2)
                (try clear hk)
                (try clear hi)
                refine hK.out _ _ ⟨(blk_cell BK302.out 0).trans rfl, (blk_cell BK302.out 1).trans rfl, (blk_cell BK302.out 2).trans rfl, (blk_cell BK297.out 0).trans rfl, (blk_cell BK297.out 1).trans rfl, (blk_cell BK297.out 2).trans rfl, (blk_cell BK303.out 0).trans rfl, (blk_cell BK303.out 1).trans rfl, (blk_cell BK303.out 2).trans rfl, (blk_cell BK298.out 0).trans rfl, (blk_cell BK298.out 1).trans rfl, (blk_cell BK298.out 2).trans rfl⟩ (fun hHeld => ?_)
                clear hK K
                refine norm_ (a' := ?_) ?_ ?_
                rotate_left
                · show Act.put _ (some 56) _ = _
                  simp only [Act.put, List.setIfInBounds_toArray, List.set_cons_zero, List.set_cons_succ]; (try simp only [i64_w]); (try simp only [i32_w])
                  rfl
                refine pure_ (i := 25) (N := some 59) (v := ?_) (a' := ?_) #[true, true, true, true, true, true, true, true, true, true, true, true, true, true, true, true, true, true, true, true, true, true, true, true, true, true, false, false, false, false, false, false, false, false, false, false, false, false, false] rfl rfl (any_of HT_.out (by kernel_rfl)) (fun _ _ _ h => h) (Or.inl ⟨by rfl, ?_⟩) ?_ ?_
                rotate_left
                · intro w'
                  go_simp
                  with_reducible rfl
                rotate_left
                · simp only [Act.put, List.setIfInBounds_toArray, List.set_cons_zero, List.set_cons_succ]; (try simp only [i64_w]); (try simp only [i32_w])
                  rfl
                refine pure_ (i := 26) (N := some 60) (v := ?_) (a' := ?_) #[true, true, true, true, true, true, true, true, true, true, true, true, true, true, true, true, true, true, true, true, true, true, true, true, true, true, true, false, false, false, false, false, false, false, false, false, false, false, false] rfl rfl (any_of HT_.out (by kernel_rfl)) (fun _ _ _ h => h) (Or.inl ⟨by rfl, ?_⟩) ?_ ?_
                rotate_left
                · intro w'
                  go_simp
                  with_reducible rfl
                rotate_left
                · simp only [Act.put, List.setIfInBounds_toArray, List.set_cons_zero, List.set_cons_succ]; (try simp only [i64_w]); (try simp only [i32_w])
                  rfl
                refine pure_ (i := 27) (N := some 61) (v := ?_) (a' := ?_) #[true, true, true, true, true, true, true, true, true, true, true, true, true, true, true, true, true, true, true, true, true, true, true, true, true, true, true, true, false, false, false, false, false, false, false, false, false, false, false] rfl rfl (any_of HT_.out (by kernel_rfl)) (fun _ _ _ h => h) (Or.inl ⟨by rfl, ?_⟩) ?_ ?_
                rotate_left
                · intro w'
                  go_simp
                  with_reducible rfl
                rotate_left
                · simp only [Act.put, List.setIfInBounds_toArray, List.set_cons_zero, List.set_cons_succ]; (try simp only [i64_w]); (try simp only [i32_w])
                  rfl
                refine pure_ (i := 28) (N := some 62) (v := ?_) (a' := ?_) #[true, true, true, true, true, true, true, true, true, true, true, true, true, true, true, true, true, true, true, true, true, true, true, true, true, true, true, true, true, false, false, false, false, false, false, false, false, false, false] rfl rfl (any_of HT_.out (by kernel_rfl)) (fun _ _ _ h => h) (Or.inl ⟨by rfl, ?_⟩) ?_ ?_
                rotate_left
                · intro w'
                  go_simp
                  with_reducible rfl
                rotate_left
                · simp only [Act.put, List.setIfInBounds_toArray, List.set_cons_zero, List.set_cons_succ]; (try simp only [i64_w]); (try simp only [i32_w])
                  rfl
                refine pure_ (i := 29) (N := some 63) (v := ?_) (a' := ?_) #[true, true, true, true, true, true, true, true, true, true, true, true, true, true, true, true, true, true, true, true, true, true, true, true, true, true, true, true, true, true, false, false, false, false, false, false, false, false, false] rfl rfl (any_of HT_.out (by kernel_rfl)) (fun _ _ _ h => h) (Or.inl ⟨by rfl, ?_⟩) ?_ ?_
                rotate_left
                · intro w'
                  go_simp
                  with_reducible rfl
                rotate_left
                · simp only [Act.put, List.setIfInBounds_toArray, List.set_cons_zero, List.set_cons_succ]; (try simp only [i64_w]); (try simp only [i32_w])
                  rfl
                refine take_ (i := 30) (N := some 64) (v := ?_) (a' := ?_) #[true, true, true, true, true, true, true, true, true, true, true, true, true, true, true, true, true, true, true, true, true, true, true, true, true, true, true, true, true, true, true, false, false, false, false, false, false, false, false] rfl rfl (take_ofW HT_.out HW_.out (by kernel_rfl)) (fun _ _ _ h => h) (Or.inl ⟨by rfl, ?_⟩) hHeld ?_ ?_
                rotate_left
                · rintro w' ⟨s0, s1, s2, s3, s4, s5, s6, s7, s8, s9, s10, s11⟩
                  go_simp
                  with_reducible rfl
                rotate_left
                · simp only [Act.put, List.setIfInBounds_toArray, List.set_cons_zero, List.set_cons_succ]; (try simp only [i64_w]); (try simp only [i32_w])
                  rfl
                refine take_ (i := 31) (N := some 65) (v := ?_) (a' := ?_) #[true, true, true, true, true, true, true, true, true, true, true, true, true, true, true, true, true, true, true, true, true, true, true, true, true, true, true, true, true, true, true, true, false, false, false, false, false, false, false] rfl rfl (take_ofW HT_.out HW_.out (by kernel_rfl)) (fun _ _ _ h => h) (Or.inl ⟨by rfl, ?_⟩) hHeld ?_ ?_
                rotate_left
                · rintro w' ⟨s0, s1, s2, s3, s4, s5, s6, s7, s8, s9, s10, s11⟩
                  go_simp
                  with_reducible rfl
                rotate_left
                · simp only [Act.put, List.setIfInBounds_toArray, List.set_cons_zero, List.set_cons_succ]; (try simp only [i64_w]); (try simp only [i32_w])
                  rfl
                refine take_ (i := 33) (N := some 67) (v := ?_) (a' := ?_) #[true, true, true, true, true, true, true, true, true, true, true, true, true, true, true, true, true, true, true, true, true, true, true, true, true, true, true, true, true, true, true, true, false, true, false, false, false, false, false] rfl rfl (take_ofW HT_.out HW_.out (by kernel_rfl)) (fun _ _ _ h => h) (Or.inl ⟨by rfl, ?_⟩) hHeld ?_ ?_
                rotate_left
                · rintro w' ⟨s0, s1, s2, s3, s4, s5, s6, s7, s8, s9, s10, s11⟩
                  go_simp
                  with_reducible rfl
                rotate_left
                · simp only [Act.put, List.setIfInBounds_toArray, List.set_cons_zero, List.set_cons_succ]; (try simp only [i64_w]); (try simp only [i32_w])
                  rfl
                refine take_ (i := 34) (N := some 68) (v := ?_) (a' := ?_) #[true, true, true, true, true, true, true, true, true, true, true, true, true, true, true, true, true, true, true, true, true, true, true, true, true, true, true, true, true, true, true, true, false, true, true, false, false, false, false] rfl rfl (take_ofW HT_.out HW_.out (by kernel_rfl)) (fun _ _ _ h => h) (Or.inl ⟨by rfl, ?_⟩) hHeld ?_ ?_
                rotate_left
                · rintro w' ⟨s0, s1, s2, s3, s4, s5, s6, s7, s8, s9, s10, s11⟩
                  go_simp
                  with_reducible rfl
                rotate_left
                · simp only [Act.put, List.setIfInBounds_toArray, List.set_cons_zero, List.set_cons_succ]; (try simp only [i64_w]); (try simp only [i32_w])
                  rfl
                refine one_ (i := 32) (N := some 66) #[true, true, true, true, true, true, true, true, true, true, true, true, true, true, true, true, true, true, true, true, true, true, true, true, true, true, true, true, true, true, true, true, true, true, true, false, false, false, false] rfl rfl (one_of HT_.out (by kernel_rfl)) (by decide) (fun K hK => ?_)
                refine goes_ Tryd.func28 (by kernel_rfl) rfl #[.agg #[.bool a0_0, .string a0_1, .int .i64 (wrap64 (a0_2 + (wrap64 (a2))))], .agg #[.bool a1_0, .string a1_1, .int .i64 (wrap64 (a1_2 + (wrap64 (a2))))]] (by rfl) rfl rfl (by (try simp only [List.map_toArray]); (try simp only [List.map_cons]); (try simp only [List.map_nil]); first | done | rfl | (simp only [List.length_drop, List.length_take]; rfl)) ?_
                with_reducible refine (dec_Cmp.calls kj4 a0_0 a0_1 (wrap64 (a0_2 + (wrap64 (a2)))) a1_0 a1_1 (wrap64 (a1_2 + (wrap64 (a2)))) t312 _ ?side1 A59.out).mono ?_
                (case side1 => exact Fig.Glob.below HG.out (by repeat (first | (with_reducible first | exact HB.out | apply below_alloc | apply pw_below_drewN | apply below_drew1 | refine below_set ?_ GE297.out | refine below_set ?_ GE298.out | refine below_set ?_ GE302.out | refine below_set ?_ GE303.out) | exact HB.out)))
                rintro e w86 ⟨rfl, hb⟩
                refine ⟨_, rfl, ?_⟩
                have n0_ := Aside0.mk (blk_below (g := gb297) (o := .cells #[.bool a0_0, .string a0_1, .int .i64 a0_2] 23 (0, 0)) (by (with_reducible repeat (first | refine blk_drewN ?_ _ | refine blk_drew ?_ | refine blk_alloc ?_ _)); exact BK297.out) hb)
                have n1_ := Aside0.mk (blk_below (g := gb298) (o := .cells #[.bool a1_0, .string a1_1, .int .i64 a1_2] 23 (0, 0)) (by (with_reducible repeat (first | refine blk_drewN ?_ _ | refine blk_drew ?_ | refine blk_alloc ?_ _)); exact BK298.out) hb)
                have n2_ := Aside0.mk (blk_below (g := gb302) (o := .cells #[.bool a0_0, .string a0_1, .int .i64 (wrap64 (a0_2 + (wrap64 (a2))))] 23 (0, 0)) (by (with_reducible repeat (first | refine blk_drewN ?_ _ | refine blk_drew ?_ | refine blk_alloc ?_ _)); exact BK302.out) hb)
                have n3_ := Aside0.mk (blk_below (g := gb303) (o := .cells #[.bool a1_0, .string a1_1, .int .i64 (wrap64 (a1_2 + (wrap64 (a2))))] 23 (0, 0)) (by (with_reducible repeat (first | refine blk_drewN ?_ _ | refine blk_drew ?_ | refine blk_alloc ?_ _)); exact BK303.out) hb)
                have n4_ := Aside0.mk (below_step (by repeat (first | (with_reducible first | exact HB.out | apply below_alloc | apply pw_below_drewN | apply below_drew1 | refine below_set ?_ GE297.out | refine below_set ?_ GE298.out | refine below_set ?_ GE302.out | refine below_set ?_ GE303.out) | exact HB.out)) hb)
                clear BK297
                clear BK298
                clear BK302
                clear BK303
                clear HB
                have BK297 := n0_
                have BK298 := n1_
                have BK302 := n2_
                have BK303 := n3_
                have HB := n4_
                clear n0_ n1_ n2_ n3_ n4_
                (try clear hb)
                (try clear hb2)
                (try clear hk)
                (try clear hi)
                refine hK.out _ _ ⟨(blk_cell BK302.out 0).trans rfl, (blk_cell BK302.out 1).trans rfl, (blk_cell BK302.out 2).trans rfl, (blk_cell BK297.out 0).trans rfl, (blk_cell BK297.out 1).trans rfl, (blk_cell BK297.out 2).trans rfl, (blk_cell BK303.out 0).trans rfl, (blk_cell BK303.out 1).trans rfl, (blk_cell BK303.out 2).trans rfl, (blk_cell BK298.out 0).trans rfl, (blk_cell BK298.out 1).trans rfl, (blk_cell BK298.out 2).trans rfl⟩ (fun hHeld => ?_)
                clear hK K
                refine norm_ (a' := ?_) ?_ ?_
                rotate_left
                · show Act.put _ (some 66) _ = _
                  simp only [Act.put, List.setIfInBounds_toArray, List.set_cons_zero, List.set_cons_succ]; (try simp only [i64_w]); (try simp only [i32_w])
                  rfl
                refine one_ (i := 35) (N := some 69) #[true, true, true, true, true, true, true, true, true, true, true, true, true, true, true, true, true, true, true, true, true, true, true, true, true, true, true, true, true, true, true, true, true, true, true, true, false, false, false] rfl rfl (one_of HT_.out (by kernel_rfl)) (by decide) (fun K hK => ?_)
                refine goes_ Tryd.func28 (by kernel_rfl) rfl #[.agg #[.bool a0_0, .string a0_1, .int .i64 a0_2], .agg #[.bool a1_0, .string a1_1, .int .i64 a1_2]] (by rfl) rfl rfl (by (try simp only [List.map_toArray]); (try simp only [List.map_cons]); (try simp only [List.map_nil]); first | done | rfl | (simp only [List.length_drop, List.length_take]; rfl)) ?_
                with_reducible refine (dec_Cmp.calls kj4 a0_0 a0_1 a0_2 a1_0 a1_1 a1_2 t313 _ ?side1 A60.out).mono ?_
                (case side1 => exact Fig.Glob.below HG.out (by repeat (first | (with_reducible first | exact HB.out | apply below_alloc | apply pw_below_drewN | apply below_drew1 | refine below_set ?_ GE297.out | refine below_set ?_ GE298.out | refine below_set ?_ GE302.out | refine below_set ?_ GE303.out) | exact HB.out)))
                rintro e w87 ⟨rfl, hb⟩
                refine ⟨_, rfl, ?_⟩
                have n0_ := Aside0.mk (blk_below (g := gb297) (o := .cells #[.bool a0_0, .string a0_1, .int .i64 a0_2] 23 (0, 0)) (by (with_reducible repeat (first | refine blk_drewN ?_ _ | refine blk_drew ?_ | refine blk_alloc ?_ _)); exact BK297.out) hb)
                have n1_ := Aside0.mk (blk_below (g := gb298) (o := .cells #[.bool a1_0, .string a1_1, .int .i64 a1_2] 23 (0, 0)) (by (with_reducible repeat (first | refine blk_drewN ?_ _ | refine blk_drew ?_ | refine blk_alloc ?_ _)); exact BK298.out) hb)
                have n2_ := Aside0.mk (blk_below (g := gb302) (o := .cells #[.bool a0_0, .string a0_1, .int .i64 (wrap64 (a0_2 + (wrap64 (a2))))] 23 (0, 0)) (by (with_reducible repeat (first | refine blk_drewN ?_ _ | refine blk_drew ?_ | refine blk_alloc ?_ _)); exact BK302.out) hb)
                have n3_ := Aside0.mk (blk_below (g := gb303) (o := .cells #[.bool a1_0, .string a1_1, .int .i64 (wrap64 (a1_2 + (wrap64 (a2))))] 23 (0, 0)) (by (with_reducible repeat (first | refine blk_drewN ?_ _ | refine blk_drew ?_ | refine blk_alloc ?_ _)); exact BK303.out) hb)
                have n4_ := Aside0.mk (below_step (by repeat (first | (with_reducible first | exact HB.out | apply below_alloc | apply pw_below_drewN | apply below_drew1 | refine below_set ?_ GE297.out | refine below_set ?_ GE298.out | refine below_set ?_ GE302.out | refine below_set ?_ GE303.out) | exact HB.out)) hb)
                clear BK297
                clear BK298
                clear BK302
                clear BK303
                clear HB
                have BK297 := n0_
                have BK298 := n1_
                have BK302 := n2_
                have BK303 := n3_
                have HB := n4_
                clear n0_ n1_ n2_ n3_ n4_
                (try clear hb)
                (try clear hb2)
                (try clear hk)
                (try clear hi)
                refine hK.out _ _ ⟨(blk_cell BK302.out 0).trans rfl, (blk_cell BK302.out 1).trans rfl, (blk_cell BK302.out 2).trans rfl, (blk_cell BK297.out 0).trans rfl, (blk_cell BK297.out 1).trans rfl, (blk_cell BK297.out 2).trans rfl, (blk_cell BK303.out 0).trans rfl, (blk_cell BK303.out 1).trans rfl, (blk_cell BK303.out 2).trans rfl, (blk_cell BK298.out 0).trans rfl, (blk_cell BK298.out 1).trans rfl, (blk_cell BK298.out 2).trans rfl⟩ (fun hHeld => ?_)
                clear hK K
                refine norm_ (a' := ?_) ?_ ?_
                rotate_left
                · show Act.put _ (some 69) _ = _
                  simp only [Act.put, List.setIfInBounds_toArray, List.set_cons_zero, List.set_cons_succ]; (try simp only [i64_w]); (try simp only [i32_w])
                  rfl
                refine pure_ (i := 36) (N := some 70) (v := ?_) (a' := ?_) #[true, true, true, true, true, true, true, true, true, true, true, true, true, true, true, true, true, true, true, true, true, true, true, true, true, true, true, true, true, true, true, true, true, true, true, true, true, false, false] rfl rfl (any_of HT_.out (by kernel_rfl)) (fun _ _ _ h => h) (Or.inl ⟨by rfl, ?_⟩) ?_ ?_
                rotate_left
                · intro w'
                  go_simp
                  with_reducible rfl
                rotate_left
                · simp only [Act.put, List.setIfInBounds_toArray, List.set_cons_zero, List.set_cons_succ]; (try simp only [i64_w]); (try simp only [i32_w])
                  rfl
                refine pure_ (i := 37) (N := some 71) (v := ?_) (a' := ?_) #[true, true, true, true, true, true, true, true, true, true, true, true, true, true, true, true, true, true, true, true, true, true, true, true, true, true, true, true, true, true, true, true, true, true, true, true, true, true, false] rfl rfl (any_of HT_.out (by kernel_rfl)) (fun _ _ _ h => h) (Or.inl ⟨by rfl, ?_⟩) ?_ ?_
                rotate_left
                · intro w'
                  go_simp
                  with_reducible rfl
                rotate_left
                · simp only [Act.put, List.setIfInBounds_toArray, List.set_cons_zero, List.set_cons_succ]; (try simp only [i64_w]); (try simp only [i32_w])
                  rfl
                refine pure_ (i := 38) (N := some 8) (v := ?_) (a' := ?_) #[true, true, true, true, true, true, true, true, true, true, true, true, true, true, true, true, true, true, true, true, true, true, true, true, true, true, true, true, true, true, true, true, true, true, true, true, true, true, true] rfl rfl (any_of HT_.out (by kernel_rfl)) (fun _ _ _ h => h) (Or.inl ⟨by rfl, ?_⟩) ?_ ?_
                rotate_left
                · intro w'
                  go_simp
                  with_reducible rfl
                rotate_left
                · simp only [Act.put, List.setIfInBounds_toArray, List.set_cons_zero, List.set_cons_succ]; (try simp only [i64_w]); (try simp only [i32_w])
                  rfl
                refine done_ (done_of HT_.out (by kernel_rfl)) ?_
                try go_wp2
                go_ret
                exact ⟨by first | rfl | (simp [errW_none, errW_some] <;> rfl) | (simp [*, errW_none, errW_some] <;> rfl), by repeat (first | (with_reducible first | exact HB.out | apply below_alloc | apply pw_below_drewN | apply below_drew1 | refine below_set ?_ GE297.out | refine below_set ?_ GE298.out | refine below_set ?_ GE302.out | refine below_set ?_ GE303.out) | exact HB.out)⟩
              · rw [if_neg c58] at H
                have c58b0 : (t310 == (wrap64 (t311 + (wrap64 (a2))))) = false := beq_eq_false_iff_ne.mpr c58
                have c58b1 : (t310 != (wrap64 (t311 + (wrap64 (a2))))) = true := bne_iff_ne.mpr c58
                exact absurd ((Option.some.inj H).trans HT.out) (by decide)
          · rw [if_neg c26] at H
            have c26b0 : (t305 == t306) = false := beq_eq_false_iff_ne.mpr c26
            have c26b1 : (t305 != t306) = true := bne_iff_ne.mpr c26
            exact absurd ((Option.some.inj H).trans HT.out) (by decide)
        · replace c23 := Bool.eq_false_iff.mpr c23
          subst c23
          have H1 : (some false) = some r := by rw [if_neg (show ¬ (false = true) by decide)] at H; exact H
          clear H
          have H := H1
          clear H1
          exact absurd ((Option.some.inj H).trans HT.out) (by decide)
end Go.Proofs.YtbjaiphfehnncaaDoor.Px
end
section
namespace Go.Proofs.YtbjaiphfehnncaaDoor.Px
open Fig Go.RowKit Go.Proofs.YtbjaiphfehnncaaDoorW.PrintWords Go.Proofs.YtbjaiphfehnncaaDoorW.PrintLast Go.Proofs.YtbjaiphfehnncaaDoorW.PrintMore
attribute [local go_sem] max2_int min2_int max_two min_two max_three min_three max_four min_four   -- for this text's walks alone
attribute [local go_sem] fieldA23_0 fieldA23_1 fieldA23_2
theorem Digits_loop (s : ByteArray) (hs : s.size ≤ 4611686018427387904) : ∀ (d n : Nat), s.size - n = d → n ≤ s.size → Ev (fun k => figureheadref05_Digits.l0 k s (n : Int)) (digL (s.data.toList.drop n) && decide (s.size ≠ 0))
  | 0, n, hd, hn => by
    refine evDone (r' := (s.toList != ([] : List UInt8))) (fun k => ?_) ?_
    · simp only [figureheadref05_Digits.l0]; rw [if_neg (by omega)]
    · rw [List.drop_of_length_le (by rw [← size_eq]; omega), bne_nil, ByteArray.toList_eq, size_eq]
      cases s.data.toList <;> simp [digL]
  | d + 1, n, hd, hn => by
    have hlt : n < s.size := by omega
    have hbt := bt_get hlt
    have hc := List.drop_eq_getElem_cons (l := s.data.toList) (i := n) (by rw [← size_eq]; exact hlt)
    rw [hc]
    generalize hx : s.data.toList[n]'(by rw [← size_eq]; exact hlt) = c at hbt
    by_cases h1 : c.toNat < 48
    · refine evDone (r' := false) (fun k => ?_) ?_
      · simp only [figureheadref05_Digits.l0]; rw [if_pos (by omega), if_pos (by omega), hbt, if_pos (by omega)]
      · have : isD c = false := by unfold isD; simp; omega
        simp [digL, this]
    · by_cases h2 : c.toNat > 57
      · refine evDone (r' := false) (fun k => ?_) ?_
        · simp only [figureheadref05_Digits.l0]; rw [if_pos (by omega), if_pos (by omega), hbt, if_neg (by omega), if_pos (by omega)]
        · have : isD c = false := by unfold isD; simp; omega
          simp [digL, this]
      · have hd1 : isD c = true := isD_iff.2 ⟨by omega, by omega⟩
        refine evIs (Ev.step (f := fun k => figureheadref05_Digits.l0 k s ((n + 1 : Nat) : Int)) (fun k => ?_) (Digits_loop s hs d (n + 1) (by omega) (by omega))) ?_
        · simp only [figureheadref05_Digits.l0]; rw [if_pos (by omega), if_pos (by omega), hbt, if_neg (by omega), if_neg (by omega), succ64 _ (by omega)]
        · simp [digL, hd1]
theorem Digits05_ev {s : ByteArray} (hs : s.size ≤ 4611686018427387904) : Ev (fun k => figureheadref05_Digits.f k s) (dB s && decide (s.size ≠ 0)) := by
  have := Digits_loop s hs s.size 0 (by omega) (by omega)
  rw [List.drop_zero] at this
  exact this
end Go.Proofs.YtbjaiphfehnncaaDoor.Px
end
section
namespace Go.Proofs.YtbjaiphfehnncaaDoor.Px
open Fig Go.RowKit Go.Proofs.YtbjaiphfehnncaaDoorW.PrintWords Go.Proofs.YtbjaiphfehnncaaDoorW.PrintLast Go.Proofs.YtbjaiphfehnncaaDoorW.PrintMore
attribute [local go_sem] max2_int min2_int max_two min_two max_three min_three max_four min_four   -- for this text's walks alone
attribute [local go_sem] fieldA23_0 fieldA23_1 fieldA23_2
theorem Good05_ev {b : Bool} {s : ByteArray} {e : Int} (hs : s.size ≤ 4611686018427387904) : Ev (fun k => figureheadref05_Good.f k b s e) (goodD s e) := by
  unfold figureheadref05_Good.f
  refine Ev.bind (Digits05_ev hs) ?_
  unfold goodD
  cases hd : (dB s && decide (s.size ≠ 0))
  · simp only [Bool.false_eq_true, if_false, Bool.false_and]
    exact Ev.now _
  · simp only [if_true, Bool.true_and]
    by_cases h1 : s.size ≤ 1000
    · have h1' : (s.size : Int) ≤ 1000 := by omega
      simp only [h1', h1, if_true, decide_true, Bool.true_and]
      by_cases h2 : e ≥ -1000
      · have h2' : -1000 ≤ e := h2
        simp only [h2, h2', if_true, decide_true, Bool.true_and]
        exact Ev.now _
      · have h2' : ¬ -1000 ≤ e := h2
        simp only [h2, h2', if_false, decide_false, Bool.false_and]
        exact Ev.now _
    · have h1' : ¬ (s.size : Int) ≤ 1000 := by omega
      simp only [h1', h1, if_false, decide_false, Bool.false_and]
      exact Ev.now _
end Go.Proofs.YtbjaiphfehnncaaDoor.Px
end
section
namespace Go.Proofs.YtbjaiphfehnncaaDoor.Px
open Fig Go.RowKit Go.Proofs.YtbjaiphfehnncaaDoorW.PrintWords Go.Proofs.YtbjaiphfehnncaaDoorW.PrintLast Go.Proofs.YtbjaiphfehnncaaDoorW.PrintMore
attribute [local go_sem] max2_int min2_int max_two min_two max_three min_three max_four min_four   -- for this text's walks alone
attribute [local go_sem] fieldA23_0 fieldA23_1 fieldA23_2
theorem w_add (e : Int) (p : Nat) (h1 : -1000000 ≤ e) (h2 : e ≤ 1000000) (hp : p ≤ 1000000) : wrap64 (e + (p : Int)) = e + (p : Int) := w64 (by omega) (by omega)
theorem w_norm (e : Int) (p q : Nat) (h1 : -1000000 ≤ e) (h2 : e ≤ 1000000) (hp : p ≤ 1000000) (hq : q ≤ 1000000) : wrap64 (wrap64 (e + (p : Int)) - (q : Int)) = e + (p : Int) - (q : Int) := by rw [w_add e p h1 h2 hp, w64 (by omega) (by omega)]
theorem normP {b : Bool} {s : ByteArray} {e : Int} (h : OkD s e) : dec_Norm.f b s e = some (b, nD (vB s), nE (vB s) e) := by
  have hz := h.val
  have h1 := h.sz
  have h2 := h.lo
  have h3 := h.hi
  unfold dec_Norm.f
  rw [show strings_TrimLeft.f s (⟨#[48]⟩ : ByteArray) = some (digB (vB s)) by unfold strings_TrimLeft.f; rw [if_pos rfl, stripB_eq h.d]]
  simp only [Option.bind_some]
  by_cases h0 : vB s = 0
  · rw [if_pos (digB_toList_nil.2 h0), h0]; rfl
  · rw [if_neg (fun hh => h0 (digB_toList_nil.1 hh))]
    have hl := digB_len_core h0
    have ht : strings_TrimRight.f (digB (vB s)) (⟨#[48]⟩ : ByteArray) = some (digB (core (vB s))) := by
      unfold strings_TrimRight.f
      rw [if_pos ⟨rfl, by omega⟩]
      show some (⟨(Lib.trimRightB (digs (vB s)) 48).toArray⟩ : ByteArray) = _
      unfold Lib.trimRightB; rw [trimR_digs h0]; rfl
    rw [ht]
    simp only [Option.bind_some]
    rw [w_norm e _ _ (by omega) (by omega) (by omega) (by omega)]
    unfold nD nE
    rw [if_neg h0, if_neg h0, show e + ((digB (vB s)).size : Int) - ((digB (core (vB s))).size : Int) = e + (tz (vB s) : Int) by omega]
end Go.Proofs.YtbjaiphfehnncaaDoor.Px
end
section
namespace Go.Proofs.YtbjaiphfehnncaaDoor.Px
open Fig Go.RowKit Go.Proofs.YtbjaiphfehnncaaDoorW.PrintWords Go.Proofs.YtbjaiphfehnncaaDoorW.PrintLast Go.Proofs.YtbjaiphfehnncaaDoorW.PrintMore
attribute [local go_sem] max2_int min2_int max_two min_two max_three min_three max_four min_four   -- for this text's walks alone
attribute [local go_sem] fieldA23_0 fieldA23_1 fieldA23_2
theorem nD_toList (n : Nat) : (nD n).toList = ([48] : List UInt8) ↔ n = 0 := by
  rw [← nD_nought_iff]
  constructor
  · intro h; apply B_ext; rw [← ByteArray.toList_eq, h]; rfl
  · intro h; rw [h, ByteArray.toList_eq]; rfl
theorem zeroP {b : Bool} {s : ByteArray} {e : Int} (h : OkD s e) : dec_Zero.f b s e = some (decide (vB s = 0)) := by
  unfold dec_Zero.f
  rw [normP h]
  simp only [Option.bind_some, Option.some.injEq]
  rw [Bool.eq_iff_iff, beq_iff_eq, decide_eq_true_eq]; exact nD_toList _
end Go.Proofs.YtbjaiphfehnncaaDoor.Px
end
section
namespace Go.Proofs.YtbjaiphfehnncaaDoor.Px
open Fig Go.RowKit Go.Proofs.YtbjaiphfehnncaaDoorW.PrintWords Go.Proofs.YtbjaiphfehnncaaDoorW.PrintLast Go.Proofs.YtbjaiphfehnncaaDoorW.PrintMore
attribute [local go_sem] max2_int min2_int max_two min_two max_three min_three max_four min_four   -- for this text's walks alone
attribute [local go_sem] fieldA23_0 fieldA23_1 fieldA23_2
theorem nD_toList' (n : Nat) : (nD n).toList = ([48] : List UInt8) ↔ n = 0 := by
  rw [← nD_nought_iff]
  constructor
  · intro h; apply B_ext; rw [← ByteArray.toList_eq, h]; rfl
  · intro h; rw [h, ByteArray.toList_eq]; rfl
theorem w_top (e : Int) (p : Nat) (h1 : -1000000 ≤ e) (h2 : e ≤ 1000000) (hp : p ≤ 1000000) : wrap64 (wrap64 (e + (p : Int)) - 1) = e + (p : Int) - 1 := by
  rw [w64 (x := e + (p : Int)) (by omega) (by omega), w64 (by omega) (by omega)]
theorem topP {b : Bool} {s : ByteArray} {e : Int} (h : OkD s e) : dec_Top.f b s e = some (topD (vB s) e) := by
  have hz := h.val
  have h1 := h.sz
  have h2 := h.lo
  have h3 := h.hi
  unfold dec_Top.f
  rw [normP h]
  simp only [Option.bind_some]
  by_cases h0 : vB s = 0
  · rw [if_pos ((nD_toList' _).2 h0), h0]; rfl
  · rw [if_neg (fun hh => h0 ((nD_toList' _).1 hh))]
    have hl := digB_len_core h0
    have hnd : nD (vB s) = digB (core (vB s)) := by unfold nD; rw [if_neg h0]
    have hne : nE (vB s) e = e + (tz (vB s) : Int) := by unfold nE; rw [if_neg h0]
    rw [hnd, hne, w_top _ _ (by omega) (by omega) (by omega)]
    unfold topD; rw [if_neg h0]; congr 1; omega
end Go.Proofs.YtbjaiphfehnncaaDoor.Px
end
section
namespace Go.Proofs.YtbjaiphfehnncaaDoor.Px
open Fig Go.RowKit Go.Proofs.YtbjaiphfehnncaaDoorW.PrintWords Go.Proofs.YtbjaiphfehnncaaDoorW.PrintLast Go.Proofs.YtbjaiphfehnncaaDoorW.PrintMore
attribute [local go_sem] max2_int min2_int max_two min_two max_three min_three max_four min_four   -- for this text's walks alone
attribute [local go_sem] fieldA23_0 fieldA23_1 fieldA23_2
theorem w_len (p : Nat) (e a : Int) (hp : p ≤ 1000000) (h1 : -1000000 ≤ e) (h2 : e ≤ a) (h3 : a < e + (p : Int)) (h4 : e ≤ 1000000) : wrap64 (wrap64 ((p : Int) - 1) - wrap64 (a - e)) = (p : Int) - 1 - (a - e) := by
  rw [w64 (x := (p : Int) - 1) (by omega) (by omega), w64 (x := a - e) (by omega) (by omega), w64 (by omega) (by omega)]
theorem digitP {b : Bool} {s : ByteArray} {e a : Int} (h : OkD s e) : dec_Digit.f b s e a = some (digD (vB s) e a) := by
  have hz := h.val
  have h1 := h.sz
  have h2 := h.lo
  have h3 := h.hi
  unfold dec_Digit.f
  by_cases c1 : a < e
  · rw [if_pos c1]; unfold digD; rw [if_pos c1]
  · rw [if_neg c1, w64 (x := e + (s.size : Int)) (by omega) (by omega)]
    by_cases c2 : a ≥ e + (s.size : Int)
    · rw [if_pos c2, digD_hi (by omega)]
    · rw [if_neg c2, w_len s.size e a (by omega) (by omega) (by omega) (by omega) (by omega)]
      obtain ⟨j, hj⟩ : ∃ j : Nat, j = (a - e).toNat := ⟨_, rfl⟩
      have hj2 : j < s.size := by omega
      have e1 : (s.size : Int) - 1 - (a - e) = ((s.size - 1 - j : Nat) : Int) := by omega
      rw [e1, if_pos (by omega), if_pos (by omega), bt_get (by omega), digit_at h.d hj2]
      unfold digD
      rw [if_neg c1, ← hj]
      congr 1
      have := Nat.mod_lt (vB s / 10 ^ j) (show 0 < 10 by decide)
      omega
end Go.Proofs.YtbjaiphfehnncaaDoor.Px
end
section
namespace Go.Proofs.YtbjaiphfehnncaaDoor.Px
open Fig Go.RowKit Go.Proofs.YtbjaiphfehnncaaDoorW.PrintWords Go.Proofs.YtbjaiphfehnncaaDoorW.PrintLast Go.Proofs.YtbjaiphfehnncaaDoorW.PrintMore
attribute [local go_sem] max2_int min2_int max_two min_two max_three min_three max_four min_four   -- for this text's walks alone
attribute [local go_sem] fieldA23_0 fieldA23_1 fieldA23_2
theorem numP {s : ByteArray} (h : dB s = true) (hne : s.size ≠ 0) (hs : s.size ≤ 140737488351232) : ten_Number.f s = some (limbs (vB s), true) := by
  unfold ten_Number.f; rw [if_pos hs, if_pos ⟨h, hne⟩]
end Go.Proofs.YtbjaiphfehnncaaDoor.Px
end
section
namespace Go.Proofs.YtbjaiphfehnncaaDoor.Px
open Fig Go.RowKit Go.Proofs.YtbjaiphfehnncaaDoorW.PrintWords Go.Proofs.YtbjaiphfehnncaaDoorW.PrintLast Go.Proofs.YtbjaiphfehnncaaDoorW.PrintMore
attribute [local go_sem] max2_int min2_int max_two min_two max_three min_three max_four min_four   -- for this text's walks alone
attribute [local go_sem] fieldA23_0 fieldA23_1 fieldA23_2
theorem coefP {b : Bool} {s : ByteArray} {e : Int} (h : OkD s e) : dec_Coef.f b s e = some (limbs (vB s)) := by
  have := h.sz
  unfold dec_Coef.f; rw [numP h.d h.ne (by omega)]; rfl
theorem coef_len {s : ByteArray} {e : Int} (h : OkD s e) : (limbs (vB s)).length ≤ 100000 := by
  have := limbs_len_digB (vB s)
  have := h.val
  have := h.sz
  omega
theorem shiftP {l : List Int} {n : Int} (g : goodL l = true) (hl : l.length ≤ 500000) (hn : n ≤ 1000000) : ten_Shift.f l n = some (limbs (valL l * 10 ^ n.toNat)) := by unfold ten_Shift.f; rw [if_pos ⟨g, hl, hn⟩]
end Go.Proofs.YtbjaiphfehnncaaDoor.Px
end
section
namespace Go.Proofs.YtbjaiphfehnncaaDoor.Px
open Fig Go.RowKit Go.Proofs.YtbjaiphfehnncaaDoorW.PrintWords Go.Proofs.YtbjaiphfehnncaaDoorW.PrintLast Go.Proofs.YtbjaiphfehnncaaDoorW.PrintMore
attribute [local go_sem] max2_int min2_int max_two min_two max_three min_three max_four min_four   -- for this text's walks alone
attribute [local go_sem] fieldA23_0 fieldA23_1 fieldA23_2
theorem sizeP {b : Bool} {s : ByteArray} {e x : Int} (h : OkD s e) (hx : -100000 ≤ x) (hx2 : x ≤ 100000) : dec_size.f b s e x = some (limbs (atE (vB s) e x)) := by
  have h2 := h.lo
  have h3 := h.hi
  have hl := coef_len h
  unfold dec_size.f
  rw [coefP h]
  simp only [Option.bind_some]
  rw [w64 (x := e - x) (by omega) (by omega), shiftP (limbs_good _) (by omega) (by omega), limbs_val]
  rfl
end Go.Proofs.YtbjaiphfehnncaaDoor.Px
end
section
namespace Go.Proofs.YtbjaiphfehnncaaDoor.Px
open Fig Go.RowKit Go.Proofs.YtbjaiphfehnncaaDoorW.PrintWords Go.Proofs.YtbjaiphfehnncaaDoorW.PrintLast Go.Proofs.YtbjaiphfehnncaaDoorW.PrintMore
attribute [local go_sem] max2_int min2_int max_two min_two max_three min_three max_four min_four   -- for this text's walks alone
attribute [local go_sem] fieldA23_0 fieldA23_1 fieldA23_2
theorem limbs_len_nil (x : Nat) : ((limbs x).length : Int) = 0 ↔ x = 0 := by
  constructor
  · intro h; exact limbs_nil_iff.1 (List.eq_nil_of_length_eq_zero (by omega))
  · rintro rfl; rw [limbs_zero]; rfl
theorem cmpP {a b : Bool} {s t : ByteArray} {e f : Int} (h : OkD s e) (g : OkD t f) : Ev (fun k => dec_Cmp.f k a s e b t f) (cmpD a (vB s) e b (vB t) f) := by
  have h1 := h.sz
  have h2 := h.lo
  have h3 := h.hi
  have g1 := g.sz
  have g2 := g.lo
  have g3 := g.hi
  have hm : mn e f = min e f := by unfold mn; omega
  obtain ⟨m, hm2⟩ : ∃ m, m = min e f := ⟨_, rfl⟩
  have b1 : (limbs (atE (vB s) e m)).length ≤ 1000000 := by
    have := limbs_len_digB (atE (vB s) e m)
    have hz := h.val
    by_cases h0 : vB s = 0
    · rw [h0, atE_zero, limbs_zero]; simp
    · unfold atE at this ⊢
      rw [digB_len_pow h0] at this; omega
  have b2 : (limbs (atE (vB t) f m)).length ≤ 1000000 := by
    have := limbs_len_digB (atE (vB t) f m)
    have hz := g.val
    by_cases h0 : vB t = 0
    · rw [h0, atE_zero, limbs_zero]; simp
    · unfold atE at this ⊢
      rw [digB_len_pow h0] at this; omega
  unfold dec_Cmp.f
  rw [hm, ← hm2]
  refine Ev.bind (evSome fun _ => sizeP h (by omega) (by omega)) (Ev.bind (evSome fun _ => sizeP g (by omega) (by omega)) ?_)
  rw [sum64 _ _ (by omega) (by omega)]
  unfold cmpD
  rw [← hm2]
  unfold vZ
  rw [cmpZ_signs]
  have c1 : nat_Cmp.f (limbs (atE (vB s) e m)) (limbs (atE (vB t) f m)) = some (cmpN (atE (vB s) e m) (atE (vB t) f m)) := by
    have := cmpF_eq (limbs_good (atE (vB s) e m)) (limbs_good (atE (vB t) f m)) (by omega) (by omega)
    rwa [limbs_val, limbs_val] at this
  have c2 : nat_Cmp.f (limbs (atE (vB t) f m)) (limbs (atE (vB s) e m)) = some (cmpN (atE (vB t) f m) (atE (vB s) e m)) := by
    have := cmpF_eq (limbs_good (atE (vB t) f m)) (limbs_good (atE (vB s) e m)) (by omega) (by omega)
    rwa [limbs_val, limbs_val] at this
  have i1 := limbs_len_nil (atE (vB s) e m)
  have i2 := limbs_len_nil (atE (vB t) f m)
  by_cases hz : atE (vB s) e m = 0 ∧ atE (vB t) f m = 0
  · rw [if_pos hz]
    have : (((limbs (atE (vB s) e m)).length + (limbs (atE (vB t) f m)).length : Nat) : Int) = 0 := by
      have := i1.2 hz.1
      have := i2.2 hz.2
      omega
    simp only [this, if_true]
    exact Ev.now _
  · rw [if_neg hz]
    have : ¬ (((limbs (atE (vB s) e m)).length + (limbs (atE (vB t) f m)).length : Nat) : Int) = 0 := by
      intro hh
      exact hz ⟨i1.1 (by omega), i2.1 (by omega)⟩
    simp only [this, if_false]
    cases a <;> cases b
    · simp only [bne_self_eq_false, Bool.false_eq_true, if_false, if_true]
      refine Ev.step (f := fun _ => some (cmpN (atE (vB s) e m) (atE (vB t) f m))) (fun k => ?_) (Ev.now _)
      simp only [dec_Cmp.j0, bne_self_eq_false, Bool.false_eq_true, if_false, c1, Option.bind_some]
    · refine Ev.step (f := fun _ => some (1 : Int)) (fun k => ?_) (evIs (Ev.now _) (by simp))
      simp [dec_Cmp.j0]
    · refine Ev.step (f := fun _ => some (-1 : Int)) (fun k => ?_) (evIs (Ev.now _) (by simp))
      simp [dec_Cmp.j0]
    · simp only [bne_self_eq_false, Bool.false_eq_true, if_false, if_true]
      refine Ev.step (f := fun _ => some (cmpN (atE (vB t) f m) (atE (vB s) e m))) (fun k => ?_) (Ev.now _)
      simp only [dec_Cmp.j0, bne_self_eq_false, Bool.false_eq_true, if_false, if_true, c2, Option.bind_some]
end Go.Proofs.YtbjaiphfehnncaaDoor.Px
end
section
namespace Go.Proofs.YtbjaiphfehnncaaDoor.Px
open Fig Go.RowKit Go.Proofs.YtbjaiphfehnncaaDoorW.PrintWords Go.Proofs.YtbjaiphfehnncaaDoorW.PrintLast Go.Proofs.YtbjaiphfehnncaaDoorW.PrintMore
attribute [local go_sem] max2_int min2_int max_two min_two max_three min_three max_four min_four   -- for this text's walks alone
attribute [local go_sem] fieldA23_0 fieldA23_1 fieldA23_2
theorem goodP {b : Bool} {s : ByteArray} {e : Int} (hs : s.size ≤ 140737488351232) : dec_Good.f b s e = some (goodD s e) := by
  unfold dec_Good.f goodD
  by_cases h1 : (s.size : Int) > 1000
  · rw [if_pos h1]; have : ¬ s.size ≤ 1000 := by omega
    simp [this]
  · rw [if_neg h1]
    by_cases h2 : e < -1000
    · rw [if_pos h2]; have : ¬ -1000 ≤ e := by omega
      simp [this]
    · rw [if_neg h2]
      by_cases h3 : e > 1000
      · rw [if_pos h3]; have : ¬ e ≤ 1000 := by omega
        simp [this]
      · rw [if_neg h3]
        have c1 : s.size ≤ 1000 := by omega
        have c2 : -1000 ≤ e := by omega
        have c3 : e ≤ 1000 := by omega
        unfold ten_Number.f
        rw [if_pos hs]
        by_cases h4 : dB s = true ∧ s.size ≠ 0
        · rw [if_pos h4]; simp [h4.1, h4.2, c1, c2, c3]
        · rw [if_neg h4]
          have : (dB s && decide (s.size ≠ 0)) = false := by
            cases hd : dB s
            · rfl
            · simp only [Bool.true_and, decide_eq_false_iff_not]; intro hh; exact h4 ⟨hd, hh⟩
          rw [this]; simp
end Go.Proofs.YtbjaiphfehnncaaDoor.Px
end
section
namespace Go.Proofs.YtbjaiphfehnncaaDoor.Px
open Fig Go.RowKit Go.Proofs.YtbjaiphfehnncaaDoorW.PrintWords Go.Proofs.YtbjaiphfehnncaaDoorW.PrintLast Go.Proofs.YtbjaiphfehnncaaDoorW.PrintMore
attribute [local go_sem] max2_int min2_int max_two min_two max_three min_three max_four min_four   -- for this text's walks alone
attribute [local go_sem] fieldA23_0 fieldA23_1 fieldA23_2
theorem rangedP {b : Bool} {s : ByteArray} {e : Int} (h : OkD s e) (h2 : OkD (nD (vB s)) (nE (vB s) e)) : dec_Ranged.f b s e = some (rangedD (vB s) e) := by
  unfold dec_Ranged.f
  rw [normP h]
  simp only [Option.bind_some]
  unfold rangedD
  by_cases h0 : vB s = 0
  · rw [if_pos ((nD_toList _).2 h0)]; simp [h0]
  · rw [if_neg (fun hh => h0 ((nD_toList _).1 hh))]
    by_cases h1 : nE (vB s) e ≥ -300
    · rw [if_pos h1, topP h2, vB_nD, topD_norm]
      have h1' : -300 ≤ nE (vB s) e := h1
      simp only [Option.bind_some, h0, h1', false_or, true_and]
    · rw [if_neg h1]
      have h1' : ¬ -300 ≤ nE (vB s) e := h1
      simp [h0, h1']
end Go.Proofs.YtbjaiphfehnncaaDoor.Px
end
section
namespace Go.Proofs.YtbjaiphfehnncaaDoor.Px
open Fig Go.RowKit Go.Proofs.YtbjaiphfehnncaaDoorW.PrintWords Go.Proofs.YtbjaiphfehnncaaDoorW.PrintLast Go.Proofs.YtbjaiphfehnncaaDoorW.PrintMore
attribute [local go_sem] max2_int min2_int max_two min_two max_three min_three max_four min_four   -- for this text's walks alone
attribute [local go_sem] fieldA23_0 fieldA23_1 fieldA23_2
theorem nD_is {n m k : Nat} (h : n = m * 10 ^ k) (hm : m % 10 ≠ 0) : nD n = digB m := by rw [h, nD_pow, nD_of hm]
theorem nE_is {n m k : Nat} {e : Int} (h : n = m * 10 ^ k) (hm : m % 10 ≠ 0) : nE n e = e + (k : Int) := by rw [h, nE_pow, nE_of hm]
theorem digB_is {s : ByteArray} {n : Nat} (hd : dB s = true) (hv : vB s = n) (hs : stripB s = s) : digB n = s := by rw [← hv, ← stripB_eq hd, hs]
theorem answers05_ev : Ev (fun k => figureheadlaw05_answers.f k) true := by
  have ok1 : OkD (⟨#[48, 49, 50, 48]⟩ : ByteArray) 2 := OkD.of_good (by decide)
  have ok2 : OkD (⟨#[49]⟩ : ByteArray) 0 := OkD.of_good (by decide)
  have v1 : vB (⟨#[48, 49, 50, 48]⟩ : ByteArray) = 120 := by decide
  have v2 : vB (⟨#[49]⟩ : ByteArray) = 1 := by decide
  have n1 : nD 120 = (⟨#[49, 50]⟩ : ByteArray) := by
    rw [nD_is (m := 12) (k := 1) (by decide) (by decide)]; exact digB_is (by decide) (by decide) (by decide)
  have e1 : nE 120 2 = 3 := by rw [nE_is (m := 12) (k := 1) (by decide) (by decide)]; decide
  have s1 : (digB 120).size = 3 := by
    rw [digB_is (s := (⟨#[49, 50, 48]⟩ : ByteArray)) (by decide) (by decide) (by decide)]; decide
  have t1 : topD 120 2 = 4 := by unfold topD; rw [if_neg (by decide), s1]; decide
  have ok3 : OkD (nD (vB (⟨#[48, 49, 50, 48]⟩ : ByteArray))) (nE (vB (⟨#[48, 49, 50, 48]⟩ : ByteArray)) 2) := by
    rw [v1, n1, e1]; exact OkD.of_good (by decide)
  have r1 : rangedD 120 2 = true := by unfold rangedD; rw [e1, t1]; decide
  have c1 : cmpD false 120 2 false 1 0 = 1 := by decide
  unfold figureheadlaw05_answers.f
  refine evE (normP ok1) ?_
  rw [v1, n1, e1]
  refine evT (by simp [ByteArray.toList_eq]) (evE (topP ok1) ?_)
  rw [v1, t1]
  refine evT (by decide) (evE (digitP ok1) ?_)
  rw [v1]
  refine evT (by decide) (evE (goodP (by decide)) ?_)
  refine evT (by decide) (evE (zeroP ok1) ?_)
  rw [v1]
  refine evF (by decide) (evE (rangedP ok1 ok3) ?_)
  rw [v1, r1]
  refine evT rfl (Ev.bind (cmpP ok1 ok2) ?_)
  rw [v1, v2, c1]
  exact Ev.now true
end Go.Proofs.YtbjaiphfehnncaaDoor.Px
end
section
namespace Go.Proofs.YtbjaiphfehnncaaDoor.Px
open Fig Go.RowKit Go.Proofs.YtbjaiphfehnncaaDoorW.PrintWords Go.Proofs.YtbjaiphfehnncaaDoorW.PrintLast Go.Proofs.YtbjaiphfehnncaaDoorW.PrintMore
attribute [local go_sem] max2_int min2_int max_two min_two max_three min_three max_four min_four   -- for this text's walks alone
attribute [local go_sem] fieldA23_0 fieldA23_1 fieldA23_2
theorem DecPlaces_true (a2 a3 : Int) (b : Bool) (s : ByteArray) (e : Int) (c : Bool) (t : ByteArray) (f : Int) : Ev (fun k => figureheadlaw05_DecPlaces.j0 k a2 a3 true b s e c t f) true :=
  Ev.step (fun k => by simp only [figureheadlaw05_DecPlaces.j0, if_true]) (Ev.bind answers05_ev (Ev.now true))
theorem OkD.moved {s : ByteArray} {e u : Int} (h : goodD s e = true) (h1 : -128 ≤ u) (h2 : u ≤ 127) : OkD s (e + u) := by
  obtain ⟨a, b, c, d, f⟩ := goodD_iff.1 h
  exact ⟨a, b, by omega, by omega, by omega⟩
theorem DecPlaces_wf {x : Int} (h : (Lit.int .i8 x).wf = true) : -128 ≤ x ∧ x ≤ 127 := by
  simp [Lit.wf, IntKind.min, IntKind.max, IntKind.signed, IntKind.bits] at h; omega
theorem DecPlaces_wf16 {x : Int} (h : (Lit.int .i16 x).wf = true) : -32768 ≤ x ∧ x ≤ 32767 := by
  simp [Lit.wf, IntKind.min, IntKind.max, IntKind.signed, IntKind.bits] at h; omega
theorem DecPlaces_pure (a0_0 : Bool) (a0_1 : ByteArray) (a0_2 : Int) (a1_0 : Bool) (a1_1 : ByteArray) (a1_2 : Int) (a2 a3 : Int) (w0_1 : a0_1.size ≤ 140737488351232) (w0_2 : (Lit.int .i64 a0_2).wf = true) (w1_1 : a1_1.size ≤ 140737488351232) (w1_2 : (Lit.int .i64 a1_2).wf = true) (w2 : (Lit.int .i8 a2).wf = true) (w3 : (Lit.int .i16 a3).wf = true) : ∃ k, figureheadlaw05_DecPlaces.f k a0_0 a0_1 a0_2 a1_0 a1_1 a1_2 a2 a3 = some true := by
  obtain ⟨u1, u2⟩ := DecPlaces_wf w2
  obtain ⟨u3, u4⟩ := DecPlaces_wf16 w3
  refine Ev.rounds (g := fun k => figureheadlaw05_DecPlaces.f k a0_0 a0_1 a0_2 a1_0 a1_1 a1_2 a2 a3) ?_
  unfold figureheadlaw05_DecPlaces.f
  refine Ev.bind (Good05_ev (by omega)) ?_
  cases hg : goodD a0_1 a0_2
  · exact evF (by decide) (DecPlaces_true _ _ _ _ _ _ _ _)
  refine evT rfl (Ev.bind (Good05_ev (by omega)) ?_)
  cases hg2 : goodD a1_1 a1_2
  · exact DecPlaces_true _ _ _ _ _ _ _ _
  have ok := OkD.of_good hg
  have ok2 := OkD.of_good hg2
  have okm := OkD.moved hg u1 u2
  have okm2 := OkD.moved hg2 u1 u2
  obtain ⟨_, _, _, g1, g2⟩ := goodD_iff.1 hg
  obtain ⟨_, _, _, g3, g4⟩ := goodD_iff.1 hg2
  have e1 : wrap64 (a0_2 + wrap64 a2) = a0_2 + a2 := by rw [w64 (x := a2) (by omega) (by omega), w64 (by omega) (by omega)]
  have e2 : wrap64 (a1_2 + wrap64 a2) = a1_2 + a2 := by rw [w64 (x := a2) (by omega) (by omega), w64 (by omega) (by omega)]
  have e3 : wrap64 (wrap64 a3 + wrap64 a2) = a3 + a2 := by rw [w64 (x := a2) (by omega) (by omega), w64 (x := a3) (by omega) (by omega), w64 (by omega) (by omega)]
  have e4 : wrap64 a3 = a3 := w64 (by omega) (by omega)
  have e5 : wrap64 a2 = a2 := w64 (by omega) (by omega)
  refine Ev.step (fun k => by simp only [figureheadlaw05_DecPlaces.j0, Bool.not_true, Bool.false_eq_true, if_false, e1, e2, e3]; rfl) ?_
  rw [e4, e5]
  have hcmp : Ev (fun k => (dec_Cmp.f k a0_0 a0_1 (a0_2 + a2) a1_0 a1_1 (a1_2 + a2)).bind fun t => (dec_Cmp.f k a0_0 a0_1 a0_2 a1_0 a1_1 a1_2).bind fun t2 => some (t == t2)) true := by
    refine Ev.bind (cmpP okm okm2) (Ev.bind (cmpP ok ok2) (evIs (Ev.now _) ?_))
    rw [cmpD_move, beq_iff_eq]
  refine Ev.bind answers05_ev (evT rfl (evE (digitP okm) (evE (digitP ok) (evT (digD_move _ _ _ _) (evE (zeroP ok) ?_)))))
  by_cases h0 : vB a0_1 = 0
  · exact evT (decide_eq_true h0) hcmp
  · refine evF (by rw [decide_eq_true_eq]; exact h0) (evE (topP okm) (evE (topP ok) (evT ?_ hcmp)))
    rw [topD_move _ _ h0]
    have : -1000000 ≤ topD (vB a0_1) a0_2 ∧ topD (vB a0_1) a0_2 ≤ 1000000 := by
      have := ok.val
      unfold topD; rw [if_neg h0]; omega
    rw [w64 (by omega) (by omega)]
end Go.Proofs.YtbjaiphfehnncaaDoor.Px
end
section
namespace Go.Proofs.YtbjaiphfehnncaaDoorW.PrintWords
open Go.ChangeShapes Go.WideShapes
end Go.Proofs.YtbjaiphfehnncaaDoorW.PrintWords
end
section
namespace Fig
open Go Go.ChangeShapes
end Fig
end
section
namespace Fig
open Go Go.Proofs Go.Proofs.YtbjaiphfehnncaaDoor
set_option maxRecDepth 100000
def plainL : List (String × DataW Unit) := [("unicode/utf8.acceptRanges", Rows.laid_unicode_utf8_acceptRanges), ("figurehead/ten.powers", Rows.laid_figurehead_ten_powers), ("unicode/utf8.first", Rows.laid_unicode_utf8_first)]
def laidL : List (String × DataW Unit) := [("unicode/utf8.acceptRanges", Rows.laid_unicode_utf8_acceptRanges), ("figurehead/ten.powers", Rows.laid_figurehead_ten_powers), ("unicode/utf8.first", Rows.laid_unicode_utf8_first)]
noncomputable def startW (os : Os) : World := World.laidAll Tryd.prog os plainL
theorem startW_os (os : Os) : (startW os).os = os := World.laidAll_os _ _ _
theorem met (os : Os) (args : Array Value) : laidMetH Tryd.prog laidL ((startW os).forCall (fun _ _ => 0) ⟨#[], args, []⟩).memory := by
  rw [MakeChecks.laidMetH_plain _ _ _ (by kernel_rfl)]; exact laidMet_laidAll _ (by kernel_rfl) (by kernel_rfl)
theorem plainFilter : (laidL.filter fun x => x.2.handleName?.isNone) = plainL := by kernel_rfl
theorem plain_of {W : World} (h : laidMetH Tryd.prog laidL W) : laidMet Tryd.prog plainL W := plainFilter ▸ (laidMetH_iff.1 h).1
theorem pows_of {W : World} (h : laidMetH Tryd.prog laidL W) : ∀ i, i < 9 → W.cell? ⟨0, i, none⟩ = some (.int .u32 (([1, 10, 100, 1000, 10000, 100000, 1000000, 10000000, 100000000] : List Int).getD i 0)) := by
  have gN : Tryd.prog.globalNamed "figurehead/ten.powers" = some 0 := by kernel_rfl
  have gT : (Tryd.prog.globals[0]?).map (·.type) = some 72 := by kernel_rfl
  have hT := Lib.tabIs_of_head (k := .u32) (zs := [1, 10, 100, 1000, 10000, 100000, 1000000, 10000000, 100000000]) gN gT Tryd.underlying72 Tryd.underlying47 (by kernel_rfl) (by kernel_rfl) (laidMet.tail (plain_of h))
  exact fun i hi => hT.cell gN i hi
theorem of_laid {W : World} (h : laidMetH Tryd.prog laidL W) : Glob W := ⟨pows_of h⟩
end Fig
end
section
namespace Fig
open Go Go.ChangeShapes Go.WideShapes Go.RowKit Go.Deep Go.WideElems Go.Joins
theorem open_dec {H : Type} {enc : TypeId × Value → H} {P : Program} {w : World} {base : Nat} {spare : Nat → Bool} {held : Bool} {r : Reach} {b0 : Nat} {t : TypeId} {f0 f1 f2 : Field} {v : Value} {d : DataW H} {p : List MemPlace} {k : IntKind} (hs : P.underlying t = some (.struct #[f0, f1, f2])) (hone : oneCellFields P #[f0, f1, f2] = true) (hC : P.cellsOf t = 3)
    (u0 : P.underlying f0.type = some .bool) (u1 : P.underlying f1.type = some .string) (u2 : P.underlying f2.type = some (.int k)) (hv : Value.okWide P w r b0 t v) (h : DataW.Trod enc P w base spare held t v d p) :
    ∃ (x : Bool) (s : ByteArray) (n : Int), v = .agg #[.bool x, .string s, .int k n] ∧ d = .agg [.lit (.bool x), .lit (.string s.data.toList), .lit (.int k n)] ∧ p = [] ∧ s.size ≤ maxLen ∧ (Lit.int k n).wf = true := by
  obtain ⟨v0, v1, v2, y0, y1, y2, n, rfl, rfl, rfl, h0, h1, h2⟩ := open_agg3 hs hone hC hv h
  obtain ⟨x, e0, rfl⟩ := DataW.trod_bool u0 h0
  obtain ⟨s, e1, rfl, hl⟩ := DataW.trod_string u1 h1
  obtain ⟨m, e2, rfl, hw⟩ := DataW.trod_int u2 h2
  simp only [List.cons.injEq, and_true] at e0 e1 e2
  subst e0 e1 e2
  exact ⟨x, s, m, rfl, rfl, rfl, hl, hw⟩
theorem shut_dec {H : Type} {enc : TypeId × Value → H} {P : Program} {w : World} {base : Nat} {spare : Nat → Bool} {held : Bool} {t : TypeId} {f0 f1 f2 : Field} {k : IntKind} {x : Bool} {s : ByteArray} {n : Int} (hs : P.underlying t = some (.struct #[f0, f1, f2])) (hone : oneCellFields P #[f0, f1, f2] = true) (hC : P.cellsOf t = 3)
    (u0 : P.underlying f0.type = some .bool) (u1 : P.underlying f1.type = some .string) (u2 : P.underlying f2.type = some (.int k)) (hl : s.size ≤ maxLen) (hw : (Lit.int k n).wf = true) :
    DataW.Trod enc P w base spare held t (.agg #[.bool x, .string s, .int k n]) (.agg [.lit (.bool x), .lit (.string s.data.toList), .lit (.int k n)]) [] :=
  shut_agg3 (y0 := (.lit (.bool x), [])) (y1 := (.lit (.string s.data.toList), [])) (y2 := (.lit (.int k n), [])) hs hone hC ⟨1, by simp [DataW.trod, u0]⟩ ⟨1, by simp [DataW.trod, u1, hl]⟩ ⟨1, by simp [DataW.trod, u2, hw]⟩
theorem sized_dec {H : Type} {P : Program} {ts : List TypeId} {ds : List (DataW H)} (h : (DataW.weightsEach P ts ds).all (· ≤ reachBytes) = true) {j : Nat} {t : TypeId} {f0 f1 f2 : Field} {x y : DataW H} {bytes : List UInt8} (ht : ts[j]? = some t) (hd : ds[j]? = some (.agg [x, .lit (.string bytes), y])) (hs : P.underlying t = some (.struct #[f0, f1, f2])) : bytes.length ≤ reachBytes := by
  have := List.all_eq_true.1 h _ (DataW.weights_mem_each ht hd bytes.length (by simp [DataW.weights, DataW.weightsEach, hs]))
  simpa using this
end Fig
end
