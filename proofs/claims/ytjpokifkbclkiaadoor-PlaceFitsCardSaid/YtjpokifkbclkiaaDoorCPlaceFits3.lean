/- The functions that the law PlaceFits reaches, told as plain functions, with what is proved of them, and the words they need (part 3). -/
import Derived.Test.YtjpokifkbclkiaaDoorCPlaceFits0
import Derived.Test.YtjpokifkbclkiaaDoorCPlaceFits1
import Derived.Test.YtjpokifkbclkiaaDoorCPlaceFits2
import Derived.SizedLaws
import Derived.ChangeSlices
import Derived.LaidMore
import Derived.LaidHandle
import Derived.LaidSub
import Derived.OpenShut
import Derived.ChangeSame
import Derived.Lay
import Derived.Lib.LaidTab
import Derived.Test.YtjpokifkbclkiaaDoorRows
import Derived.Stop.LaidErr
import Derived.Lib.SmallJoins
import Derived.ChangeMaps5
set_option linter.unusedVariables false
set_option linter.unusedSimpArgs false
section
namespace Go.Proofs.YtjpokifkbclkiaaDoor.Px
open Fig Go.RowKit Go.Proofs.YtjpokifkbclkiaaDoorW.PrintWords Go.Proofs.YtjpokifkbclkiaaDoorW.PrintLast Go.Proofs.YtjpokifkbclkiaaDoorW.PrintMore
attribute [local go_sem] max2_int min2_int max_two min_two max_three min_three max_four min_four   -- for this text's walks alone
attribute [local go_sem] fieldA23_0 fieldA23_1 fieldA23_2
def figureheadref05_Norm.l0 : Nat → ByteArray → Int → Bool → ByteArray → Int → Option (Bool × ByteArray × Int)
  | 0, _, _, _, _, _ => none
  | k + 1, x3, x4, x209000, x209001, x209002 => if 0 ≤ (wrap64 ((x3.size : Int) - 1)) then (if (wrap64 ((x3.size : Int) - 1)) < (x3.size : Int) then (if (bt x3 (wrap64 ((x3.size : Int) - 1))) = 48 then (if (wrap64 ((x3.size : Int) - 1)) ≤ (x3.size : Int) then (figureheadref05_Norm.l0 k (x3.extract 0 ((wrap64 ((x3.size : Int) - 1)) : Int).toNat) (wrap64 (x4 + 1)) x209000 x209001 x209002) else (none)) else (some (x209000, x3, x4))) else (none)) else (none)
def figureheadref05_Norm.f (k : Nat) (a0_0 : Bool) (a0_1 : ByteArray) (a0_2 : Int) : Option (Bool × ByteArray × Int) := (figureheadref01_Strip.f k a0_1).bind fun t210 => (if t210.toList = ([] : List UInt8) then (some (a0_0, (⟨#[48]⟩ : ByteArray), 0)) else (figureheadref05_Norm.l0 k t210 a0_2 a0_0 a0_1 a0_2))
theorem figureheadref05_Norm.mono_l : ∀ k, (∀ y0 y1 y2 y3 y4, LeO (figureheadref05_Norm.l0 k y0 y1 y2 y3 y4) (figureheadref05_Norm.l0 (k + 1) y0 y1 y2 y3 y4))
  | 0 => fun _ _ _ _ _ r h => by simp [figureheadref05_Norm.l0] at h
  | k + 1 => by
    have ih0 := figureheadref05_Norm.mono_l k
    · intro y0 y1 y2 y3 y4
      unfold figureheadref05_Norm.l0
      repeat' first
      | (with_reducible exact ih0 _ _ _ _ _)
      | (with_reducible exact figureheadref01_Strip.mono _ _)
      | (with_reducible exact LeO.refl _)
      | (with_reducible exact LeO.none _)
      | (with_reducible refine LeO.ite ?_ ?_)
      | (with_reducible refine LeO.bind ?_ (fun _ => ?_))
      | exact ih0 _ _ _ _ _
      | exact figureheadref01_Strip.mono _ _
      | exact LeO.none _
      | refine LeO.ite ?_ ?_
      | refine LeO.bind ?_ (fun _ => ?_)
theorem figureheadref05_Norm.mono : ∀ a0 a1 a2 k, LeO (figureheadref05_Norm.f k a0 a1 a2) (figureheadref05_Norm.f (k + 1) a0 a1 a2) := by
  intro a0 a1 a2 k
  have ih0 := figureheadref05_Norm.mono_l k
  unfold figureheadref05_Norm.f
  repeat' first
      | (with_reducible exact ih0 _ _ _ _ _)
      | (with_reducible exact figureheadref01_Strip.mono _ _)
      | (with_reducible exact LeO.refl _)
      | (with_reducible exact LeO.none _)
      | (with_reducible refine LeO.ite ?_ ?_)
      | (with_reducible refine LeO.bind ?_ (fun _ => ?_))
      | exact ih0 _ _ _ _ _
      | exact figureheadref01_Strip.mono _ _
      | exact LeO.none _
      | refine LeO.ite ?_ ?_
      | refine LeO.bind ?_ (fun _ => ?_)
set_option maxHeartbeats 8000000 in
set_option maxRecDepth 100000 in
theorem figureheadref05_Norm.calls (k : Nat) (a0_0 : Bool) (a0_1 : ByteArray) (a0_2 : Int) (r1 : Bool) (r2 : ByteArray) (r3 : Int) (w : World) (h : figureheadref05_Norm.f k a0_0 a0_1 a0_2 = some (r1, r2, r3)) :
    Calls Tryd.prog 19 #[.agg #[.bool a0_0, .string a0_1, .int .i64 a0_2]] w fun e w' => e = .returned (.agg #[.bool r1, .string r2, .int .i64 r3]) ∧ Below w.heap.size w w' := by
  have hu23 := Tryd.underlying23
  have HB := Aside0.mk (Below.refl w.heap.size w)
  have H : ((figureheadref01_Strip.f k a0_1).bind fun t210 => (if t210.toList = ([] : List UInt8) then (some (a0_0, (⟨#[48]⟩ : ByteArray), 0)) else (figureheadref05_Norm.l0 k t210 a0_2 a0_0 a0_1 a0_2))) = some (r1, r2, r3) := h
  clear h
  replace H := Option.bind_eq_some_iff.mp H
  obtain ⟨t210, A20, H⟩ := H
  replace H : (if t210.toList = ([] : List UInt8) then (some (a0_0, (⟨#[48]⟩ : ByteArray), 0)) else (figureheadref05_Norm.l0 k t210 a0_2 a0_0 a0_1 a0_2)) = some (r1, r2, r3) := H
  have A2 := Aside0.mk A20
  clear A20
  by_cases c3 : t210.toList = ([] : List UInt8)
  · rw [if_pos c3] at H
    have c3b0 : (t210.toList == ([] : List UInt8)) = true := beq_iff_eq.mpr c3
    have c3b1 : (t210.toList != ([] : List UInt8)) = false := bne_eq_false_iff_eq.mpr c3
    clear c3
    simp only [Option.some.injEq, Prod.mk.injEq] at H
    obtain ⟨rfl, rfl, rfl⟩ := H
    go_enter Tryd.func19, Tryd.ntmps19
    go_wp2_with (first | ((with_reducible refine gate_dst (N := 1) rfl ?_); refine box_event ?hg (N := 1) ?hd (cs := #[.bool a0_0, .string a0_1, .int .i64 a0_2]) (t := 23) ?hr ?_; (case hd => rfl); (case hg => rfl); (case hr => first | (go_simp; done) | (go_simp; rfl)); intro gb208 hg w4 hbox hb; have n0_ := Aside0.mk (below_step (by repeat (first | (with_reducible first | exact HB.out | apply below_alloc | apply pw_below_drewN | apply below_drew1) | exact HB.out)) hb); have n1_ := Aside0.mk (hbox); have n2_ := Aside0.mk ((by rw [hg]; exact (below_size (by repeat (first | (with_reducible first | exact HB.out | apply below_alloc | apply pw_below_drewN | apply below_drew1) | exact HB.out))) : w.heap.size ≤ gb208)); have n3_ := Aside0.mk ((by rw [hg]; exact (below_size (by repeat (first | (with_reducible first | exact HB.out | apply below_alloc | apply pw_below_drewN | apply below_drew1) | exact HB.out))) : w.heap.size ≤ gb208)); clear HB; have HB := n0_; have BK208 := n1_; have GW208 := n2_; have GE208 := n3_; clear n0_ n1_ n2_ n3_; clear hb hbox hg) | ((with_reducible refine gate_dst (N := 2) rfl ?_); refine box_event ?hg (N := 2) ?hd (cs := #[.bool false, .string (⟨#[]⟩ : ByteArray), .int .i64 0]) (t := 23) ?hr ?_; (case hd => rfl); (case hg => rfl); (case hr => first | (go_simp; done) | (go_simp; rfl)); intro gb209 hg w5 hbox hb; have n0_ := Aside0.mk (blk_below (g := gb208) (o := .cells #[.bool a0_0, .string a0_1, .int .i64 a0_2] 23 (0, 0)) (by (with_reducible repeat (first | refine blk_drewN ?_ _ | refine blk_drew ?_ | refine blk_alloc ?_ _)); exact BK208.out) hb); have n1_ := Aside0.mk (below_step (by repeat (first | (with_reducible first | exact HB.out | apply below_alloc | apply pw_below_drewN | apply below_drew1 | refine below_set ?_ GE208.out) | exact HB.out)) hb); have n2_ := Aside0.mk (hbox); have n3_ := Aside0.mk ((by rw [hg]; exact (below_size (by repeat (first | (with_reducible first | exact HB.out | apply below_alloc | apply pw_below_drewN | apply below_drew1 | refine below_set ?_ GE208.out) | exact HB.out))) : w.heap.size ≤ gb209)); have n4_ := Aside0.mk ((by rw [hg]; exact (below_size (by repeat (first | (with_reducible first | exact HB.out | apply below_alloc | apply pw_below_drewN | apply below_drew1 | refine below_set ?_ GE208.out) | exact HB.out))) : w.heap.size ≤ gb209)); have n5_ := Aside0.mk ((by rw [hg]; exact Nat.ne_of_lt (blk_lt (g := gb208) (o := .cells #[.bool a0_0, .string a0_1, .int .i64 a0_2] 23 (0, 0)) (by (with_reducible repeat (first | refine blk_drewN ?_ _ | refine blk_drew ?_ | refine blk_alloc ?_ _)); exact BK208.out)) : gb208 ≠ gb209)); have n6_ := Aside0.mk ((by rw [hg]; exact Nat.ne_of_gt (blk_lt (g := gb208) (o := .cells #[.bool a0_0, .string a0_1, .int .i64 a0_2] 23 (0, 0)) (by (with_reducible repeat (first | refine blk_drewN ?_ _ | refine blk_drew ?_ | refine blk_alloc ?_ _)); exact BK208.out)) : gb209 ≠ gb208)); clear BK208; clear HB; have BK208 := n0_; have HB := n1_; have BK209 := n2_; have GW209 := n3_; have GE209 := n4_; have NB208_209 := n5_; have NB209_208 := n6_; clear n0_ n1_ n2_ n3_ n4_ n5_ n6_; clear hb hbox hg; have hnb6 := NB208_209.out; have hnc6 := NB209_208.out; have hcz7_0 : w5.cell? ⟨gb208, 0, none⟩ = some (.bool a0_0) := (blk_cell BK208.out 0).trans rfl; have hcz7_1 : w5.cell? ⟨gb208, 1, none⟩ = some (.string a0_1) := (blk_cell BK208.out 1).trans rfl; have hcz7_2 : w5.cell? ⟨gb208, 2, none⟩ = some (.int .i64 a0_2) := (blk_cell BK208.out 2).trans rfl; have hfz7_0 := blk_frozen BK208.out 0; have hfz7_1 := blk_frozen BK208.out 1; have hfz7_2 := blk_frozen BK208.out 2) | ((with_reducible refine gate_callee (f := 38) rfl ?_); refine goesL_ (some 7) rfl rfl Tryd.func38 (by kernel_rfl) rfl #[.string a0_1] rfl (by (try simp only [List.map_toArray]); (try simp only [List.map_cons]); (try simp only [List.map_nil]); first | done | rfl | (simp only [List.length_drop, List.length_take]; rfl)) ?_; (with_reducible refine (figureheadref01_Strip.calls k a0_1 t210 _ A2.out).mono ?_); rintro e w' ⟨rfl, ⟨nd, rfl⟩⟩; refine ⟨_, rfl, ?_⟩; (try (rw [drewN_self w5]; generalize hq_ : World.drewN w5 _ = w5; have n0_ : Aside0 (w5.heap[gb208]? = some (.cells #[.bool a0_0, .string a0_1, .int .i64 a0_2] 23 (0, 0))) := ⟨by rw [← hq_]; exact (by (with_reducible repeat (first | refine blk_drewN ?_ _ | refine blk_drew ?_ | refine blk_alloc ?_ _)); exact BK208.out)⟩; have n1_ : Aside0 (w5.heap[gb209]? = some (.cells #[.bool false, .string (⟨#[]⟩ : ByteArray), .int .i64 0] 23 (0, 0))) := ⟨by rw [← hq_]; exact (by (with_reducible repeat (first | refine blk_drewN ?_ _ | refine blk_drew ?_ | refine blk_alloc ?_ _)); exact BK209.out)⟩; have n2_ : Aside0 (Below w.heap.size w w5) := ⟨by rw [← hq_]; exact (by repeat (first | (with_reducible first | exact HB.out | apply below_alloc | apply pw_below_drewN | apply below_drew1 | refine below_set ?_ GE208.out | refine below_set ?_ GE209.out) | exact HB.out))⟩; clear BK208 BK209 HB hq_; have BK208 := n0_; have BK209 := n1_; have HB := n2_; clear n0_ n1_ n2_)); (try (have hcz9011_0 : w5.cell? ⟨gb208, 0, none⟩ = some (.bool a0_0) := (blk_cell BK208.out 0).trans rfl)); (try (have hcz9011_1 : w5.cell? ⟨gb208, 1, none⟩ = some (.string a0_1) := (blk_cell BK208.out 1).trans rfl)); (try (have hcz9011_2 : w5.cell? ⟨gb208, 2, none⟩ = some (.int .i64 a0_2) := (blk_cell BK208.out 2).trans rfl)); (try (have hfz9011_0 := blk_frozen BK208.out 0)); (try (have hfz9011_1 := blk_frozen BK208.out 1)); (try (have hfz9011_2 := blk_frozen BK208.out 2)); (try (have hcz9012_0 : w5.cell? ⟨gb209, 0, none⟩ = some (.bool false) := (blk_cell BK209.out 0).trans rfl)); (try (have hcz9012_1 : w5.cell? ⟨gb209, 1, none⟩ = some (.string (⟨#[]⟩ : ByteArray)) := (blk_cell BK209.out 1).trans rfl)); (try (have hcz9012_2 : w5.cell? ⟨gb209, 2, none⟩ = some (.int .i64 0) := (blk_cell BK209.out 2).trans rfl)); (try (have hfz9012_0 := blk_frozen BK209.out 0)); (try (have hfz9012_1 := blk_frozen BK209.out 1)); (try (have hfz9012_2 := blk_frozen BK209.out 2)); have hcz8_0 : w5.cell? ⟨gb209, 0, none⟩ = some (.bool false) := (blk_cell BK209.out 0).trans rfl; have hcz8_1 : w5.cell? ⟨gb209, 1, none⟩ = some (.string (⟨#[]⟩ : ByteArray)) := (blk_cell BK209.out 1).trans rfl; have hcz8_2 : w5.cell? ⟨gb209, 2, none⟩ = some (.int .i64 0) := (blk_cell BK209.out 2).trans rfl; have hfz8_0 := blk_frozen BK209.out 0; have hfz8_1 := blk_frozen BK209.out 1; have hfz8_2 := blk_frozen BK209.out 2))
    refine bodyPost_ret (results_cell_row rfl _ _ gb209 23 #[.bool a0_0, .string (⟨#[48]⟩ : ByteArray), .int .i64 0] (0, 0) _ rfl (by (with_reducible repeat (first | refine blk_drewN ?_ _ | refine blk_drew ?_ | refine blk_alloc ?_ _)); refine blk_put (cs := #[.bool a0_0, .string (⟨#[48]⟩ : ByteArray), .int .i64 0]) ?_ 2 _ rfl; (with_reducible repeat (first | refine blk_drewN ?_ _ | refine blk_drew ?_ | refine blk_alloc ?_ _)); refine blk_put (cs := #[.bool a0_0, .string (⟨#[]⟩ : ByteArray), .int .i64 0]) ?_ 1 _ rfl; (with_reducible repeat (first | refine blk_drewN ?_ _ | refine blk_drew ?_ | refine blk_alloc ?_ _)); refine blk_put (cs := #[.bool false, .string (⟨#[]⟩ : ByteArray), .int .i64 0]) ?_ 0 _ rfl; (with_reducible repeat (first | refine blk_drewN ?_ _ | refine blk_drew ?_ | refine blk_alloc ?_ _)); exact BK209.out) Tryd.underlying23 rfl (by kernel_rfl)) rfl ?_
    exact ⟨by first | rfl | (simp [errW_none, errW_some] <;> rfl) | (simp [*, errW_none, errW_some] <;> rfl), by repeat (first | (with_reducible first | exact HB.out | apply below_alloc | apply pw_below_drewN | apply below_drew1 | refine below_set ?_ GE208.out | refine below_set ?_ GE209.out) | exact HB.out)⟩
  · rw [if_neg c3] at H
    have c3b0 : (t210.toList == ([] : List UInt8)) = false := beq_eq_false_iff_ne.mpr c3
    have c3b1 : (t210.toList != ([] : List UInt8)) = true := bne_iff_ne.mpr c3
    have H' := Aside0.mk H
    clear H
    go_enter Tryd.func19, Tryd.ntmps19
    go_wp2_with (first | ((with_reducible refine gate_dst (N := 1) rfl ?_); refine box_event ?hg (N := 1) ?hd (cs := #[.bool a0_0, .string a0_1, .int .i64 a0_2]) (t := 23) ?hr ?_; (case hd => rfl); (case hg => rfl); (case hr => first | (go_simp; done) | (go_simp; rfl)); intro gb208 hg w9 hbox hb; have n0_ := Aside0.mk (below_step (by repeat (first | (with_reducible first | exact HB.out | apply below_alloc | apply pw_below_drewN | apply below_drew1) | exact HB.out)) hb); have n1_ := Aside0.mk (hbox); have n2_ := Aside0.mk ((by rw [hg]; exact (below_size (by repeat (first | (with_reducible first | exact HB.out | apply below_alloc | apply pw_below_drewN | apply below_drew1) | exact HB.out))) : w.heap.size ≤ gb208)); have n3_ := Aside0.mk ((by rw [hg]; exact (below_size (by repeat (first | (with_reducible first | exact HB.out | apply below_alloc | apply pw_below_drewN | apply below_drew1) | exact HB.out))) : w.heap.size ≤ gb208)); clear HB; have HB := n0_; have BK208 := n1_; have GW208 := n2_; have GE208 := n3_; clear n0_ n1_ n2_ n3_; clear hb hbox hg) | ((with_reducible refine gate_dst (N := 2) rfl ?_); refine box_event ?hg (N := 2) ?hd (cs := #[.bool false, .string (⟨#[]⟩ : ByteArray), .int .i64 0]) (t := 23) ?hr ?_; (case hd => rfl); (case hg => rfl); (case hr => first | (go_simp; done) | (go_simp; rfl)); intro gb209 hg w10 hbox hb; have n0_ := Aside0.mk (blk_below (g := gb208) (o := .cells #[.bool a0_0, .string a0_1, .int .i64 a0_2] 23 (0, 0)) (by (with_reducible repeat (first | refine blk_drewN ?_ _ | refine blk_drew ?_ | refine blk_alloc ?_ _)); exact BK208.out) hb); have n1_ := Aside0.mk (below_step (by repeat (first | (with_reducible first | exact HB.out | apply below_alloc | apply pw_below_drewN | apply below_drew1 | refine below_set ?_ GE208.out) | exact HB.out)) hb); have n2_ := Aside0.mk (hbox); have n3_ := Aside0.mk ((by rw [hg]; exact (below_size (by repeat (first | (with_reducible first | exact HB.out | apply below_alloc | apply pw_below_drewN | apply below_drew1 | refine below_set ?_ GE208.out) | exact HB.out))) : w.heap.size ≤ gb209)); have n4_ := Aside0.mk ((by rw [hg]; exact (below_size (by repeat (first | (with_reducible first | exact HB.out | apply below_alloc | apply pw_below_drewN | apply below_drew1 | refine below_set ?_ GE208.out) | exact HB.out))) : w.heap.size ≤ gb209)); have n5_ := Aside0.mk ((by rw [hg]; exact Nat.ne_of_lt (blk_lt (g := gb208) (o := .cells #[.bool a0_0, .string a0_1, .int .i64 a0_2] 23 (0, 0)) (by (with_reducible repeat (first | refine blk_drewN ?_ _ | refine blk_drew ?_ | refine blk_alloc ?_ _)); exact BK208.out)) : gb208 ≠ gb209)); have n6_ := Aside0.mk ((by rw [hg]; exact Nat.ne_of_gt (blk_lt (g := gb208) (o := .cells #[.bool a0_0, .string a0_1, .int .i64 a0_2] 23 (0, 0)) (by (with_reducible repeat (first | refine blk_drewN ?_ _ | refine blk_drew ?_ | refine blk_alloc ?_ _)); exact BK208.out)) : gb209 ≠ gb208)); clear BK208; clear HB; have BK208 := n0_; have HB := n1_; have BK209 := n2_; have GW209 := n3_; have GE209 := n4_; have NB208_209 := n5_; have NB209_208 := n6_; clear n0_ n1_ n2_ n3_ n4_ n5_ n6_; clear hb hbox hg; have hnb11 := NB208_209.out; have hnc11 := NB209_208.out; have hcz12_0 : w10.cell? ⟨gb208, 0, none⟩ = some (.bool a0_0) := (blk_cell BK208.out 0).trans rfl; have hcz12_1 : w10.cell? ⟨gb208, 1, none⟩ = some (.string a0_1) := (blk_cell BK208.out 1).trans rfl; have hcz12_2 : w10.cell? ⟨gb208, 2, none⟩ = some (.int .i64 a0_2) := (blk_cell BK208.out 2).trans rfl; have hfz12_0 := blk_frozen BK208.out 0; have hfz12_1 := blk_frozen BK208.out 1; have hfz12_2 := blk_frozen BK208.out 2) | ((with_reducible refine gate_callee (f := 38) rfl ?_); refine goesL_ (some 7) rfl rfl Tryd.func38 (by kernel_rfl) rfl #[.string a0_1] rfl (by (try simp only [List.map_toArray]); (try simp only [List.map_cons]); (try simp only [List.map_nil]); first | done | rfl | (simp only [List.length_drop, List.length_take]; rfl)) ?_; (with_reducible refine (figureheadref01_Strip.calls k a0_1 t210 _ A2.out).mono ?_); rintro e w' ⟨rfl, ⟨nd, rfl⟩⟩; refine ⟨_, rfl, ?_⟩))
    go_loopg [3, 4] k (fun kq v3 v4 w' => ∃ (x3_1 : ByteArray) (x4_1 : Int), v3 = .string x3_1 ∧ v4 = .int .i64 x4_1 ∧ Aside0 (figureheadref05_Norm.l0 kq x3_1 x4_1 a0_0 a0_1 a0_2 = some (r1, r2, r3)) ∧ Aside0 (kq ≤ k) ∧ Aside0 (w'.heap[gb208]? = some (.cells #[.bool a0_0, .string a0_1, .int .i64 a0_2] 23 (0, 0))) ∧ Aside0 (w'.heap[gb209]? = some (.cells #[.bool false, .string (⟨#[]⟩ : ByteArray), .int .i64 0] 23 (0, 0))) ∧ Aside0 (Below w.heap.size w w'))
    case atStart => exact ⟨(t210), (a0_2), (by first | rfl | (simp; done) | (simp [*]; done) | (simp [*, Fig.bne_nil]; done)), (by first | rfl | (simp; done) | (simp [*]; done) | (simp [*, Fig.bne_nil]; done)), H', ⟨Nat.le_refl _⟩, ⟨by (with_reducible repeat (first | refine blk_drewN ?_ _ | refine blk_drew ?_ | refine blk_alloc ?_ _)); exact BK208.out⟩, ⟨by (with_reducible repeat (first | refine blk_drewN ?_ _ | refine blk_drew ?_ | refine blk_alloc ?_ _)); exact BK209.out⟩, ⟨by repeat (first | (with_reducible first | exact HB.out | apply below_alloc | apply pw_below_drewN | apply below_drew1 | refine below_set ?_ GE208.out | refine below_set ?_ GE209.out) | exact HB.out)⟩⟩
    case round =>
      clear H'
      try clear c1
      try clear p2
      try clear c3
      try clear c3b0
      try clear c3b1
      try clear c6
      try clear c11
      try clear hcz12_0
      try clear hcz12_1
      try clear hcz12_2
      try clear hcz7_0
      try clear hcz7_1
      try clear hcz7_2
      try clear hcz8_0
      try clear hcz8_1
      try clear hcz8_2
      try clear hcz9011_0
      try clear hcz9011_1
      try clear hcz9011_2
      try clear hcz9012_0
      try clear hcz9012_1
      try clear hcz9012_2
      try clear hfz12_0
      try clear hfz12_1
      try clear hfz12_2
      try clear hfz7_0
      try clear hfz7_1
      try clear hfz7_2
      try clear hfz8_0
      try clear hfz8_1
      try clear hfz8_2
      try clear hfz9011_0
      try clear hfz9011_1
      try clear hfz9011_2
      try clear hfz9012_0
      try clear hfz9012_1
      try clear hfz9012_2
      obtain ⟨x3_1, x4_1, rfl, rfl, HA, HK1, BK208, BK209, HB⟩ := hrel
      cases gk with
      | zero => exact absurd HA.out (by simp [figureheadref05_Norm.l0])
      | succ k1 =>
        have H := HA.out
        clear HA
        simp only [figureheadref05_Norm.l0] at H
        obtain ⟨ji13, hji13⟩ : ∃ j_ : Int, (wrap64 ((x3_1.size : Int) - 1)) = j_ := ⟨_, rfl⟩
        replace H : (if 0 ≤ (ji13) then (if (ji13) < (x3_1.size : Int) then (if (bt x3_1 (ji13)) = 48 then (if (ji13) ≤ (x3_1.size : Int) then (figureheadref05_Norm.l0 k1 (x3_1.extract 0 ((ji13) : Int).toNat) (wrap64 (x4_1 + 1)) a0_0 a0_1 a0_2) else (none)) else (some (a0_0, x3_1, x4_1))) else (none)) else (none)) = some (r1, r2, r3) := by first | (rw [hji13] at H; exact H) | (simp only [hji13] at H ⊢; exact H)
        have hji13w : (IntKind.i64.wrap ((x3_1.size : Int) - 1)) = ji13 := (i64_w _).trans hji13
        by_cases c14 : 0 ≤ (ji13)
        · rw [if_pos c14] at H
          have c14b0 : decide (0 ≤ (ji13)) = true := decide_eq_true c14
          clear c14
          by_cases c15 : (ji13) < (x3_1.size : Int)
          · rw [if_pos c15] at H
            have c15b0 : decide ((ji13) < (x3_1.size : Int)) = true := decide_eq_true c15
            clear c15
            by_cases c17 : (bt x3_1 (ji13)) = 48
            · rw [if_pos c17] at H
              have c17b0 : ((bt x3_1 (ji13)) == 48) = true := beq_iff_eq.mpr c17
              have c17b1 : ((bt x3_1 (ji13)) != 48) = false := bne_eq_false_iff_eq.mpr c17
              clear c17
              have c18b0 := eq_true (of_decide_eq_true (by first | (with_reducible assumption) | assumption) : 0 ≤ (ji13))
              by_cases c19 : (ji13) ≤ (x3_1.size : Int)
              · rw [if_pos c19] at H
                have c19b0 := eq_true c19
                have c19b1 : decide ((ji13) ≤ (x3_1.size : Int)) = true := decide_eq_true c19
                clear c19
                have H' := Aside0.mk H
                clear H
                have p16 : 0 ≤ ((ji13) : Int) := of_decide_eq_true (by first | (with_reducible assumption) | assumption)
                have q16 : (ji13) < (x3_1.size : Int) := of_decide_eq_true (by first | (with_reducible assumption) | assumption)
                have hx16 := bt_at x3_1 (ji13)
                replace p16 := eq_true p16
                replace q16 := eq_true q16
                go_wp2
                go_roundg k1
                case measure => have := HK1.out; omega
                case rel => exact ⟨(x3_1.extract 0 ((ji13) : Int).toNat), (wrap64 (x4_1 + 1)), (by first | rfl | (simp; done) | (simp only [← hji13] <;> (first | rfl | simp)) | (simp [*]; done) | (simp [*, Fig.bne_nil]; done)), (by first | rfl | (simp; done) | (simp [*]; done) | (simp [*, Fig.bne_nil]; done)), H', ⟨by have := HK1.out; omega⟩, ⟨by (with_reducible repeat (first | refine blk_drewN ?_ _ | refine blk_drew ?_ | refine blk_alloc ?_ _)); exact BK208.out⟩, ⟨by (with_reducible repeat (first | refine blk_drewN ?_ _ | refine blk_drew ?_ | refine blk_alloc ?_ _)); exact BK209.out⟩, ⟨by repeat (first | (with_reducible first | exact HB.out | apply below_alloc | apply pw_below_drewN | apply below_drew1 | refine below_set ?_ GE208.out | refine below_set ?_ GE209.out) | exact HB.out)⟩⟩
              · rw [if_neg c19] at H
                exact absurd H (by simp)
            · rw [if_neg c17] at H
              have c17b0 : ((bt x3_1 (ji13)) == 48) = false := beq_eq_false_iff_ne.mpr c17
              have c17b1 : ((bt x3_1 (ji13)) != 48) = true := bne_iff_ne.mpr c17
              simp only [Option.some.injEq, Prod.mk.injEq] at H
              obtain ⟨rfl, rfl, rfl⟩ := H
              have p16 : 0 ≤ ((ji13) : Int) := of_decide_eq_true (by first | (with_reducible assumption) | assumption)
              have q16 : (ji13) < (x3_1.size : Int) := of_decide_eq_true (by first | (with_reducible assumption) | assumption)
              have hx16 := bt_at x3_1 (ji13)
              replace p16 := eq_true p16
              replace q16 := eq_true q16
              have hnb20 := NB208_209.out
              have hnc20 := NB209_208.out
              have hcz21_0 : wr.cell? ⟨gb208, 0, none⟩ = some (.bool a0_0) := (blk_cell BK208.out 0).trans rfl
              have hcz21_1 : wr.cell? ⟨gb208, 1, none⟩ = some (.string a0_1) := (blk_cell BK208.out 1).trans rfl
              have hcz21_2 : wr.cell? ⟨gb208, 2, none⟩ = some (.int .i64 a0_2) := (blk_cell BK208.out 2).trans rfl
              have hfz21_0 := blk_frozen BK208.out 0
              have hfz21_1 := blk_frozen BK208.out 1
              have hfz21_2 := blk_frozen BK208.out 2
              have hcz22_0 : wr.cell? ⟨gb209, 0, none⟩ = some (.bool false) := (blk_cell BK209.out 0).trans rfl
              have hcz22_1 : wr.cell? ⟨gb209, 1, none⟩ = some (.string (⟨#[]⟩ : ByteArray)) := (blk_cell BK209.out 1).trans rfl
              have hcz22_2 : wr.cell? ⟨gb209, 2, none⟩ = some (.int .i64 0) := (blk_cell BK209.out 2).trans rfl
              have hfz22_0 := blk_frozen BK209.out 0
              have hfz22_1 := blk_frozen BK209.out 1
              have hfz22_2 := blk_frozen BK209.out 2
              go_wp2
              refine bodyPost_ret (results_cell_row rfl _ _ gb209 23 #[.bool a0_0, .string x3_1, .int .i64 x4_1] (0, 0) _ rfl (by (with_reducible repeat (first | refine blk_drewN ?_ _ | refine blk_drew ?_ | refine blk_alloc ?_ _)); refine blk_put (cs := #[.bool a0_0, .string x3_1, .int .i64 0]) ?_ 2 _ rfl; (with_reducible repeat (first | refine blk_drewN ?_ _ | refine blk_drew ?_ | refine blk_alloc ?_ _)); refine blk_put (cs := #[.bool a0_0, .string (⟨#[]⟩ : ByteArray), .int .i64 0]) ?_ 1 _ rfl; (with_reducible repeat (first | refine blk_drewN ?_ _ | refine blk_drew ?_ | refine blk_alloc ?_ _)); refine blk_put (cs := #[.bool false, .string (⟨#[]⟩ : ByteArray), .int .i64 0]) ?_ 0 _ rfl; (with_reducible repeat (first | refine blk_drewN ?_ _ | refine blk_drew ?_ | refine blk_alloc ?_ _)); exact BK209.out) Tryd.underlying23 rfl (by kernel_rfl)) rfl ?_
              exact ⟨by first | rfl | (simp [errW_none, errW_some] <;> rfl) | (simp only [← hji13]; first | rfl | (simp [errW_none, errW_some] <;> rfl)) | (simp [*, errW_none, errW_some] <;> rfl), by repeat (first | (with_reducible first | exact HB.out | apply below_alloc | apply pw_below_drewN | apply below_drew1 | refine below_set ?_ GE208.out | refine below_set ?_ GE209.out) | exact HB.out)⟩
          · rw [if_neg c15] at H
            exact absurd H (by simp)
        · rw [if_neg c14] at H
          exact absurd H (by simp)
end Go.Proofs.YtjpokifkbclkiaaDoor.Px
end
section
namespace Go.Proofs.YtjpokifkbclkiaaDoor.Px
open Fig Go.RowKit Go.Proofs.YtjpokifkbclkiaaDoorW.PrintWords Go.Proofs.YtjpokifkbclkiaaDoorW.PrintLast Go.Proofs.YtjpokifkbclkiaaDoorW.PrintMore
attribute [local go_sem] max2_int min2_int max_two min_two max_three min_three max_four min_four   -- for this text's walks alone
attribute [local go_sem] fieldA23_0 fieldA23_1 fieldA23_2
def figureheadref01_Less.f (a0 : ByteArray) (a1 : ByteArray) : Option (Bool) := if (a0.size : Int) = (a1.size : Int) then (some (Op.bytesLess a0.toList a1.toList)) else (some (decide ((a0.size : Int) < (a1.size : Int))))
set_option maxHeartbeats 8000000 in
set_option maxRecDepth 100000 in
theorem figureheadref01_Less.calls (a0 : ByteArray) (a1 : ByteArray) (r : Bool) (w : World) (h : figureheadref01_Less.f a0 a1 = some r) :
    Calls Tryd.prog 43 #[.string a0, .string a1] w fun e w' => e = .returned (.bool r) ∧ Drawn0 w w' := by
  have H : (if (a0.size : Int) = (a1.size : Int) then (some (Op.bytesLess a0.toList a1.toList)) else (some (decide ((a0.size : Int) < (a1.size : Int))))) = some r := h
  clear h
  by_cases c3 : (a0.size : Int) = (a1.size : Int)
  · rw [if_pos c3] at H
    have c3b0 : ((a0.size : Int) == (a1.size : Int)) = true := beq_iff_eq.mpr c3
    have c3b1 : ((a0.size : Int) != (a1.size : Int)) = false := bne_eq_false_iff_eq.mpr c3
    have c3b2 : (a0.size == a1.size) = true := by first | simpa using c3 | (simp at c3 ⊢; omega)
    clear c3
    obtain rfl := Option.some.inj H
    go_enter Tryd.func43, Tryd.ntmps43
    go_wp2
    go_ret
    exact ⟨by first | rfl | (simp; done) | (simp [*]; done) | (simp [*, Fig.bne_nil]; done), by repeat (first | exact Drawn0.refl _ | apply Drawn0.step)⟩
  · rw [if_neg c3] at H
    have c3b0 : ((a0.size : Int) == (a1.size : Int)) = false := beq_eq_false_iff_ne.mpr c3
    have c3b1 : ((a0.size : Int) != (a1.size : Int)) = true := bne_iff_ne.mpr c3
    have c3b2 : (a0.size == a1.size) = false := by first | simpa using c3 | (simp at c3 ⊢; omega)
    obtain rfl := Option.some.inj H
    go_enter Tryd.func43, Tryd.ntmps43
    go_wp2
    go_ret
    exact ⟨by first | rfl | (simp; done) | (simp [*]; done) | (simp [*, Fig.bne_nil]; done), by repeat (first | exact Drawn0.refl _ | apply Drawn0.step)⟩
end Go.Proofs.YtjpokifkbclkiaaDoor.Px
end
section
namespace Go.Proofs.YtjpokifkbclkiaaDoor.Px
open Fig Go.RowKit Go.Proofs.YtjpokifkbclkiaaDoorW.PrintWords Go.Proofs.YtjpokifkbclkiaaDoorW.PrintLast Go.Proofs.YtjpokifkbclkiaaDoorW.PrintMore
attribute [local go_sem] max2_int min2_int max_two min_two max_three min_three max_four min_four   -- for this text's walks alone
attribute [local go_sem] fieldA23_0 fieldA23_1 fieldA23_2
def figureheadref01_Zeros.l0 : Nat → Int → List Int → Int → Option (ByteArray)
  | 0, _, _, _ => none
  | k + 1, x0, x3, x4 => if x4 < x0 then (if x3.length < 140737488355328 then (figureheadref01_Zeros.l0 k x0 (x3 ++ [48]) (wrap64 (x4 + 1))) else (none)) else (some (strOfNums x3))
def figureheadref01_Zeros.f (k : Nat) (a0 : Int) : Option (ByteArray) := figureheadref01_Zeros.l0 k a0 ([] : List Int) 0
theorem figureheadref01_Zeros.mono_l : ∀ k, (∀ y0 y1 y2, LeO (figureheadref01_Zeros.l0 k y0 y1 y2) (figureheadref01_Zeros.l0 (k + 1) y0 y1 y2))
  | 0 => fun _ _ _ r h => by simp [figureheadref01_Zeros.l0] at h
  | k + 1 => by
    have ih0 := figureheadref01_Zeros.mono_l k
    · intro y0 y1 y2
      unfold figureheadref01_Zeros.l0
      repeat' first
      | (with_reducible exact ih0 _ _ _)
      | (with_reducible exact LeO.refl _)
      | (with_reducible exact LeO.none _)
      | (with_reducible refine LeO.ite ?_ ?_)
      | (with_reducible refine LeO.bind ?_ (fun _ => ?_))
      | exact ih0 _ _ _
      | exact LeO.none _
      | refine LeO.ite ?_ ?_
      | refine LeO.bind ?_ (fun _ => ?_)
theorem figureheadref01_Zeros.mono : ∀ a0 k, LeO (figureheadref01_Zeros.f k a0) (figureheadref01_Zeros.f (k + 1) a0) := by
  intro a0 k
  have ih0 := figureheadref01_Zeros.mono_l k
  unfold figureheadref01_Zeros.f
  repeat' first
      | (with_reducible exact ih0 _ _ _)
      | (with_reducible exact LeO.refl _)
      | (with_reducible exact LeO.none _)
      | (with_reducible refine LeO.ite ?_ ?_)
      | (with_reducible refine LeO.bind ?_ (fun _ => ?_))
      | exact ih0 _ _ _
      | exact LeO.none _
      | refine LeO.ite ?_ ?_
      | refine LeO.bind ?_ (fun _ => ?_)
set_option maxHeartbeats 8000000 in
set_option maxRecDepth 100000 in
theorem figureheadref01_Zeros.calls (k : Nat) (a0 : Int) (r : ByteArray) (w : World) (h : figureheadref01_Zeros.f k a0 = some r) :
    Calls Tryd.prog 39 #[.int .i64 a0] w fun e w' => e = .returned (.string r) ∧ Below w.heap.size w w' := by
  have HB := Aside0.mk (Below.refl w.heap.size w)
  have H : (figureheadref01_Zeros.l0 k a0 ([] : List Int) 0) = some r := h
  clear h
  have H' := Aside0.mk H
  clear H
  go_enter Tryd.func39, Tryd.ntmps39
  go_wp2
  go_loopg [3, 4] k (fun kq v3 v4 w' => ∃ (x3_1 : List Int) (x4_1 : Int), v4 = .int .i64 x4_1 ∧ Aside0 (figureheadref01_Zeros.l0 kq a0 x3_1 x4_1 = some r) ∧ Aside0 (kq ≤ k) ∧ Aside0 (Kd.R (Kd.int .u8) 5 w' w.heap.size (fun _ => True) v3 x3_1) ∧ Aside0 (Below w.heap.size w w'))
  case atStart => exact ⟨(([] : List Int)), (0), (by first | rfl | (simp; done) | (simp [*]; done) | (simp [*, Fig.bne_nil]; done)), H', ⟨Nat.le_refl _⟩, ⟨by first | exact Kd.R_nil _ _ _ _ _ | exact Kd.N_nil _ _ _ _ _ | exact Kd.V_nil _ _ _ _ _ | exact Kd.Q_nil _ _ _ _ _ | exact Kd.S_nil _ _ _ _ _⟩, ⟨by repeat (first | (with_reducible first | exact HB.out | apply below_alloc | apply pw_below_drewN | apply below_drew1) | exact HB.out)⟩⟩
  case round =>
    clear H'
    obtain ⟨x3_1, x4_1, rfl, HA, HK1, HO_3, HB⟩ := hrel
    cases gk with
    | zero => exact absurd HA.out (by simp [figureheadref01_Zeros.l0])
    | succ k1 =>
      have H := HA.out
      clear HA
      simp only [figureheadref01_Zeros.l0] at H
      by_cases c2 : x4_1 < a0
      · rw [if_pos c2] at H
        have c2b0 : decide (x4_1 < a0) = true := decide_eq_true c2
        clear c2
        by_cases c3 : x3_1.length < 140737488355328
        · rw [if_pos c3] at H
          have LMc3 := Aside0.mk c3
          clear c3
          obtain ⟨y211, hy211⟩ : ∃ y_ : List Int, y_ = (x3_1 ++ [48]) := ⟨_, rfl⟩
          replace H : (figureheadref01_Zeros.l0 k1 a0 y211 (wrap64 (x4_1 + 1))) = some r := by first | (rw [hy211]; with_reducible exact H) | (have H2_ := (Option.bind_some _ _).symm.trans H; rw [hy211]; with_reducible exact H2_) | (have H2_ := (Option.bind_some _ _).symm.trans H; with_reducible exact H2_) | with_reducible exact H | (rw [hy211]; exact H) | exact H
          have Ny211 := Aside0.mk hy211
          clear hy211
          have H' := Aside0.mk H
          clear H
          go_wp2_with (first | ((with_reducible refine gate_builtin (b := .append) (xs := #[.tmp 10, .tmp 11]) rfl ?_); at_builtin; refine Kd.R_append (Kd.int .u8) (w0 := w) w.heap.size rfl (.tmp 10) (.tmp 11) 75 5 (.int .u8 0) 1 rfl Tryd.underlying75 info5 rfl (by decide) (by omega) u3 x3_1 48 [.int .u8 48] (fun _ => True) (fun _ => False) rfl rfl ?aP (fun _ hk => hk.elim) ?aF ?aO ?aB ?aS ?aL ?_; (case aP => exact rfl); (case aB => exact (by repeat (first | (with_reducible first | exact HB.out | apply below_alloc | apply pw_below_drewN | apply below_drew1) | exact HB.out))); (case aF => exact (fun _ _ => trivial)); (case aO => exact (by (with_reducible repeat (first | apply Kd.R_alloc | apply Kd.R_drewN | apply Kd.R_drew)); exact HO_3.out)); (case aS => exact (below_size (by repeat (first | (with_reducible first | exact HB.out | apply below_alloc | apply pw_below_drewN | apply below_drew1) | exact HB.out)))); (case aL => have := LMc3.out; omega); intro v212 w4 ho hb hg hat; rw [← Ny211.out] at ho; have n0_ := Aside0.mk (hb); have n1_ := Aside0.mk (ho); clear HB; clear HO_3; have HB := n0_; have HO213 := n1_; clear n0_ n1_; clear ho hb hg hat))
          go_roundg k1
          case measure => have := HK1.out; omega
          case rel => exact ⟨(y211), (wrap64 (x4_1 + 1)), (by first | rfl | (simp; done) | (simp [*]; done) | (simp [*, Fig.bne_nil]; done)), H', ⟨by have := HK1.out; omega⟩, ⟨by (with_reducible repeat (first | apply Kd.R_alloc | apply Kd.R_drewN | apply Kd.R_drew)); exact HO213.out⟩, ⟨by repeat (first | (with_reducible first | exact HB.out | apply below_alloc | apply pw_below_drewN | apply below_drew1) | exact HB.out)⟩⟩
        · rw [if_neg c3] at H
          exact absurd H (by simp)
      · rw [if_neg c2] at H
        have c2b0 : decide (x4_1 < a0) = false := decide_eq_false c2
        clear c2
        obtain rfl := Option.some.inj H
        have hcv5 := own_string (P := Tryd.prog) Tryd.underlying75 Tryd.underlying5 Tryd.underlying9 (Kd.own_of_R HO_3.out)
        go_wp2
        go_ret
        exact ⟨by first | rfl | (simp [errW_none, errW_some] <;> rfl) | (simp [*, errW_none, errW_some] <;> rfl), by repeat (first | (with_reducible first | exact HB.out | apply below_alloc | apply pw_below_drewN | apply below_drew1) | exact HB.out)⟩
end Go.Proofs.YtjpokifkbclkiaaDoor.Px
end
section
namespace Go.Proofs.YtjpokifkbclkiaaDoor.Px
open Fig Go.RowKit Go.Proofs.YtjpokifkbclkiaaDoorW.PrintWords Go.Proofs.YtjpokifkbclkiaaDoorW.PrintLast Go.Proofs.YtjpokifkbclkiaaDoorW.PrintMore
attribute [local go_sem] max2_int min2_int max_two min_two max_three min_three max_four min_four   -- for this text's walks alone
attribute [local go_sem] fieldA23_0 fieldA23_1 fieldA23_2
def figureheadref05_At.f (k : Nat) (a0_0 : Bool) (a0_1 : ByteArray) (a0_2 : Int) (a1 : Int) : Option (ByteArray) := (figureheadref01_Strip.f k a0_1).bind fun t236 => (if t236.toList = ([] : List UInt8) then (some (⟨#[]⟩ : ByteArray)) else ((figureheadref01_Zeros.f k (wrap64 (a0_2 - a1))).bind fun t237 => (if t236.size + t237.size ≤ 9223372036854775807 then (some (t236 ++ t237)) else (none))))
theorem figureheadref05_At.mono : ∀ a0 a1 a2 a3 k, LeO (figureheadref05_At.f k a0 a1 a2 a3) (figureheadref05_At.f (k + 1) a0 a1 a2 a3) := by
  intro a0 a1 a2 a3 k
  unfold figureheadref05_At.f
  repeat' first
      | (with_reducible exact figureheadref01_Strip.mono _ _)
      | (with_reducible exact figureheadref01_Zeros.mono _ _)
      | (with_reducible exact LeO.refl _)
      | (with_reducible exact LeO.none _)
      | (with_reducible refine LeO.ite ?_ ?_)
      | (with_reducible refine LeO.bind ?_ (fun _ => ?_))
      | exact figureheadref01_Strip.mono _ _
      | exact figureheadref01_Zeros.mono _ _
      | exact LeO.none _
      | refine LeO.ite ?_ ?_
      | refine LeO.bind ?_ (fun _ => ?_)
set_option maxHeartbeats 8000000 in
set_option maxRecDepth 100000 in
theorem figureheadref05_At.calls (k : Nat) (a0_0 : Bool) (a0_1 : ByteArray) (a0_2 : Int) (a1 : Int) (r : ByteArray) (w : World) (h : figureheadref05_At.f k a0_0 a0_1 a0_2 a1 = some r) :
    Calls Tryd.prog 41 #[.agg #[.bool a0_0, .string a0_1, .int .i64 a0_2], .int .i64 a1] w fun e w' => e = .returned (.string r) ∧ Below w.heap.size w w' := by
  have hu23 := Tryd.underlying23
  have HB := Aside0.mk (Below.refl w.heap.size w)
  have H : ((figureheadref01_Strip.f k a0_1).bind fun t236 => (if t236.toList = ([] : List UInt8) then (some (⟨#[]⟩ : ByteArray)) else ((figureheadref01_Zeros.f k (wrap64 (a0_2 - a1))).bind fun t237 => (if t236.size + t237.size ≤ 9223372036854775807 then (some (t236 ++ t237)) else (none))))) = some r := h
  clear h
  replace H := Option.bind_eq_some_iff.mp H
  obtain ⟨t236, A30, H⟩ := H
  replace H : (if t236.toList = ([] : List UInt8) then (some (⟨#[]⟩ : ByteArray)) else ((figureheadref01_Zeros.f k (wrap64 (a0_2 - a1))).bind fun t237 => (if t236.size + t237.size ≤ 9223372036854775807 then (some (t236 ++ t237)) else (none)))) = some r := H
  have A3 := Aside0.mk A30
  clear A30
  by_cases c4 : t236.toList = ([] : List UInt8)
  · rw [if_pos c4] at H
    have c4b0 : (t236.toList == ([] : List UInt8)) = true := beq_iff_eq.mpr c4
    have c4b1 : (t236.toList != ([] : List UInt8)) = false := bne_eq_false_iff_eq.mpr c4
    clear c4
    obtain rfl := Option.some.inj H
    go_enter Tryd.func41, Tryd.ntmps41
    go_wp2_with (first | ((with_reducible refine gate_dst (N := 2) rfl ?_); refine box_event ?hg (N := 2) ?hd (cs := #[.bool a0_0, .string a0_1, .int .i64 a0_2]) (t := 23) ?hr ?_; (case hd => rfl); (case hg => rfl); (case hr => first | (go_simp; done) | (go_simp; rfl)); intro gb235 hg w5 hbox hb; have n0_ := Aside0.mk (below_step (by repeat (first | (with_reducible first | exact HB.out | apply below_alloc | apply pw_below_drewN | apply below_drew1) | exact HB.out)) hb); have n1_ := Aside0.mk (hbox); have n2_ := Aside0.mk ((by rw [hg]; exact (below_size (by repeat (first | (with_reducible first | exact HB.out | apply below_alloc | apply pw_below_drewN | apply below_drew1) | exact HB.out))) : w.heap.size ≤ gb235)); have n3_ := Aside0.mk ((by rw [hg]; exact (below_size (by repeat (first | (with_reducible first | exact HB.out | apply below_alloc | apply pw_below_drewN | apply below_drew1) | exact HB.out))) : w.heap.size ≤ gb235)); clear HB; have HB := n0_; have BK235 := n1_; have GW235 := n2_; have GE235 := n3_; clear n0_ n1_ n2_ n3_; clear hb hbox hg; have hcz6_0 : w5.cell? ⟨gb235, 0, none⟩ = some (.bool a0_0) := (blk_cell BK235.out 0).trans rfl; have hcz6_1 : w5.cell? ⟨gb235, 1, none⟩ = some (.string a0_1) := (blk_cell BK235.out 1).trans rfl; have hcz6_2 : w5.cell? ⟨gb235, 2, none⟩ = some (.int .i64 a0_2) := (blk_cell BK235.out 2).trans rfl; have hfz6_0 := blk_frozen BK235.out 0; have hfz6_1 := blk_frozen BK235.out 1; have hfz6_2 := blk_frozen BK235.out 2) | ((with_reducible refine gate_callee (f := 38) rfl ?_); refine goesL_ (some 8) rfl rfl Tryd.func38 (by kernel_rfl) rfl #[.string a0_1] rfl (by (try simp only [List.map_toArray]); (try simp only [List.map_cons]); (try simp only [List.map_nil]); first | done | rfl | (simp only [List.length_drop, List.length_take]; rfl)) ?_; (with_reducible refine (figureheadref01_Strip.calls k a0_1 t236 _ A3.out).mono ?_); rintro e w' ⟨rfl, ⟨nd, rfl⟩⟩; refine ⟨_, rfl, ?_⟩))
    go_ret
    exact ⟨by first | rfl | (simp [errW_none, errW_some] <;> rfl) | (simp [*, errW_none, errW_some] <;> rfl), by repeat (first | (with_reducible first | exact HB.out | apply below_alloc | apply pw_below_drewN | apply below_drew1 | refine below_set ?_ GE235.out) | exact HB.out)⟩
  · rw [if_neg c4] at H
    have c4b0 : (t236.toList == ([] : List UInt8)) = false := beq_eq_false_iff_ne.mpr c4
    have c4b1 : (t236.toList != ([] : List UInt8)) = true := bne_iff_ne.mpr c4
    replace H := Option.bind_eq_some_iff.mp H
    obtain ⟨t237, A70, H⟩ := H
    replace H : (if t236.size + t237.size ≤ 9223372036854775807 then (some (t236 ++ t237)) else (none)) = some r := H
    have A7 := Aside0.mk A70
    clear A70
    by_cases c8 : t236.size + t237.size ≤ 9223372036854775807
    · rw [if_pos c8] at H
      have c8b0 := eq_true c8
      have c8b1 : decide (t236.size + t237.size ≤ 9223372036854775807) = true := decide_eq_true c8
      try have c8b2 : (9223372036854775807 < t236.size + t237.size) = False := eq_false (Nat.not_lt.2 c8)
      obtain rfl := Option.some.inj H
      go_enter Tryd.func41, Tryd.ntmps41
      go_wp2_with (first | ((with_reducible refine gate_dst (N := 2) rfl ?_); refine box_event ?hg (N := 2) ?hd (cs := #[.bool a0_0, .string a0_1, .int .i64 a0_2]) (t := 23) ?hr ?_; (case hd => rfl); (case hg => rfl); (case hr => first | (go_simp; done) | (go_simp; rfl)); intro gb235 hg w9 hbox hb; have n0_ := Aside0.mk (below_step (by repeat (first | (with_reducible first | exact HB.out | apply below_alloc | apply pw_below_drewN | apply below_drew1) | exact HB.out)) hb); have n1_ := Aside0.mk (hbox); have n2_ := Aside0.mk ((by rw [hg]; exact (below_size (by repeat (first | (with_reducible first | exact HB.out | apply below_alloc | apply pw_below_drewN | apply below_drew1) | exact HB.out))) : w.heap.size ≤ gb235)); have n3_ := Aside0.mk ((by rw [hg]; exact (below_size (by repeat (first | (with_reducible first | exact HB.out | apply below_alloc | apply pw_below_drewN | apply below_drew1) | exact HB.out))) : w.heap.size ≤ gb235)); clear HB; have HB := n0_; have BK235 := n1_; have GW235 := n2_; have GE235 := n3_; clear n0_ n1_ n2_ n3_; clear hb hbox hg; have hcz10_0 : w9.cell? ⟨gb235, 0, none⟩ = some (.bool a0_0) := (blk_cell BK235.out 0).trans rfl; have hcz10_1 : w9.cell? ⟨gb235, 1, none⟩ = some (.string a0_1) := (blk_cell BK235.out 1).trans rfl; have hcz10_2 : w9.cell? ⟨gb235, 2, none⟩ = some (.int .i64 a0_2) := (blk_cell BK235.out 2).trans rfl; have hfz10_0 := blk_frozen BK235.out 0; have hfz10_1 := blk_frozen BK235.out 1; have hfz10_2 := blk_frozen BK235.out 2) | ((with_reducible refine gate_callee (f := 38) rfl ?_); refine goesL_ (some 8) rfl rfl Tryd.func38 (by kernel_rfl) rfl #[.string a0_1] rfl (by (try simp only [List.map_toArray]); (try simp only [List.map_cons]); (try simp only [List.map_nil]); first | done | rfl | (simp only [List.length_drop, List.length_take]; rfl)) ?_; (with_reducible refine (figureheadref01_Strip.calls k a0_1 t236 _ A3.out).mono ?_); rintro e w' ⟨rfl, ⟨nd, rfl⟩⟩; refine ⟨_, rfl, ?_⟩) | ((with_reducible refine gate_callee (f := 39) rfl ?_); refine goesL_ (some 16) rfl rfl Tryd.func39 (by kernel_rfl) rfl #[.int .i64 (wrap64 (a0_2 - a1))] rfl (by (try simp only [List.map_toArray]); (try simp only [List.map_cons]); (try simp only [List.map_nil]); first | done | rfl | (simp only [List.length_drop, List.length_take]; rfl)) ?_; (with_reducible refine (figureheadref01_Zeros.calls k (wrap64 (a0_2 - a1)) t237 _ A7.out).mono ?_); rintro e w11 ⟨rfl, hb⟩; refine ⟨_, rfl, ?_⟩; have n0_ := Aside0.mk (blk_below (g := gb235) (o := .cells #[.bool a0_0, .string a0_1, .int .i64 a0_2] 23 (0, 0)) (by (with_reducible repeat (first | refine blk_drewN ?_ _ | refine blk_drew ?_ | refine blk_alloc ?_ _)); exact BK235.out) hb); have n1_ := Aside0.mk (below_step (by repeat (first | (with_reducible first | exact HB.out | apply below_alloc | apply pw_below_drewN | apply below_drew1 | refine below_set ?_ GE235.out) | exact HB.out)) hb); clear BK235; clear HB; have BK235 := n0_; have HB := n1_; clear n0_ n1_; (try clear hb); (try clear hb2); (try clear hk); (try clear hi)))
      go_ret
      exact ⟨by first | rfl | (simp [errW_none, errW_some] <;> rfl) | (simp [*, errW_none, errW_some] <;> rfl), by repeat (first | (with_reducible first | exact HB.out | apply below_alloc | apply pw_below_drewN | apply below_drew1 | refine below_set ?_ GE235.out) | exact HB.out)⟩
    · rw [if_neg c8] at H
      exact absurd H (by simp)
end Go.Proofs.YtjpokifkbclkiaaDoor.Px
end
section
namespace Go.Proofs.YtjpokifkbclkiaaDoor.Px
open Fig Go.RowKit Go.Proofs.YtjpokifkbclkiaaDoorW.PrintWords Go.Proofs.YtjpokifkbclkiaaDoorW.PrintLast Go.Proofs.YtjpokifkbclkiaaDoorW.PrintMore
attribute [local go_sem] max2_int min2_int max_two min_two max_three min_three max_four min_four   -- for this text's walks alone
attribute [local go_sem] fieldA23_0 fieldA23_1 fieldA23_2
mutual
def figureheadref05_Cmp.j0 : Nat → Int → Bool → ByteArray → Int → Bool → ByteArray → Int → Option (Int)
  | 0, _, _, _, _, _, _, _ => none
  | k + 1, x5, x301000, x301001, x301002, x302000, x302001, x302002 => (figureheadref05_At.f k x301000 x301001 x301002 x5).bind fun t302 => ((figureheadref05_At.f k x302000 x302001 x302002 x5).bind fun t303 => (if t302.toList = ([] : List UInt8) then (figureheadref05_Cmp.j1 k t302 t303 (t303.toList == ([] : List UInt8)) x301000 x301001 x301002 x302000 x302001 x302002) else (figureheadref05_Cmp.j1 k t302 t303 false x301000 x301001 x301002 x302000 x302001 x302002)))
def figureheadref05_Cmp.j1 : Nat → ByteArray → ByteArray → Bool → Bool → ByteArray → Int → Bool → ByteArray → Int → Option (Int)
  | 0, _, _, _, _, _, _, _, _, _ => none
  | k + 1, x6, x7, x27, x301000, x301001, x301002, x302000, x302001, x302002 => if x27 = true then (some 0) else (if (x301000 != x302000) = true then (if x301000 = true then (some (-1)) else (some 1)) else (if x6.toList = x7.toList then (some 0) else ((figureheadref01_Less.f x6 x7).bind fun t304 => (if (t304 != x301000) = true then (some (-1)) else (some 1)))))
end
def figureheadref05_Cmp.f (k : Nat) (a0_0 : Bool) (a0_1 : ByteArray) (a0_2 : Int) (a1_0 : Bool) (a1_1 : ByteArray) (a1_2 : Int) : Option (Int) := if a1_2 < a0_2 then (figureheadref05_Cmp.j0 k a1_2 a0_0 a0_1 a0_2 a1_0 a1_1 a1_2) else (figureheadref05_Cmp.j0 k a0_2 a0_0 a0_1 a0_2 a1_0 a1_1 a1_2)
theorem figureheadref05_Cmp.mono_l : ∀ k, (∀ y0 y1 y2 y3 y4 y5 y6, LeO (figureheadref05_Cmp.j0 k y0 y1 y2 y3 y4 y5 y6) (figureheadref05_Cmp.j0 (k + 1) y0 y1 y2 y3 y4 y5 y6)) ∧ (∀ y0 y1 y2 y3 y4 y5 y6 y7 y8, LeO (figureheadref05_Cmp.j1 k y0 y1 y2 y3 y4 y5 y6 y7 y8) (figureheadref05_Cmp.j1 (k + 1) y0 y1 y2 y3 y4 y5 y6 y7 y8))
  | 0 => ⟨fun _ _ _ _ _ _ _ r h => by simp [figureheadref05_Cmp.j0] at h, fun _ _ _ _ _ _ _ _ _ r h => by simp [figureheadref05_Cmp.j1] at h⟩
  | k + 1 => by
    obtain ⟨ih0, ih1⟩ := figureheadref05_Cmp.mono_l k
    refine ⟨?_, ?_⟩
    · intro y0 y1 y2 y3 y4 y5 y6
      unfold figureheadref05_Cmp.j0
      repeat' first
      | (with_reducible exact ih0 _ _ _ _ _ _ _)
      | (with_reducible exact ih1 _ _ _ _ _ _ _ _ _)
      | (with_reducible exact figureheadref05_At.mono _ _ _ _ _)
      | (with_reducible exact LeO.refl _)
      | (with_reducible exact LeO.none _)
      | (with_reducible refine LeO.ite ?_ ?_)
      | (with_reducible refine LeO.bind ?_ (fun _ => ?_))
      | exact ih0 _ _ _ _ _ _ _
      | exact ih1 _ _ _ _ _ _ _ _ _
      | exact figureheadref05_At.mono _ _ _ _ _
      | exact LeO.none _
      | refine LeO.ite ?_ ?_
      | refine LeO.bind ?_ (fun _ => ?_)
    · intro y0 y1 y2 y3 y4 y5 y6 y7 y8
      unfold figureheadref05_Cmp.j1
      repeat' first
      | (with_reducible exact ih0 _ _ _ _ _ _ _)
      | (with_reducible exact ih1 _ _ _ _ _ _ _ _ _)
      | (with_reducible exact figureheadref05_At.mono _ _ _ _ _)
      | (with_reducible exact LeO.refl _)
      | (with_reducible exact LeO.none _)
      | (with_reducible refine LeO.ite ?_ ?_)
      | (with_reducible refine LeO.bind ?_ (fun _ => ?_))
      | exact ih0 _ _ _ _ _ _ _
      | exact ih1 _ _ _ _ _ _ _ _ _
      | exact figureheadref05_At.mono _ _ _ _ _
      | exact LeO.none _
      | refine LeO.ite ?_ ?_
      | refine LeO.bind ?_ (fun _ => ?_)
theorem figureheadref05_Cmp.mono : ∀ a0 a1 a2 a3 a4 a5 k, LeO (figureheadref05_Cmp.f k a0 a1 a2 a3 a4 a5) (figureheadref05_Cmp.f (k + 1) a0 a1 a2 a3 a4 a5) := by
  intro a0 a1 a2 a3 a4 a5 k
  obtain ⟨ih0, ih1⟩ := figureheadref05_Cmp.mono_l k
  unfold figureheadref05_Cmp.f
  repeat' first
      | (with_reducible exact ih0 _ _ _ _ _ _ _)
      | (with_reducible exact ih1 _ _ _ _ _ _ _ _ _)
      | (with_reducible exact figureheadref05_At.mono _ _ _ _ _)
      | (with_reducible exact LeO.refl _)
      | (with_reducible exact LeO.none _)
      | (with_reducible refine LeO.ite ?_ ?_)
      | (with_reducible refine LeO.bind ?_ (fun _ => ?_))
      | exact ih0 _ _ _ _ _ _ _
      | exact ih1 _ _ _ _ _ _ _ _ _
      | exact figureheadref05_At.mono _ _ _ _ _
      | exact LeO.none _
      | refine LeO.ite ?_ ?_
      | refine LeO.bind ?_ (fun _ => ?_)
def figureheadref05_Cmp.T4 : Bool × List (List Nat × List Nat) := (true, [([], []), ([], []), ([0, 1], [0, 1]), ([], []), ([], []), ([3, 4, 2], [3, 4]), ([2, 5, 0, 1, 2], [2]), ([5, 6, 0, 1, 2, 3, 4, 5, 6], [5])])
def figureheadref05_Cmp.B4 : List Nat := [0, 0, 3, 0, 0, 31, 63, 127]
theorem figureheadref05_Cmp.tab4 : rtab .any (opsOf Tryd.f20 4) = figureheadref05_Cmp.T4 := by kernel_rfl
theorem figureheadref05_Cmp.bits4 : waitsOk figureheadref05_Cmp.T4.2 figureheadref05_Cmp.B4 = true := by kernel_rfl
set_option maxHeartbeats 8000000 in
set_option maxRecDepth 100000 in
theorem figureheadref05_Cmp.calls (k : Nat) (a0_0 : Bool) (a0_1 : ByteArray) (a0_2 : Int) (a1_0 : Bool) (a1_1 : ByteArray) (a1_2 : Int) (r : Int) (w : World) (h : figureheadref05_Cmp.f k a0_0 a0_1 a0_2 a1_0 a1_1 a1_2 = some r) :
    Calls Tryd.prog 20 #[.agg #[.bool a0_0, .string a0_1, .int .i64 a0_2], .agg #[.bool a1_0, .string a1_1, .int .i64 a1_2]] w fun e w' => e = .returned (.int .i64 r) ∧ Below w.heap.size w w' := by
  have hu23 := Tryd.underlying23
  have HB := Aside0.mk (Below.refl w.heap.size w)
  have H : (if a1_2 < a0_2 then (figureheadref05_Cmp.j0 k a1_2 a0_0 a0_1 a0_2 a1_0 a1_1 a1_2) else (figureheadref05_Cmp.j0 k a0_2 a0_0 a0_1 a0_2 a1_0 a1_1 a1_2)) = some r := h
  clear h
  have HC3 := Aside0.mk H
  clear H
  go_enter Tryd.func20, Tryd.ntmps20
  go_upto_if 13 with (first | ((with_reducible refine gate_dst (N := 2) rfl ?_); refine box_event ?hg (N := 2) ?hd (cs := #[.bool a0_0, .string a0_1, .int .i64 a0_2]) (t := 23) ?hr ?_; (case hd => rfl); (case hg => rfl); (case hr => first | (go_simp; done) | (go_simp; rfl)); intro gb300 hg w4 hbox hb; have n0_ := Aside0.mk (below_step (by repeat (first | (with_reducible first | exact HB.out | apply below_alloc | apply pw_below_drewN | apply below_drew1) | exact HB.out)) hb); have n1_ := Aside0.mk (hbox); have n2_ := Aside0.mk ((by rw [hg]; exact (below_size (by repeat (first | (with_reducible first | exact HB.out | apply below_alloc | apply pw_below_drewN | apply below_drew1) | exact HB.out))) : w.heap.size ≤ gb300)); have n3_ := Aside0.mk ((by rw [hg]; exact (below_size (by repeat (first | (with_reducible first | exact HB.out | apply below_alloc | apply pw_below_drewN | apply below_drew1) | exact HB.out))) : w.heap.size ≤ gb300)); clear HB; have HB := n0_; have BK300 := n1_; have GW300 := n2_; have GE300 := n3_; clear n0_ n1_ n2_ n3_; clear hb hbox hg) | ((with_reducible refine gate_dst (N := 3) rfl ?_); refine box_event ?hg (N := 3) ?hd (cs := #[.bool a1_0, .string a1_1, .int .i64 a1_2]) (t := 23) ?hr ?_; (case hd => rfl); (case hg => rfl); (case hr => first | (go_simp; done) | (go_simp; rfl)); intro gb301 hg w5 hbox hb; have n0_ := Aside0.mk (blk_below (g := gb300) (o := .cells #[.bool a0_0, .string a0_1, .int .i64 a0_2] 23 (0, 0)) (by (with_reducible repeat (first | refine blk_drewN ?_ _ | refine blk_drew ?_ | refine blk_alloc ?_ _)); exact BK300.out) hb); have n1_ := Aside0.mk (below_step (by repeat (first | (with_reducible first | exact HB.out | apply below_alloc | apply pw_below_drewN | apply below_drew1 | refine below_set ?_ GE300.out) | exact HB.out)) hb); have n2_ := Aside0.mk (hbox); have n3_ := Aside0.mk ((by rw [hg]; exact (below_size (by repeat (first | (with_reducible first | exact HB.out | apply below_alloc | apply pw_below_drewN | apply below_drew1 | refine below_set ?_ GE300.out) | exact HB.out))) : w.heap.size ≤ gb301)); have n4_ := Aside0.mk ((by rw [hg]; exact (below_size (by repeat (first | (with_reducible first | exact HB.out | apply below_alloc | apply pw_below_drewN | apply below_drew1 | refine below_set ?_ GE300.out) | exact HB.out))) : w.heap.size ≤ gb301)); have n5_ := Aside0.mk ((by rw [hg]; exact Nat.ne_of_lt (blk_lt (g := gb300) (o := .cells #[.bool a0_0, .string a0_1, .int .i64 a0_2] 23 (0, 0)) (by (with_reducible repeat (first | refine blk_drewN ?_ _ | refine blk_drew ?_ | refine blk_alloc ?_ _)); exact BK300.out)) : gb300 ≠ gb301)); have n6_ := Aside0.mk ((by rw [hg]; exact Nat.ne_of_gt (blk_lt (g := gb300) (o := .cells #[.bool a0_0, .string a0_1, .int .i64 a0_2] 23 (0, 0)) (by (with_reducible repeat (first | refine blk_drewN ?_ _ | refine blk_drew ?_ | refine blk_alloc ?_ _)); exact BK300.out)) : gb301 ≠ gb300)); clear BK300; clear HB; have BK300 := n0_; have HB := n1_; have BK301 := n2_; have GW301 := n3_; have GE301 := n4_; have NB300_301 := n5_; have NB301_300 := n6_; clear n0_ n1_ n2_ n3_ n4_ n5_ n6_; clear hb hbox hg; have hnb6 := NB300_301.out; have hnc6 := NB301_300.out; have hcz7_0 : w5.cell? ⟨gb300, 0, none⟩ = some (.bool a0_0) := (blk_cell BK300.out 0).trans rfl; have hcz7_1 : w5.cell? ⟨gb300, 1, none⟩ = some (.string a0_1) := (blk_cell BK300.out 1).trans rfl; have hcz7_2 : w5.cell? ⟨gb300, 2, none⟩ = some (.int .i64 a0_2) := (blk_cell BK300.out 2).trans rfl; have hfz7_0 := blk_frozen BK300.out 0; have hfz7_1 := blk_frozen BK300.out 1; have hfz7_2 := blk_frozen BK300.out 2; have hcz8_0 : w5.cell? ⟨gb301, 0, none⟩ = some (.bool a1_0) := (blk_cell BK301.out 0).trans rfl; have hcz8_1 : w5.cell? ⟨gb301, 1, none⟩ = some (.string a1_1) := (blk_cell BK301.out 1).trans rfl; have hcz8_2 : w5.cell? ⟨gb301, 2, none⟩ = some (.int .i64 a1_2) := (blk_cell BK301.out 2).trans rfl; have hfz8_0 := blk_frozen BK301.out 0; have hfz8_1 := blk_frozen BK301.out 1; have hfz8_2 := blk_frozen BK301.out 2))
  (try simp only [Act.put, List.setIfInBounds_toArray, List.set_cons_zero, List.set_cons_succ])
  go_cut [5] (fun v5 wc => ∃ (kq : Nat) (x5_2 : Int), v5 = .int .i64 x5_2 ∧ Aside0 (figureheadref05_Cmp.j0 kq x5_2 a0_0 a0_1 a0_2 a1_0 a1_1 a1_2 = some r) ∧ Aside0 (kq ≤ k) ∧ Aside0 (wc.heap[gb300]? = some (.cells #[.bool a0_0, .string a0_1, .int .i64 a0_2] 23 (0, 0))) ∧ Aside0 (wc.heap[gb301]? = some (.cells #[.bool a1_0, .string a1_1, .int .i64 a1_2] 23 (0, 0))) ∧ Aside0 (Below w.heap.size w wc))
  case first =>
    have H := HC3.out
    clear HC3
    by_cases c9 : a1_2 < a0_2
    · rw [if_pos c9] at H
      have c9b0 : decide (a1_2 < a0_2) = true := decide_eq_true c9
      clear c9
      (first | rw [c9b0] | (simp only [i64_w, i32_w]; rw [c9b0]) | skip)
      have H' := Aside0.mk H
      clear H
      have hnb10 := NB301_300.out
      have hnc10 := NB300_301.out
      have hcz11_0 : w5.cell? ⟨gb301, 0, none⟩ = some (.bool a1_0) := (blk_cell BK301.out 0).trans rfl
      have hcz11_1 : w5.cell? ⟨gb301, 1, none⟩ = some (.string a1_1) := (blk_cell BK301.out 1).trans rfl
      have hcz11_2 : w5.cell? ⟨gb301, 2, none⟩ = some (.int .i64 a1_2) := (blk_cell BK301.out 2).trans rfl
      have hfz11_0 := blk_frozen BK301.out 0
      have hfz11_1 := blk_frozen BK301.out 1
      have hfz11_2 := blk_frozen BK301.out 2
      go_wp2
      go_meet
      case rel => exact ⟨_, (a1_2), (by first | rfl | (simp; done) | (simp [*]; done) | (simp [*, Fig.bne_nil]; done)), H', ⟨by first | omega | exact Nat.le_refl _⟩, ⟨by (with_reducible repeat (first | refine blk_drewN ?_ _ | refine blk_drew ?_ | refine blk_alloc ?_ _)); exact BK300.out⟩, ⟨by (with_reducible repeat (first | refine blk_drewN ?_ _ | refine blk_drew ?_ | refine blk_alloc ?_ _)); exact BK301.out⟩, ⟨by repeat (first | (with_reducible first | exact HB.out | apply below_alloc | apply pw_below_drewN | apply below_drew1 | refine below_set ?_ GE300.out | refine below_set ?_ GE301.out) | exact HB.out)⟩⟩
    · rw [if_neg c9] at H
      have c9b0 : decide (a1_2 < a0_2) = false := decide_eq_false c9
      clear c9
      (first | rw [c9b0] | (simp only [i64_w, i32_w]; rw [c9b0]) | skip)
      have H' := Aside0.mk H
      clear H
      go_wp2
      go_meet
      case rel => exact ⟨_, (a0_2), (by first | rfl | (simp; done) | (simp [*]; done) | (simp [*, Fig.bne_nil]; done)), H', ⟨by first | omega | exact Nat.le_refl _⟩, ⟨by (with_reducible repeat (first | refine blk_drewN ?_ _ | refine blk_drew ?_ | refine blk_alloc ?_ _)); exact BK300.out⟩, ⟨by (with_reducible repeat (first | refine blk_drewN ?_ _ | refine blk_drew ?_ | refine blk_alloc ?_ _)); exact BK301.out⟩, ⟨by repeat (first | (with_reducible first | exact HB.out | apply below_alloc | apply pw_below_drewN | apply below_drew1 | refine below_set ?_ GE300.out | refine below_set ?_ GE301.out) | exact HB.out)⟩⟩
  case rest =>
    clear HC3
    try clear c1
    try clear c2
    try clear p2
    try clear c6
    try clear c9
    try clear c9b0
    try clear c10
    try clear hcz11_0
    try clear hcz11_1
    try clear hcz11_2
    try clear hcz7_0
    try clear hcz7_1
    try clear hcz7_2
    try clear hcz8_0
    try clear hcz8_1
    try clear hcz8_2
    try clear hfz11_0
    try clear hfz11_1
    try clear hfz11_2
    try clear hfz7_0
    try clear hfz7_1
    try clear hfz7_2
    try clear hfz8_0
    try clear hfz8_1
    try clear hfz8_2
    obtain ⟨kq, x5_2, rfl, HA, HJ2, BK300, BK301, HB⟩ := hcut
    cases kq with
    | zero => exact absurd HA.out (by simp [figureheadref05_Cmp.j0])
    | succ kj2 =>
      have H := HA.out
      clear HA
      simp only [figureheadref05_Cmp.j0] at H
      replace H := Option.bind_eq_some_iff.mp H
      obtain ⟨t302, A120, H⟩ := H
      replace H : ((figureheadref05_At.f kj2 a1_0 a1_1 a1_2 x5_2).bind fun t303 => (if t302.toList = ([] : List UInt8) then (figureheadref05_Cmp.j1 kj2 t302 t303 (t303.toList == ([] : List UInt8)) a0_0 a0_1 a0_2 a1_0 a1_1 a1_2) else (figureheadref05_Cmp.j1 kj2 t302 t303 false a0_0 a0_1 a0_2 a1_0 a1_1 a1_2))) = some r := H
      have A12 := Aside0.mk A120
      clear A120
      replace H := Option.bind_eq_some_iff.mp H
      obtain ⟨t303, A130, H⟩ := H
      replace H : (if t302.toList = ([] : List UInt8) then (figureheadref05_Cmp.j1 kj2 t302 t303 (t303.toList == ([] : List UInt8)) a0_0 a0_1 a0_2 a1_0 a1_1 a1_2) else (figureheadref05_Cmp.j1 kj2 t302 t303 false a0_0 a0_1 a0_2 a1_0 a1_1 a1_2)) = some r := H
      have A13 := Aside0.mk A130
      clear A130
      have HC14 := Aside0.mk H
      clear H
      try go_wp2
      (try (rw [drewN_self wc]; generalize hq_ : World.drewN wc _ = wc; have n0_ : Aside0 (wc.heap[gb300]? = some (.cells #[.bool a0_0, .string a0_1, .int .i64 a0_2] 23 (0, 0))) := ⟨by rw [← hq_]; exact (by (with_reducible repeat (first | refine blk_drewN ?_ _ | refine blk_drew ?_ | refine blk_alloc ?_ _)); exact BK300.out)⟩; have n1_ : Aside0 (wc.heap[gb301]? = some (.cells #[.bool a1_0, .string a1_1, .int .i64 a1_2] 23 (0, 0))) := ⟨by rw [← hq_]; exact (by (with_reducible repeat (first | refine blk_drewN ?_ _ | refine blk_drew ?_ | refine blk_alloc ?_ _)); exact BK301.out)⟩; have n2_ : Aside0 (Below w.heap.size w wc) := ⟨by rw [← hq_]; exact (by repeat (first | (with_reducible first | exact HB.out | apply below_alloc | apply pw_below_drewN | apply below_drew1 | refine below_set ?_ GE300.out | refine below_set ?_ GE301.out) | exact HB.out))⟩; clear BK300 BK301 HB hq_; have BK300 := n0_; have BK301 := n1_; have HB := n2_; clear n0_ n1_ n2_))
      have n0_ := Aside0.mk (blk_drew BK300.out)
      have n1_ := Aside0.mk (blk_drew BK301.out)
      have n2_ := Aside0.mk (below_drew1 HB.out)
      clear BK300
      clear BK301
      clear HB
      have BK300 := n0_
      have BK301 := n1_
      have HB := n2_
      clear n0_ n1_ n2_
      refine start_ (n := 8) (S := fun w' => w'.cell? ⟨gb300, 0, none⟩ = some (.bool a0_0) ∧ w'.cell? ⟨gb300, 1, none⟩ = some (.string a0_1) ∧ w'.cell? ⟨gb300, 2, none⟩ = some (.int .i64 a0_2) ∧ w'.cell? ⟨gb301, 0, none⟩ = some (.bool a1_0) ∧ w'.cell? ⟨gb301, 1, none⟩ = some (.string a1_1) ∧ w'.cell? ⟨gb301, 2, none⟩ = some (.int .i64 a1_2)) (ds := []) #[false, false, false, false, false, false, false, false] (by kernel_rfl) rfl rfl ⟨(blk_cell BK300.out 0).trans rfl, (blk_cell BK300.out 1).trans rfl, (blk_cell BK300.out 2).trans rfl, (blk_cell BK301.out 0).trans rfl, (blk_cell BK301.out 1).trans rfl, (blk_cell BK301.out 2).trans rfl⟩ (fun hHeld => ?_); refine with_tabW figureheadref05_Cmp.tab4 figureheadref05_Cmp.bits4 (fun HT_ HW_ => ?_)
      generalize wc.drew = w15 at BK300 BK301 HB hHeld ⊢
      refine pure_ (i := 1) (N := some 17) (v := ?_) (a' := ?_) #[false, true, false, false, false, false, false, false] rfl rfl (any_of HT_.out (by kernel_rfl)) (fun _ _ _ h => h) (Or.inl ⟨by rfl, ?_⟩) ?_ ?_
      rotate_left
      · intro w'
        go_simp
        with_reducible rfl
      rotate_left
      · simp only [Act.put, List.setIfInBounds_toArray, List.set_cons_zero, List.set_cons_succ]; (try simp only [i64_w]); (try simp only [i32_w])
        rfl
      refine pure_ (i := 4) (N := some 20) (v := ?_) (a' := ?_) #[false, true, false, false, true, false, false, false] rfl rfl (any_of HT_.out (by kernel_rfl)) (fun _ _ _ h => h) (Or.inl ⟨by rfl, ?_⟩) ?_ ?_
      rotate_left
      · intro w'
        go_simp
        with_reducible rfl
      rotate_left
      · simp only [Act.put, List.setIfInBounds_toArray, List.set_cons_zero, List.set_cons_succ]; (try simp only [i64_w]); (try simp only [i32_w])
        rfl
      refine take_ (i := 0) (N := some 16) (v := ?_) (a' := ?_) #[true, true, false, false, true, false, false, false] rfl rfl (take_ofW HT_.out HW_.out (by kernel_rfl)) (fun _ _ _ h => h) (Or.inl ⟨by rfl, ?_⟩) hHeld ?_ ?_
      rotate_left
      · rintro w' ⟨s0, s1, s2, s3, s4, s5⟩
        go_simp
        with_reducible rfl
      rotate_left
      · simp only [Act.put, List.setIfInBounds_toArray, List.set_cons_zero, List.set_cons_succ]; (try simp only [i64_w]); (try simp only [i32_w])
        rfl
      refine take_ (i := 3) (N := some 19) (v := ?_) (a' := ?_) #[true, true, false, true, true, false, false, false] rfl rfl (take_ofW HT_.out HW_.out (by kernel_rfl)) (fun _ _ _ h => h) (Or.inl ⟨by rfl, ?_⟩) hHeld ?_ ?_
      rotate_left
      · rintro w' ⟨s0, s1, s2, s3, s4, s5⟩
        go_simp
        with_reducible rfl
      rotate_left
      · simp only [Act.put, List.setIfInBounds_toArray, List.set_cons_zero, List.set_cons_succ]; (try simp only [i64_w]); (try simp only [i32_w])
        rfl
      refine one_ (i := 2) (N := some 18) #[true, true, true, true, true, false, false, false] rfl rfl (one_of HT_.out (by kernel_rfl)) (by decide) (fun K hK => ?_)
      refine goes_ Tryd.func41 (by kernel_rfl) rfl #[.agg #[.bool a0_0, .string a0_1, .int .i64 a0_2], .int .i64 x5_2] (by rfl) rfl rfl (by (try simp only [List.map_toArray]); (try simp only [List.map_cons]); (try simp only [List.map_nil]); first | done | rfl | (simp only [List.length_drop, List.length_take]; rfl)) ?_
      with_reducible refine (figureheadref05_At.calls kj2 a0_0 a0_1 a0_2 x5_2 t302 _ A12.out).mono ?_
      rintro e w16 ⟨rfl, hb⟩
      refine ⟨_, rfl, ?_⟩
      have n0_ := Aside0.mk (blk_below (g := gb300) (o := .cells #[.bool a0_0, .string a0_1, .int .i64 a0_2] 23 (0, 0)) (by (with_reducible repeat (first | refine blk_drewN ?_ _ | refine blk_drew ?_ | refine blk_alloc ?_ _)); exact BK300.out) hb)
      have n1_ := Aside0.mk (blk_below (g := gb301) (o := .cells #[.bool a1_0, .string a1_1, .int .i64 a1_2] 23 (0, 0)) (by (with_reducible repeat (first | refine blk_drewN ?_ _ | refine blk_drew ?_ | refine blk_alloc ?_ _)); exact BK301.out) hb)
      have n2_ := Aside0.mk (below_step (by repeat (first | (with_reducible first | exact HB.out | apply below_alloc | apply pw_below_drewN | apply below_drew1 | refine below_set ?_ GE300.out | refine below_set ?_ GE301.out) | exact HB.out)) hb)
      clear BK300
      clear BK301
      clear HB
      have BK300 := n0_
      have BK301 := n1_
      have HB := n2_
      clear n0_ n1_ n2_
      (try clear hb)
      (try clear hb2)
      (try clear hk)
      (try clear hi)
      refine hK.out _ _ ⟨(blk_cell BK300.out 0).trans rfl, (blk_cell BK300.out 1).trans rfl, (blk_cell BK300.out 2).trans rfl, (blk_cell BK301.out 0).trans rfl, (blk_cell BK301.out 1).trans rfl, (blk_cell BK301.out 2).trans rfl⟩ (fun hHeld => ?_)
      clear hK K
      refine norm_ (a' := ?_) ?_ ?_
      rotate_left
      · show Act.put _ (some 18) _ = _
        simp only [Act.put, List.setIfInBounds_toArray, List.set_cons_zero, List.set_cons_succ]; (try simp only [i64_w]); (try simp only [i32_w])
        rfl
      refine one_ (i := 5) (N := some 21) #[true, true, true, true, true, true, false, false] rfl rfl (one_of HT_.out (by kernel_rfl)) (by decide) (fun K hK => ?_)
      refine goes_ Tryd.func41 (by kernel_rfl) rfl #[.agg #[.bool a1_0, .string a1_1, .int .i64 a1_2], .int .i64 x5_2] (by rfl) rfl rfl (by (try simp only [List.map_toArray]); (try simp only [List.map_cons]); (try simp only [List.map_nil]); first | done | rfl | (simp only [List.length_drop, List.length_take]; rfl)) ?_
      with_reducible refine (figureheadref05_At.calls kj2 a1_0 a1_1 a1_2 x5_2 t303 _ A13.out).mono ?_
      rintro e w17 ⟨rfl, hb⟩
      refine ⟨_, rfl, ?_⟩
      have n0_ := Aside0.mk (blk_below (g := gb300) (o := .cells #[.bool a0_0, .string a0_1, .int .i64 a0_2] 23 (0, 0)) (by (with_reducible repeat (first | refine blk_drewN ?_ _ | refine blk_drew ?_ | refine blk_alloc ?_ _)); exact BK300.out) hb)
      have n1_ := Aside0.mk (blk_below (g := gb301) (o := .cells #[.bool a1_0, .string a1_1, .int .i64 a1_2] 23 (0, 0)) (by (with_reducible repeat (first | refine blk_drewN ?_ _ | refine blk_drew ?_ | refine blk_alloc ?_ _)); exact BK301.out) hb)
      have n2_ := Aside0.mk (below_step (by repeat (first | (with_reducible first | exact HB.out | apply below_alloc | apply pw_below_drewN | apply below_drew1 | refine below_set ?_ GE300.out | refine below_set ?_ GE301.out) | exact HB.out)) hb)
      clear BK300
      clear BK301
      clear HB
      have BK300 := n0_
      have BK301 := n1_
      have HB := n2_
      clear n0_ n1_ n2_
      (try clear hb)
      (try clear hb2)
      (try clear hk)
      (try clear hi)
      refine hK.out _ _ ⟨(blk_cell BK300.out 0).trans rfl, (blk_cell BK300.out 1).trans rfl, (blk_cell BK300.out 2).trans rfl, (blk_cell BK301.out 0).trans rfl, (blk_cell BK301.out 1).trans rfl, (blk_cell BK301.out 2).trans rfl⟩ (fun hHeld => ?_)
      clear hK K
      refine norm_ (a' := ?_) ?_ ?_
      rotate_left
      · show Act.put _ (some 21) _ = _
        simp only [Act.put, List.setIfInBounds_toArray, List.set_cons_zero, List.set_cons_succ]; (try simp only [i64_w]); (try simp only [i32_w])
        rfl
      refine pure_ (i := 6) (N := some 6) (v := ?_) (a' := ?_) #[true, true, true, true, true, true, true, false] rfl rfl (any_of HT_.out (by kernel_rfl)) (fun _ _ _ h => h) (Or.inl ⟨by rfl, ?_⟩) ?_ ?_
      rotate_left
      · intro w'
        go_simp
        with_reducible rfl
      rotate_left
      · simp only [Act.put, List.setIfInBounds_toArray, List.set_cons_zero, List.set_cons_succ]; (try simp only [i64_w]); (try simp only [i32_w])
        rfl
      refine pure_ (i := 7) (N := some 7) (v := ?_) (a' := ?_) #[true, true, true, true, true, true, true, true] rfl rfl (any_of HT_.out (by kernel_rfl)) (fun _ _ _ h => h) (Or.inl ⟨by rfl, ?_⟩) ?_ ?_
      rotate_left
      · intro w'
        go_simp
        with_reducible rfl
      rotate_left
      · simp only [Act.put, List.setIfInBounds_toArray, List.set_cons_zero, List.set_cons_succ]; (try simp only [i64_w]); (try simp only [i32_w])
        rfl
      refine done_ (done_of HT_.out (by kernel_rfl)) ?_
      go_upto_region 5 with (fail)
      go_cut [27] (fun v27 wc => ∃ (kq : Nat) (x27_13 : Bool), v27 = .bool x27_13 ∧ Aside0 (figureheadref05_Cmp.j1 kq t302 t303 x27_13 a0_0 a0_1 a0_2 a1_0 a1_1 a1_2 = some r) ∧ Aside0 (kq ≤ kj2) ∧ Aside0 (wc.heap[gb300]? = some (.cells #[.bool a0_0, .string a0_1, .int .i64 a0_2] 23 (0, 0))) ∧ Aside0 (wc.heap[gb301]? = some (.cells #[.bool a1_0, .string a1_1, .int .i64 a1_2] 23 (0, 0))) ∧ Aside0 (Below w.heap.size w wc))
      case first =>
        have H := HC14.out
        clear HC14
        by_cases c18 : t302.toList = ([] : List UInt8)
        · rw [if_pos c18] at H
          have c18b0 : (t302.toList == ([] : List UInt8)) = true := beq_iff_eq.mpr c18
          have c18b1 : (t302.toList != ([] : List UInt8)) = false := bne_eq_false_iff_eq.mpr c18
          clear c18
          (first | rw [c18b0] | (simp only [i64_w, i32_w]; rw [c18b0]) | skip)
          have H' := Aside0.mk H
          clear H
          go_wp2
          go_meet
          case rel => exact ⟨_, ((t303.toList == ([] : List UInt8))), (by first | rfl | (simp; done) | (simp [*]; done) | (simp [*, Fig.bne_nil]; done)), H', ⟨by have := HJ2.out; first | omega | exact Nat.le_refl _⟩, ⟨by (with_reducible repeat (first | refine blk_drewN ?_ _ | refine blk_drew ?_ | refine blk_alloc ?_ _)); exact BK300.out⟩, ⟨by (with_reducible repeat (first | refine blk_drewN ?_ _ | refine blk_drew ?_ | refine blk_alloc ?_ _)); exact BK301.out⟩, ⟨by repeat (first | (with_reducible first | exact HB.out | apply below_alloc | apply pw_below_drewN | apply below_drew1 | refine below_set ?_ GE300.out | refine below_set ?_ GE301.out) | exact HB.out)⟩⟩
        · rw [if_neg c18] at H
          have c18b0 : (t302.toList == ([] : List UInt8)) = false := beq_eq_false_iff_ne.mpr c18
          have c18b1 : (t302.toList != ([] : List UInt8)) = true := bne_iff_ne.mpr c18
          (first | rw [c18b0] | (simp only [i64_w, i32_w]; rw [c18b0]) | skip)
          have H' := Aside0.mk H
          clear H
          go_wp2
          go_meet
          case rel => exact ⟨_, (false), (by first | rfl | (simp; done) | (simp [*]; done) | (simp [*, Fig.bne_nil]; done)), H', ⟨by have := HJ2.out; first | omega | exact Nat.le_refl _⟩, ⟨by (with_reducible repeat (first | refine blk_drewN ?_ _ | refine blk_drew ?_ | refine blk_alloc ?_ _)); exact BK300.out⟩, ⟨by (with_reducible repeat (first | refine blk_drewN ?_ _ | refine blk_drew ?_ | refine blk_alloc ?_ _)); exact BK301.out⟩, ⟨by repeat (first | (with_reducible first | exact HB.out | apply below_alloc | apply pw_below_drewN | apply below_drew1 | refine below_set ?_ GE300.out | refine below_set ?_ GE301.out) | exact HB.out)⟩⟩
      case rest =>
        clear HC14
        try clear c1
        try clear c2
        try clear p2
        try clear c4
        try clear c6
        try clear c9
        try clear c9b0
        try clear c10
        try clear c18
        try clear c18b0
        try clear c18b1
        try clear hcz11_0
        try clear hcz11_1
        try clear hcz11_2
        try clear hcz7_0
        try clear hcz7_1
        try clear hcz7_2
        try clear hcz8_0
        try clear hcz8_1
        try clear hcz8_2
        try clear hfz11_0
        try clear hfz11_1
        try clear hfz11_2
        try clear hfz7_0
        try clear hfz7_1
        try clear hfz7_2
        try clear hfz8_0
        try clear hfz8_1
        try clear hfz8_2
        try clear p2
        obtain ⟨kq, x27_13, rfl, HA, HJ13, BK300, BK301, HB⟩ := hcut
        cases kq with
        | zero => exact absurd HA.out (by simp [figureheadref05_Cmp.j1])
        | succ kj13 =>
          have H := HA.out
          clear HA
          simp only [figureheadref05_Cmp.j1] at H
          by_cases c19 : x27_13 = true
          · subst c19
            have H1 : (some 0) = some r := by rw [if_pos rfl] at H; exact H
            clear H
            have H := H1
            clear H1
            obtain rfl := Option.some.inj H
            go_wp2
            go_ret
            exact ⟨by first | rfl | (simp [errW_none, errW_some] <;> rfl) | (simp [*, errW_none, errW_some] <;> rfl), by repeat (first | (with_reducible first | exact HB.out | apply below_alloc | apply pw_below_drewN | apply below_drew1 | refine below_set ?_ GE300.out | refine below_set ?_ GE301.out) | exact HB.out)⟩
          · replace c19 := Bool.eq_false_iff.mpr c19
            subst c19
            have H1 : (if (a0_0 != a1_0) = true then (if a0_0 = true then (some (-1)) else (some 1)) else (if t302.toList = t303.toList then (some 0) else ((figureheadref01_Less.f t302 t303).bind fun t304 => (if (t304 != a0_0) = true then (some (-1)) else (some 1))))) = some r := by rw [if_neg (show ¬ (false = true) by decide)] at H; exact H
            clear H
            have H := H1
            clear H1
            by_cases c20 : (a0_0 != a1_0) = true
            · rw [if_pos c20] at H
              have c20b0 : (a0_0 != a1_0) = true := c20
              (try (have c20b1 : decide (a0_0 = a1_0) = false := by simpa using c20))
              (try (have c20b2 : (a0_0 == a1_0) = false := by simpa using c20))
              (try (have c20b3 : ¬ (a0_0 = a1_0) := by simpa using c20))
              clear c20
              by_cases c21 : a0_0 = true
              · subst c21
                have H1 : (some (-1)) = some r := by rw [if_pos rfl] at H; exact H
                clear H
                have H := H1
                clear H1
                obtain rfl := Option.some.inj H
                have hnb22 := NB300_301.out
                have hnc22 := NB301_300.out
                have hcz23_0 : wc.cell? ⟨gb300, 0, none⟩ = some (.bool true) := (blk_cell BK300.out 0).trans rfl
                have hcz23_1 : wc.cell? ⟨gb300, 1, none⟩ = some (.string a0_1) := (blk_cell BK300.out 1).trans rfl
                have hcz23_2 : wc.cell? ⟨gb300, 2, none⟩ = some (.int .i64 a0_2) := (blk_cell BK300.out 2).trans rfl
                have hfz23_0 := blk_frozen BK300.out 0
                have hfz23_1 := blk_frozen BK300.out 1
                have hfz23_2 := blk_frozen BK300.out 2
                have hcz24_0 : wc.cell? ⟨gb301, 0, none⟩ = some (.bool a1_0) := (blk_cell BK301.out 0).trans rfl
                have hcz24_1 : wc.cell? ⟨gb301, 1, none⟩ = some (.string a1_1) := (blk_cell BK301.out 1).trans rfl
                have hcz24_2 : wc.cell? ⟨gb301, 2, none⟩ = some (.int .i64 a1_2) := (blk_cell BK301.out 2).trans rfl
                have hfz24_0 := blk_frozen BK301.out 0
                have hfz24_1 := blk_frozen BK301.out 1
                have hfz24_2 := blk_frozen BK301.out 2
                go_wp2
                go_ret
                exact ⟨by first | rfl | (simp [errW_none, errW_some] <;> rfl) | (simp [*, errW_none, errW_some] <;> rfl), by repeat (first | (with_reducible first | exact HB.out | apply below_alloc | apply pw_below_drewN | apply below_drew1 | refine below_set ?_ GE300.out | refine below_set ?_ GE301.out) | exact HB.out)⟩
              · replace c21 := Bool.eq_false_iff.mpr c21
                subst c21
                have H1 : (some 1) = some r := by rw [if_neg (show ¬ (false = true) by decide)] at H; exact H
                clear H
                have H := H1
                clear H1
                obtain rfl := Option.some.inj H
                have hnb25 := NB300_301.out
                have hnc25 := NB301_300.out
                have hcz26_0 : wc.cell? ⟨gb300, 0, none⟩ = some (.bool false) := (blk_cell BK300.out 0).trans rfl
                have hcz26_1 : wc.cell? ⟨gb300, 1, none⟩ = some (.string a0_1) := (blk_cell BK300.out 1).trans rfl
                have hcz26_2 : wc.cell? ⟨gb300, 2, none⟩ = some (.int .i64 a0_2) := (blk_cell BK300.out 2).trans rfl
                have hfz26_0 := blk_frozen BK300.out 0
                have hfz26_1 := blk_frozen BK300.out 1
                have hfz26_2 := blk_frozen BK300.out 2
                have hcz27_0 : wc.cell? ⟨gb301, 0, none⟩ = some (.bool a1_0) := (blk_cell BK301.out 0).trans rfl
                have hcz27_1 : wc.cell? ⟨gb301, 1, none⟩ = some (.string a1_1) := (blk_cell BK301.out 1).trans rfl
                have hcz27_2 : wc.cell? ⟨gb301, 2, none⟩ = some (.int .i64 a1_2) := (blk_cell BK301.out 2).trans rfl
                have hfz27_0 := blk_frozen BK301.out 0
                have hfz27_1 := blk_frozen BK301.out 1
                have hfz27_2 := blk_frozen BK301.out 2
                go_wp2
                go_ret
                exact ⟨by first | rfl | (simp [errW_none, errW_some] <;> rfl) | (simp [*, errW_none, errW_some] <;> rfl), by repeat (first | (with_reducible first | exact HB.out | apply below_alloc | apply pw_below_drewN | apply below_drew1 | refine below_set ?_ GE300.out | refine below_set ?_ GE301.out) | exact HB.out)⟩
            · rw [if_neg c20] at H
              have c20b0 : (a0_0 != a1_0) = false := by simpa using c20
              (try (have c20b1 : decide (a0_0 = a1_0) = true := by simpa using c20))
              (try (have c20b2 : (a0_0 == a1_0) = true := by simpa using c20))
              clear c20
              by_cases c28 : t302.toList = t303.toList
              · rw [if_pos c28] at H
                have c28b0 : (t302.toList == t303.toList) = true := beq_iff_eq.mpr c28
                have c28b1 : (t302.toList != t303.toList) = false := bne_eq_false_iff_eq.mpr c28
                clear c28
                obtain rfl := Option.some.inj H
                have hnb29 := NB300_301.out
                have hnc29 := NB301_300.out
                have hcz30_0 : wc.cell? ⟨gb300, 0, none⟩ = some (.bool a0_0) := (blk_cell BK300.out 0).trans rfl
                have hcz30_1 : wc.cell? ⟨gb300, 1, none⟩ = some (.string a0_1) := (blk_cell BK300.out 1).trans rfl
                have hcz30_2 : wc.cell? ⟨gb300, 2, none⟩ = some (.int .i64 a0_2) := (blk_cell BK300.out 2).trans rfl
                have hfz30_0 := blk_frozen BK300.out 0
                have hfz30_1 := blk_frozen BK300.out 1
                have hfz30_2 := blk_frozen BK300.out 2
                have hcz31_0 : wc.cell? ⟨gb301, 0, none⟩ = some (.bool a1_0) := (blk_cell BK301.out 0).trans rfl
                have hcz31_1 : wc.cell? ⟨gb301, 1, none⟩ = some (.string a1_1) := (blk_cell BK301.out 1).trans rfl
                have hcz31_2 : wc.cell? ⟨gb301, 2, none⟩ = some (.int .i64 a1_2) := (blk_cell BK301.out 2).trans rfl
                have hfz31_0 := blk_frozen BK301.out 0
                have hfz31_1 := blk_frozen BK301.out 1
                have hfz31_2 := blk_frozen BK301.out 2
                go_wp2
                go_ret
                exact ⟨by first | rfl | (simp [errW_none, errW_some] <;> rfl) | (simp [*, errW_none, errW_some] <;> rfl), by repeat (first | (with_reducible first | exact HB.out | apply below_alloc | apply pw_below_drewN | apply below_drew1 | refine below_set ?_ GE300.out | refine below_set ?_ GE301.out) | exact HB.out)⟩
              · rw [if_neg c28] at H
                have c28b0 : (t302.toList == t303.toList) = false := beq_eq_false_iff_ne.mpr c28
                have c28b1 : (t302.toList != t303.toList) = true := bne_iff_ne.mpr c28
                replace H := Option.bind_eq_some_iff.mp H
                obtain ⟨t304, A320, H⟩ := H
                replace H : (if (t304 != a0_0) = true then (some (-1)) else (some 1)) = some r := H
                have A32 := Aside0.mk A320
                clear A320
                by_cases c33 : (t304 != a0_0) = true
                · rw [if_pos c33] at H
                  have c33b0 : (t304 != a0_0) = true := c33
                  (try (have c33b1 : decide (t304 = a0_0) = false := by simpa using c33))
                  (try (have c33b2 : (t304 == a0_0) = false := by simpa using c33))
                  (try (have c33b3 : ¬ (t304 = a0_0) := by simpa using c33))
                  clear c33
                  obtain rfl := Option.some.inj H
                  have hnb34 := NB300_301.out
                  have hnc34 := NB301_300.out
                  have hcz35_0 : wc.cell? ⟨gb300, 0, none⟩ = some (.bool a0_0) := (blk_cell BK300.out 0).trans rfl
                  have hcz35_1 : wc.cell? ⟨gb300, 1, none⟩ = some (.string a0_1) := (blk_cell BK300.out 1).trans rfl
                  have hcz35_2 : wc.cell? ⟨gb300, 2, none⟩ = some (.int .i64 a0_2) := (blk_cell BK300.out 2).trans rfl
                  have hfz35_0 := blk_frozen BK300.out 0
                  have hfz35_1 := blk_frozen BK300.out 1
                  have hfz35_2 := blk_frozen BK300.out 2
                  have hcz36_0 : wc.cell? ⟨gb301, 0, none⟩ = some (.bool a1_0) := (blk_cell BK301.out 0).trans rfl
                  have hcz36_1 : wc.cell? ⟨gb301, 1, none⟩ = some (.string a1_1) := (blk_cell BK301.out 1).trans rfl
                  have hcz36_2 : wc.cell? ⟨gb301, 2, none⟩ = some (.int .i64 a1_2) := (blk_cell BK301.out 2).trans rfl
                  have hfz36_0 := blk_frozen BK301.out 0
                  have hfz36_1 := blk_frozen BK301.out 1
                  have hfz36_2 := blk_frozen BK301.out 2
                  try go_wp2
                  (try (rw [drewN_self wc]; generalize hq_ : World.drewN wc _ = wc; have n0_ : Aside0 (wc.heap[gb300]? = some (.cells #[.bool a0_0, .string a0_1, .int .i64 a0_2] 23 (0, 0))) := ⟨by rw [← hq_]; exact (by (with_reducible repeat (first | refine blk_drewN ?_ _ | refine blk_drew ?_ | refine blk_alloc ?_ _)); exact BK300.out)⟩; have n1_ : Aside0 (wc.heap[gb301]? = some (.cells #[.bool a1_0, .string a1_1, .int .i64 a1_2] 23 (0, 0))) := ⟨by rw [← hq_]; exact (by (with_reducible repeat (first | refine blk_drewN ?_ _ | refine blk_drew ?_ | refine blk_alloc ?_ _)); exact BK301.out)⟩; have n2_ : Aside0 (Below w.heap.size w wc) := ⟨by rw [← hq_]; exact (by repeat (first | (with_reducible first | exact HB.out | apply below_alloc | apply pw_below_drewN | apply below_drew1 | refine below_set ?_ GE300.out | refine below_set ?_ GE301.out) | exact HB.out))⟩; clear BK300 BK301 HB hq_; have BK300 := n0_; have BK301 := n1_; have HB := n2_; clear n0_ n1_ n2_))
                  have n0_ := Aside0.mk (blk_drew BK300.out)
                  have n1_ := Aside0.mk (blk_drew BK301.out)
                  have n2_ := Aside0.mk (below_drew1 HB.out)
                  clear BK300
                  clear BK301
                  clear HB
                  have BK300 := n0_
                  have BK301 := n1_
                  have HB := n2_
                  clear n0_ n1_ n2_
                  refine start_ (n := 6) (S := fun w' => w'.cell? ⟨gb300, 0, none⟩ = some (.bool a0_0) ∧ w'.cell? ⟨gb300, 1, none⟩ = some (.string a0_1) ∧ w'.cell? ⟨gb300, 2, none⟩ = some (.int .i64 a0_2)) (ds := []) #[false, false, false, false, false, false] (by kernel_rfl) rfl rfl ⟨(blk_cell BK300.out 0).trans rfl, (blk_cell BK300.out 1).trans rfl, (blk_cell BK300.out 2).trans rfl⟩ (fun hHeld => ?_)
                  generalize wc.drew = w37 at BK300 BK301 HB hHeld ⊢
                  refine pure_ (i := 0) (N := some 38) (v := ?_) (a' := ?_) #[true, false, false, false, false, false] rfl rfl (by kernel_rfl) (fun _ _ _ h => h) (Or.inl ⟨by rfl, ?_⟩) ?_ ?_
                  rotate_left
                  · intro w'
                    go_simp
                    with_reducible rfl
                  rotate_left
                  · simp only [Act.put, List.setIfInBounds_toArray, List.set_cons_zero, List.set_cons_succ]; (try simp only [i64_w]); (try simp only [i32_w])
                    rfl
                  refine pure_ (i := 1) (N := some 39) (v := ?_) (a' := ?_) #[true, true, false, false, false, false] rfl rfl (by kernel_rfl) (fun _ _ _ h => h) (Or.inl ⟨by rfl, ?_⟩) ?_ ?_
                  rotate_left
                  · intro w'
                    go_simp
                    with_reducible rfl
                  rotate_left
                  · simp only [Act.put, List.setIfInBounds_toArray, List.set_cons_zero, List.set_cons_succ]; (try simp only [i64_w]); (try simp only [i32_w])
                    rfl
                  refine pure_ (i := 3) (N := some 41) (v := ?_) (a' := ?_) #[true, true, false, true, false, false] rfl rfl (by kernel_rfl) (fun _ _ _ h => h) (Or.inl ⟨by rfl, ?_⟩) ?_ ?_
                  rotate_left
                  · intro w'
                    go_simp
                    with_reducible rfl
                  rotate_left
                  · simp only [Act.put, List.setIfInBounds_toArray, List.set_cons_zero, List.set_cons_succ]; (try simp only [i64_w]); (try simp only [i32_w])
                    rfl
                  refine take_ (i := 4) (N := some 42) (v := ?_) (a' := ?_) #[true, true, false, true, true, false] rfl rfl (by kernel_rfl) (fun _ _ _ h => h) (Or.inl ⟨by rfl, ?_⟩) hHeld ?_ ?_
                  rotate_left
                  · rintro w' ⟨s0, s1, s2⟩
                    go_simp
                    with_reducible rfl
                  rotate_left
                  · simp only [Act.put, List.setIfInBounds_toArray, List.set_cons_zero, List.set_cons_succ]; (try simp only [i64_w]); (try simp only [i32_w])
                    rfl
                  refine one_ (i := 2) (N := some 40) #[true, true, true, true, true, false] rfl rfl (by kernel_rfl) (by decide) (fun K hK => ?_)
                  refine goes_ Tryd.func43 (by kernel_rfl) rfl #[.string t302, .string t303] (by rfl) rfl rfl (by (try simp only [List.map_toArray]); (try simp only [List.map_cons]); (try simp only [List.map_nil]); first | done | rfl | (simp only [List.length_drop, List.length_take]; rfl)) ?_
                  with_reducible refine (figureheadref01_Less.calls t302 t303 t304 _ A32.out).mono ?_
                  rintro e w' ⟨rfl, ⟨nd, rfl⟩⟩
                  refine ⟨_, rfl, ?_⟩
                  refine hK.out _ _ ⟨(blk_cell BK300.out 0).trans rfl, (blk_cell BK300.out 1).trans rfl, (blk_cell BK300.out 2).trans rfl⟩ (fun hHeld => ?_)
                  clear hK K
                  refine norm_ (a' := ?_) ?_ ?_
                  rotate_left
                  · show Act.put _ (some 40) _ = _
                    simp only [Act.put, List.setIfInBounds_toArray, List.set_cons_zero, List.set_cons_succ]; (try simp only [i64_w]); (try simp only [i32_w])
                    rfl
                  refine pure_ (i := 5) (N := some 43) (v := ?_) (a' := ?_) #[true, true, true, true, true, true] rfl rfl (by kernel_rfl) (fun _ _ _ h => h) (Or.inl ⟨by rfl, ?_⟩) ?_ ?_
                  rotate_left
                  · intro w'
                    go_simp
                    with_reducible rfl
                  rotate_left
                  · simp only [Act.put, List.setIfInBounds_toArray, List.set_cons_zero, List.set_cons_succ]; (try simp only [i64_w]); (try simp only [i32_w])
                    rfl
                  refine done_ (by kernel_rfl) ?_
                  try go_wp2
                  go_ret
                  exact ⟨by first | rfl | (simp [errW_none, errW_some] <;> rfl) | (simp [*, errW_none, errW_some] <;> rfl), by repeat (first | (with_reducible first | exact HB.out | apply below_alloc | apply pw_below_drewN | apply below_drew1 | refine below_set ?_ GE300.out | refine below_set ?_ GE301.out) | exact HB.out)⟩
                · rw [if_neg c33] at H
                  have c33b0 : (t304 != a0_0) = false := by simpa using c33
                  (try (have c33b1 : decide (t304 = a0_0) = true := by simpa using c33))
                  (try (have c33b2 : (t304 == a0_0) = true := by simpa using c33))
                  clear c33
                  obtain rfl := Option.some.inj H
                  have hnb38 := NB300_301.out
                  have hnc38 := NB301_300.out
                  have hcz39_0 : wc.cell? ⟨gb300, 0, none⟩ = some (.bool a0_0) := (blk_cell BK300.out 0).trans rfl
                  have hcz39_1 : wc.cell? ⟨gb300, 1, none⟩ = some (.string a0_1) := (blk_cell BK300.out 1).trans rfl
                  have hcz39_2 : wc.cell? ⟨gb300, 2, none⟩ = some (.int .i64 a0_2) := (blk_cell BK300.out 2).trans rfl
                  have hfz39_0 := blk_frozen BK300.out 0
                  have hfz39_1 := blk_frozen BK300.out 1
                  have hfz39_2 := blk_frozen BK300.out 2
                  have hcz40_0 : wc.cell? ⟨gb301, 0, none⟩ = some (.bool a1_0) := (blk_cell BK301.out 0).trans rfl
                  have hcz40_1 : wc.cell? ⟨gb301, 1, none⟩ = some (.string a1_1) := (blk_cell BK301.out 1).trans rfl
                  have hcz40_2 : wc.cell? ⟨gb301, 2, none⟩ = some (.int .i64 a1_2) := (blk_cell BK301.out 2).trans rfl
                  have hfz40_0 := blk_frozen BK301.out 0
                  have hfz40_1 := blk_frozen BK301.out 1
                  have hfz40_2 := blk_frozen BK301.out 2
                  try go_wp2
                  (try (rw [drewN_self wc]; generalize hq_ : World.drewN wc _ = wc; have n0_ : Aside0 (wc.heap[gb300]? = some (.cells #[.bool a0_0, .string a0_1, .int .i64 a0_2] 23 (0, 0))) := ⟨by rw [← hq_]; exact (by (with_reducible repeat (first | refine blk_drewN ?_ _ | refine blk_drew ?_ | refine blk_alloc ?_ _)); exact BK300.out)⟩; have n1_ : Aside0 (wc.heap[gb301]? = some (.cells #[.bool a1_0, .string a1_1, .int .i64 a1_2] 23 (0, 0))) := ⟨by rw [← hq_]; exact (by (with_reducible repeat (first | refine blk_drewN ?_ _ | refine blk_drew ?_ | refine blk_alloc ?_ _)); exact BK301.out)⟩; have n2_ : Aside0 (Below w.heap.size w wc) := ⟨by rw [← hq_]; exact (by repeat (first | (with_reducible first | exact HB.out | apply below_alloc | apply pw_below_drewN | apply below_drew1 | refine below_set ?_ GE300.out | refine below_set ?_ GE301.out) | exact HB.out))⟩; clear BK300 BK301 HB hq_; have BK300 := n0_; have BK301 := n1_; have HB := n2_; clear n0_ n1_ n2_))
                  have n0_ := Aside0.mk (blk_drew BK300.out)
                  have n1_ := Aside0.mk (blk_drew BK301.out)
                  have n2_ := Aside0.mk (below_drew1 HB.out)
                  clear BK300
                  clear BK301
                  clear HB
                  have BK300 := n0_
                  have BK301 := n1_
                  have HB := n2_
                  clear n0_ n1_ n2_
                  refine start_ (n := 6) (S := fun w' => w'.cell? ⟨gb300, 0, none⟩ = some (.bool a0_0) ∧ w'.cell? ⟨gb300, 1, none⟩ = some (.string a0_1) ∧ w'.cell? ⟨gb300, 2, none⟩ = some (.int .i64 a0_2)) (ds := []) #[false, false, false, false, false, false] (by kernel_rfl) rfl rfl ⟨(blk_cell BK300.out 0).trans rfl, (blk_cell BK300.out 1).trans rfl, (blk_cell BK300.out 2).trans rfl⟩ (fun hHeld => ?_)
                  generalize wc.drew = w41 at BK300 BK301 HB hHeld ⊢
                  refine pure_ (i := 0) (N := some 38) (v := ?_) (a' := ?_) #[true, false, false, false, false, false] rfl rfl (by kernel_rfl) (fun _ _ _ h => h) (Or.inl ⟨by rfl, ?_⟩) ?_ ?_
                  rotate_left
                  · intro w'
                    go_simp
                    with_reducible rfl
                  rotate_left
                  · simp only [Act.put, List.setIfInBounds_toArray, List.set_cons_zero, List.set_cons_succ]; (try simp only [i64_w]); (try simp only [i32_w])
                    rfl
                  refine pure_ (i := 1) (N := some 39) (v := ?_) (a' := ?_) #[true, true, false, false, false, false] rfl rfl (by kernel_rfl) (fun _ _ _ h => h) (Or.inl ⟨by rfl, ?_⟩) ?_ ?_
                  rotate_left
                  · intro w'
                    go_simp
                    with_reducible rfl
                  rotate_left
                  · simp only [Act.put, List.setIfInBounds_toArray, List.set_cons_zero, List.set_cons_succ]; (try simp only [i64_w]); (try simp only [i32_w])
                    rfl
                  refine pure_ (i := 3) (N := some 41) (v := ?_) (a' := ?_) #[true, true, false, true, false, false] rfl rfl (by kernel_rfl) (fun _ _ _ h => h) (Or.inl ⟨by rfl, ?_⟩) ?_ ?_
                  rotate_left
                  · intro w'
                    go_simp
                    with_reducible rfl
                  rotate_left
                  · simp only [Act.put, List.setIfInBounds_toArray, List.set_cons_zero, List.set_cons_succ]; (try simp only [i64_w]); (try simp only [i32_w])
                    rfl
                  refine take_ (i := 4) (N := some 42) (v := ?_) (a' := ?_) #[true, true, false, true, true, false] rfl rfl (by kernel_rfl) (fun _ _ _ h => h) (Or.inl ⟨by rfl, ?_⟩) hHeld ?_ ?_
                  rotate_left
                  · rintro w' ⟨s0, s1, s2⟩
                    go_simp
                    with_reducible rfl
                  rotate_left
                  · simp only [Act.put, List.setIfInBounds_toArray, List.set_cons_zero, List.set_cons_succ]; (try simp only [i64_w]); (try simp only [i32_w])
                    rfl
                  refine one_ (i := 2) (N := some 40) #[true, true, true, true, true, false] rfl rfl (by kernel_rfl) (by decide) (fun K hK => ?_)
                  refine goes_ Tryd.func43 (by kernel_rfl) rfl #[.string t302, .string t303] (by rfl) rfl rfl (by (try simp only [List.map_toArray]); (try simp only [List.map_cons]); (try simp only [List.map_nil]); first | done | rfl | (simp only [List.length_drop, List.length_take]; rfl)) ?_
                  with_reducible refine (figureheadref01_Less.calls t302 t303 t304 _ A32.out).mono ?_
                  rintro e w' ⟨rfl, ⟨nd, rfl⟩⟩
                  refine ⟨_, rfl, ?_⟩
                  refine hK.out _ _ ⟨(blk_cell BK300.out 0).trans rfl, (blk_cell BK300.out 1).trans rfl, (blk_cell BK300.out 2).trans rfl⟩ (fun hHeld => ?_)
                  clear hK K
                  refine norm_ (a' := ?_) ?_ ?_
                  rotate_left
                  · show Act.put _ (some 40) _ = _
                    simp only [Act.put, List.setIfInBounds_toArray, List.set_cons_zero, List.set_cons_succ]; (try simp only [i64_w]); (try simp only [i32_w])
                    rfl
                  refine pure_ (i := 5) (N := some 43) (v := ?_) (a' := ?_) #[true, true, true, true, true, true] rfl rfl (by kernel_rfl) (fun _ _ _ h => h) (Or.inl ⟨by rfl, ?_⟩) ?_ ?_
                  rotate_left
                  · intro w'
                    go_simp
                    with_reducible rfl
                  rotate_left
                  · simp only [Act.put, List.setIfInBounds_toArray, List.set_cons_zero, List.set_cons_succ]; (try simp only [i64_w]); (try simp only [i32_w])
                    rfl
                  refine done_ (by kernel_rfl) ?_
                  try go_wp2
                  go_ret
                  exact ⟨by first | rfl | (simp [errW_none, errW_some] <;> rfl) | (simp [*, errW_none, errW_some] <;> rfl), by repeat (first | (with_reducible first | exact HB.out | apply below_alloc | apply pw_below_drewN | apply below_drew1 | refine below_set ?_ GE300.out | refine below_set ?_ GE301.out) | exact HB.out)⟩
end Go.Proofs.YtjpokifkbclkiaaDoor.Px
end
section
namespace Go.Proofs.YtjpokifkbclkiaaDoor.Px
open Fig Go.RowKit Go.Proofs.YtjpokifkbclkiaaDoorW.PrintWords Go.Proofs.YtjpokifkbclkiaaDoorW.PrintLast Go.Proofs.YtjpokifkbclkiaaDoorW.PrintMore
attribute [local go_sem] max2_int min2_int max_two min_two max_three min_three max_four min_four   -- for this text's walks alone
attribute [local go_sem high] eqA23
attribute [local go_sem] fieldA23_0 fieldA23_1 fieldA23_2
mutual
def figureheadlaw08_PlaceFits.j0 : Nat → Int → Int → Bool → Bool → ByteArray → Int → Option (Bool)
  | 0, _, _, _, _, _, _ => none
  | k + 1, x0, x2, x22, x306000, x306001, x306002 => if x22 = true then ((figureheadlaw08_answers.f k).bind fun t307 => (some t307)) else ((place_Round.f k x0 x306000 x306001 x306002 x2).bind fun bt308 => ((place_Fits.f x306000 x306001 x306002 x2).bind fun t313 => ((figureheadref05_Norm.f k x306000 x306001 x306002).bind fun bt314 => (if bt314.2.1.toList = ([48] : List UInt8) then (figureheadlaw08_PlaceFits.j1 k x0 x2 bt308.2.2.2 t313 (t313 != true) x306000 x306001 x306002 bt308.1 bt308.2.1 bt308.2.2.1 bt314.1 bt314.2.1 bt314.2.2) else (figureheadlaw08_PlaceFits.j1 k x0 x2 bt308.2.2.2 t313 (t313 != (decide (bt314.2.2 ≥ x2))) x306000 x306001 x306002 bt308.1 bt308.2.1 bt308.2.2.1 bt314.1 bt314.2.1 bt314.2.2)))))
def figureheadlaw08_PlaceFits.j1 : Nat → Int → Int → Int → Bool → Bool → Bool → ByteArray → Int → Bool → ByteArray → Int → Bool → ByteArray → Int → Option (Bool)
  | 0, _, _, _, _, _, _, _, _, _, _, _, _, _, _ => none
  | k + 1, x0, x2, x8, x9, x46, x306000, x306001, x306002, x313000, x313001, x313002, x318000, x318001, x318002 => if x46 = true then (some false) else (if x9 = true then ((figureheadlaw08_answers.f k).bind fun t318 => (if t318 = true then (if x8 = 0 then (some (x313000 == x318000 && (x313001.toList == x318001.toList && (x313002 == x318002)))) else (some false)) else (some false))) else ((figureheadlaw08_answers.f k).bind fun t319 => (if t319 = true then (if ((x0 == 7) == (x8 != 0)) = true then (if x8 = 0 then ((place_Fits.f x313000 x313001 x313002 x2).bind fun t320 => (if t320 = true then ((figureheadref05_Cmp.f k x313000 x313001 x313002 x306000 x306001 x306002).bind fun t321 => (some (t321 != 0))) else (some false))) else (some true)) else (some false)) else (some false))))
end
def figureheadlaw08_PlaceFits.f (k : Nat) (a0 : Int) (a1_0 : Bool) (a1_1 : ByteArray) (a1_2 : Int) (a2 : Int) : Option (Bool) := (figureheadlaw08_good.f k a1_0 a1_1 a1_2 a2).bind fun t306 => (if t306 = true then (if a0 < 0 then (figureheadlaw08_PlaceFits.j0 k a0 a2 true a1_0 a1_1 a1_2) else (figureheadlaw08_PlaceFits.j0 k a0 a2 (decide (a0 > 7)) a1_0 a1_1 a1_2)) else (figureheadlaw08_PlaceFits.j0 k a0 a2 true a1_0 a1_1 a1_2))
theorem figureheadlaw08_PlaceFits.mono_l : ∀ k, (∀ y0 y1 y2 y3 y4 y5, LeO (figureheadlaw08_PlaceFits.j0 k y0 y1 y2 y3 y4 y5) (figureheadlaw08_PlaceFits.j0 (k + 1) y0 y1 y2 y3 y4 y5)) ∧ (∀ y0 y1 y2 y3 y4 y5 y6 y7 y8 y9 y10 y11 y12 y13, LeO (figureheadlaw08_PlaceFits.j1 k y0 y1 y2 y3 y4 y5 y6 y7 y8 y9 y10 y11 y12 y13) (figureheadlaw08_PlaceFits.j1 (k + 1) y0 y1 y2 y3 y4 y5 y6 y7 y8 y9 y10 y11 y12 y13))
  | 0 => ⟨fun _ _ _ _ _ _ r h => by simp [figureheadlaw08_PlaceFits.j0] at h, fun _ _ _ _ _ _ _ _ _ _ _ _ _ _ r h => by simp [figureheadlaw08_PlaceFits.j1] at h⟩
  | k + 1 => by
    obtain ⟨ih0, ih1⟩ := figureheadlaw08_PlaceFits.mono_l k
    refine ⟨?_, ?_⟩
    · intro y0 y1 y2 y3 y4 y5
      unfold figureheadlaw08_PlaceFits.j0
      repeat' first
      | (with_reducible exact ih0 _ _ _ _ _ _)
      | (with_reducible exact ih1 _ _ _ _ _ _ _ _ _ _ _ _ _ _)
      | (with_reducible exact figureheadlaw08_answers.mono _)
      | (with_reducible exact figureheadlaw08_good.mono _ _ _ _ _)
      | (with_reducible exact figureheadref05_Cmp.mono _ _ _ _ _ _ _)
      | (with_reducible exact figureheadref05_Norm.mono _ _ _ _)
      | (with_reducible exact place_Round.mono _ _ _ _ _ _)
      | (with_reducible exact LeO.refl _)
      | (with_reducible exact LeO.none _)
      | (with_reducible refine LeO.ite ?_ ?_)
      | (with_reducible refine LeO.bind ?_ (fun _ => ?_))
      | exact ih0 _ _ _ _ _ _
      | exact ih1 _ _ _ _ _ _ _ _ _ _ _ _ _ _
      | exact figureheadlaw08_answers.mono _
      | exact figureheadlaw08_good.mono _ _ _ _ _
      | exact figureheadref05_Cmp.mono _ _ _ _ _ _ _
      | exact figureheadref05_Norm.mono _ _ _ _
      | exact place_Round.mono _ _ _ _ _ _
      | exact LeO.none _
      | refine LeO.ite ?_ ?_
      | refine LeO.bind ?_ (fun _ => ?_)
    · intro y0 y1 y2 y3 y4 y5 y6 y7 y8 y9 y10 y11 y12 y13
      unfold figureheadlaw08_PlaceFits.j1
      repeat' first
      | (with_reducible exact ih0 _ _ _ _ _ _)
      | (with_reducible exact ih1 _ _ _ _ _ _ _ _ _ _ _ _ _ _)
      | (with_reducible exact figureheadlaw08_answers.mono _)
      | (with_reducible exact figureheadlaw08_good.mono _ _ _ _ _)
      | (with_reducible exact figureheadref05_Cmp.mono _ _ _ _ _ _ _)
      | (with_reducible exact figureheadref05_Norm.mono _ _ _ _)
      | (with_reducible exact place_Round.mono _ _ _ _ _ _)
      | (with_reducible exact LeO.refl _)
      | (with_reducible exact LeO.none _)
      | (with_reducible refine LeO.ite ?_ ?_)
      | (with_reducible refine LeO.bind ?_ (fun _ => ?_))
      | exact ih0 _ _ _ _ _ _
      | exact ih1 _ _ _ _ _ _ _ _ _ _ _ _ _ _
      | exact figureheadlaw08_answers.mono _
      | exact figureheadlaw08_good.mono _ _ _ _ _
      | exact figureheadref05_Cmp.mono _ _ _ _ _ _ _
      | exact figureheadref05_Norm.mono _ _ _ _
      | exact place_Round.mono _ _ _ _ _ _
      | exact LeO.none _
      | refine LeO.ite ?_ ?_
      | refine LeO.bind ?_ (fun _ => ?_)
theorem figureheadlaw08_PlaceFits.mono : ∀ a0 a1 a2 a3 a4 k, LeO (figureheadlaw08_PlaceFits.f k a0 a1 a2 a3 a4) (figureheadlaw08_PlaceFits.f (k + 1) a0 a1 a2 a3 a4) := by
  intro a0 a1 a2 a3 a4 k
  obtain ⟨ih0, ih1⟩ := figureheadlaw08_PlaceFits.mono_l k
  unfold figureheadlaw08_PlaceFits.f
  repeat' first
      | (with_reducible exact ih0 _ _ _ _ _ _)
      | (with_reducible exact ih1 _ _ _ _ _ _ _ _ _ _ _ _ _ _)
      | (with_reducible exact figureheadlaw08_answers.mono _)
      | (with_reducible exact figureheadlaw08_good.mono _ _ _ _ _)
      | (with_reducible exact figureheadref05_Cmp.mono _ _ _ _ _ _ _)
      | (with_reducible exact figureheadref05_Norm.mono _ _ _ _)
      | (with_reducible exact place_Round.mono _ _ _ _ _ _)
      | (with_reducible exact LeO.refl _)
      | (with_reducible exact LeO.none _)
      | (with_reducible refine LeO.ite ?_ ?_)
      | (with_reducible refine LeO.bind ?_ (fun _ => ?_))
      | exact ih0 _ _ _ _ _ _
      | exact ih1 _ _ _ _ _ _ _ _ _ _ _ _ _ _
      | exact figureheadlaw08_answers.mono _
      | exact figureheadlaw08_good.mono _ _ _ _ _
      | exact figureheadref05_Cmp.mono _ _ _ _ _ _ _
      | exact figureheadref05_Norm.mono _ _ _ _
      | exact place_Round.mono _ _ _ _ _ _
      | exact LeO.none _
      | refine LeO.ite ?_ ?_
      | refine LeO.bind ?_ (fun _ => ?_)
set_option maxHeartbeats 8000000 in
set_option maxRecDepth 100000 in
theorem figureheadlaw08_PlaceFits.calls (k : Nat) (a0 : Int) (a1_0 : Bool) (a1_1 : ByteArray) (a1_2 : Int) (a2 : Int) (r : Bool) (w : World) (hG : Fig.Glob w) (HT : Aside0 (r = true)) (h : figureheadlaw08_PlaceFits.f k a0 a1_0 a1_1 a1_2 a2 = some r) :
    Calls Tryd.prog 4 #[.int .i64 a0, .agg #[.bool a1_0, .string a1_1, .int .i64 a1_2], .int .i64 a2] w fun e w' => e = .returned (.bool r) ∧ Below w.heap.size w w' := by
  have hu23 := Tryd.underlying23
  have HG := Aside0.mk hG
  clear hG
  have HB := Aside0.mk (Below.refl w.heap.size w)
  have H : ((figureheadlaw08_good.f k a1_0 a1_1 a1_2 a2).bind fun t306 => (if t306 = true then (if a0 < 0 then (figureheadlaw08_PlaceFits.j0 k a0 a2 true a1_0 a1_1 a1_2) else (figureheadlaw08_PlaceFits.j0 k a0 a2 (decide (a0 > 7)) a1_0 a1_1 a1_2)) else (figureheadlaw08_PlaceFits.j0 k a0 a2 true a1_0 a1_1 a1_2))) = some r := h
  clear h
  have HC4 := Aside0.mk H
  clear H
  go_enter Tryd.func4, Tryd.ntmps4
  go_upto_region 1 with (first | ((with_reducible refine gate_dst (N := 4) rfl ?_); refine box_event ?hg (N := 4) ?hd (cs := #[.bool a1_0, .string a1_1, .int .i64 a1_2]) (t := 23) ?hr ?_; (case hd => rfl); (case hg => rfl); (case hr => first | (go_simp; done) | (go_simp; rfl)); intro gb305 hg w5 hbox hb; have n0_ := Aside0.mk (below_step (by repeat (first | (with_reducible first | exact HB.out | apply below_alloc | apply pw_below_drewN | apply below_drew1) | exact HB.out)) hb); have n1_ := Aside0.mk (hbox); have n2_ := Aside0.mk ((by rw [hg]; exact (below_size (by repeat (first | (with_reducible first | exact HB.out | apply below_alloc | apply pw_below_drewN | apply below_drew1) | exact HB.out))) : w.heap.size ≤ gb305)); have n3_ := Aside0.mk ((by rw [hg]; exact (below_size (by repeat (first | (with_reducible first | exact HB.out | apply below_alloc | apply pw_below_drewN | apply below_drew1) | exact HB.out))) : w.heap.size ≤ gb305)); clear HB; have HB := n0_; have BK305 := n1_; have GW305 := n2_; have GE305 := n3_; clear n0_ n1_ n2_ n3_; clear hb hbox hg))
  (try simp only [Act.put, List.setIfInBounds_toArray, List.set_cons_zero, List.set_cons_succ])
  go_cut [22] (fun v22 wc => ∃ (kq : Nat) (x22_3 : Bool), v22 = .bool x22_3 ∧ Aside0 (figureheadlaw08_PlaceFits.j0 kq a0 a2 x22_3 a1_0 a1_1 a1_2 = some r) ∧ Aside0 (kq ≤ k) ∧ Aside0 (wc.heap[gb305]? = some (.cells #[.bool a1_0, .string a1_1, .int .i64 a1_2] 23 (0, 0))) ∧ Aside0 (Below w.heap.size w wc))
  case first =>
    have H := HC4.out
    clear HC4
    replace H := Option.bind_eq_some_iff.mp H
    obtain ⟨t306, A60, H⟩ := H
    replace H : (if t306 = true then (if a0 < 0 then (figureheadlaw08_PlaceFits.j0 k a0 a2 true a1_0 a1_1 a1_2) else (figureheadlaw08_PlaceFits.j0 k a0 a2 (decide (a0 > 7)) a1_0 a1_1 a1_2)) else (figureheadlaw08_PlaceFits.j0 k a0 a2 true a1_0 a1_1 a1_2)) = some r := H
    have A6 := Aside0.mk A60
    clear A60
    by_cases c7 : t306 = true
    · subst c7
      have H1 : (if a0 < 0 then (figureheadlaw08_PlaceFits.j0 k a0 a2 true a1_0 a1_1 a1_2) else (figureheadlaw08_PlaceFits.j0 k a0 a2 (decide (a0 > 7)) a1_0 a1_1 a1_2)) = some r := by rw [if_pos rfl] at H; exact H
      clear H
      have H := H1
      clear H1
      by_cases c8 : a0 < 0
      · rw [if_pos c8] at H
        have c8b0 : decide (a0 < 0) = true := decide_eq_true c8
        clear c8
        (first | rw [c8b0] | (simp only [i64_w, i32_w]; rw [c8b0]) | skip)
        have H' := Aside0.mk H
        clear H
        have hcz9_0 : w5.cell? ⟨gb305, 0, none⟩ = some (.bool a1_0) := (blk_cell BK305.out 0).trans rfl
        have hcz9_1 : w5.cell? ⟨gb305, 1, none⟩ = some (.string a1_1) := (blk_cell BK305.out 1).trans rfl
        have hcz9_2 : w5.cell? ⟨gb305, 2, none⟩ = some (.int .i64 a1_2) := (blk_cell BK305.out 2).trans rfl
        have hfz9_0 := blk_frozen BK305.out 0
        have hfz9_1 := blk_frozen BK305.out 1
        have hfz9_2 := blk_frozen BK305.out 2
        go_wp2_with (first | ((with_reducible refine gate_callee (f := 14) rfl ?_); refine goesL_ (some 13) rfl rfl Tryd.func14 (by kernel_rfl) rfl #[.agg #[.bool a1_0, .string a1_1, .int .i64 a1_2], .int .i64 a2] rfl (by (try simp only [List.map_toArray]); (try simp only [List.map_cons]); (try simp only [List.map_nil]); first | done | rfl | (simp only [List.length_drop, List.length_take]; rfl)) ?_; (with_reducible refine (figureheadlaw08_good.calls k a1_0 a1_1 a1_2 a2 true _ A6.out).mono ?_); rintro e w10 ⟨rfl, hb⟩; refine ⟨_, rfl, ?_⟩; have n0_ := Aside0.mk (blk_below (g := gb305) (o := .cells #[.bool a1_0, .string a1_1, .int .i64 a1_2] 23 (0, 0)) (by (with_reducible repeat (first | refine blk_drewN ?_ _ | refine blk_drew ?_ | refine blk_alloc ?_ _)); exact BK305.out) hb); have n1_ := Aside0.mk (below_step (by repeat (first | (with_reducible first | exact HB.out | apply below_alloc | apply pw_below_drewN | apply below_drew1 | refine below_set ?_ GE305.out) | exact HB.out)) hb); clear BK305; clear HB; have BK305 := n0_; have HB := n1_; clear n0_ n1_; (try clear hb); (try clear hb2); (try clear hk); (try clear hi)))
        go_meet
        case rel => exact ⟨_, (true), (by first | rfl | (simp; done) | (simp [*]; done) | (simp [*, Fig.bne_nil]; done)), H', ⟨by first | omega | exact Nat.le_refl _⟩, ⟨by (with_reducible repeat (first | refine blk_drewN ?_ _ | refine blk_drew ?_ | refine blk_alloc ?_ _)); exact BK305.out⟩, ⟨by repeat (first | (with_reducible first | exact HB.out | apply below_alloc | apply pw_below_drewN | apply below_drew1 | refine below_set ?_ GE305.out) | exact HB.out)⟩⟩
      · rw [if_neg c8] at H
        have c8b0 : decide (a0 < 0) = false := decide_eq_false c8
        clear c8
        (first | rw [c8b0] | (simp only [i64_w, i32_w]; rw [c8b0]) | skip)
        have H' := Aside0.mk H
        clear H
        have hcz11_0 : w5.cell? ⟨gb305, 0, none⟩ = some (.bool a1_0) := (blk_cell BK305.out 0).trans rfl
        have hcz11_1 : w5.cell? ⟨gb305, 1, none⟩ = some (.string a1_1) := (blk_cell BK305.out 1).trans rfl
        have hcz11_2 : w5.cell? ⟨gb305, 2, none⟩ = some (.int .i64 a1_2) := (blk_cell BK305.out 2).trans rfl
        have hfz11_0 := blk_frozen BK305.out 0
        have hfz11_1 := blk_frozen BK305.out 1
        have hfz11_2 := blk_frozen BK305.out 2
        go_wp2_with (first | ((with_reducible refine gate_callee (f := 14) rfl ?_); refine goesL_ (some 13) rfl rfl Tryd.func14 (by kernel_rfl) rfl #[.agg #[.bool a1_0, .string a1_1, .int .i64 a1_2], .int .i64 a2] rfl (by (try simp only [List.map_toArray]); (try simp only [List.map_cons]); (try simp only [List.map_nil]); first | done | rfl | (simp only [List.length_drop, List.length_take]; rfl)) ?_; (with_reducible refine (figureheadlaw08_good.calls k a1_0 a1_1 a1_2 a2 true _ A6.out).mono ?_); rintro e w12 ⟨rfl, hb⟩; refine ⟨_, rfl, ?_⟩; have n0_ := Aside0.mk (blk_below (g := gb305) (o := .cells #[.bool a1_0, .string a1_1, .int .i64 a1_2] 23 (0, 0)) (by (with_reducible repeat (first | refine blk_drewN ?_ _ | refine blk_drew ?_ | refine blk_alloc ?_ _)); exact BK305.out) hb); have n1_ := Aside0.mk (below_step (by repeat (first | (with_reducible first | exact HB.out | apply below_alloc | apply pw_below_drewN | apply below_drew1 | refine below_set ?_ GE305.out) | exact HB.out)) hb); clear BK305; clear HB; have BK305 := n0_; have HB := n1_; clear n0_ n1_; (try clear hb); (try clear hb2); (try clear hk); (try clear hi)))
        go_meet
        case rel => exact ⟨_, (decide (a0 > 7)), (by first | rfl | (simp; done) | (simp [*]; done) | (simp [*, Fig.bne_nil]; done)), H', ⟨by first | omega | exact Nat.le_refl _⟩, ⟨by (with_reducible repeat (first | refine blk_drewN ?_ _ | refine blk_drew ?_ | refine blk_alloc ?_ _)); exact BK305.out⟩, ⟨by repeat (first | (with_reducible first | exact HB.out | apply below_alloc | apply pw_below_drewN | apply below_drew1 | refine below_set ?_ GE305.out) | exact HB.out)⟩⟩
    · replace c7 := Bool.eq_false_iff.mpr c7
      subst c7
      have H1 : (figureheadlaw08_PlaceFits.j0 k a0 a2 true a1_0 a1_1 a1_2) = some r := by rw [if_neg (show ¬ (false = true) by decide)] at H; exact H
      clear H
      have H := H1
      clear H1
      have H' := Aside0.mk H
      clear H
      have hcz13_0 : w5.cell? ⟨gb305, 0, none⟩ = some (.bool a1_0) := (blk_cell BK305.out 0).trans rfl
      have hcz13_1 : w5.cell? ⟨gb305, 1, none⟩ = some (.string a1_1) := (blk_cell BK305.out 1).trans rfl
      have hcz13_2 : w5.cell? ⟨gb305, 2, none⟩ = some (.int .i64 a1_2) := (blk_cell BK305.out 2).trans rfl
      have hfz13_0 := blk_frozen BK305.out 0
      have hfz13_1 := blk_frozen BK305.out 1
      have hfz13_2 := blk_frozen BK305.out 2
      go_wp2_with (first | ((with_reducible refine gate_callee (f := 14) rfl ?_); refine goesL_ (some 13) rfl rfl Tryd.func14 (by kernel_rfl) rfl #[.agg #[.bool a1_0, .string a1_1, .int .i64 a1_2], .int .i64 a2] rfl (by (try simp only [List.map_toArray]); (try simp only [List.map_cons]); (try simp only [List.map_nil]); first | done | rfl | (simp only [List.length_drop, List.length_take]; rfl)) ?_; (with_reducible refine (figureheadlaw08_good.calls k a1_0 a1_1 a1_2 a2 false _ A6.out).mono ?_); rintro e w14 ⟨rfl, hb⟩; refine ⟨_, rfl, ?_⟩; have n0_ := Aside0.mk (blk_below (g := gb305) (o := .cells #[.bool a1_0, .string a1_1, .int .i64 a1_2] 23 (0, 0)) (by (with_reducible repeat (first | refine blk_drewN ?_ _ | refine blk_drew ?_ | refine blk_alloc ?_ _)); exact BK305.out) hb); have n1_ := Aside0.mk (below_step (by repeat (first | (with_reducible first | exact HB.out | apply below_alloc | apply pw_below_drewN | apply below_drew1 | refine below_set ?_ GE305.out) | exact HB.out)) hb); clear BK305; clear HB; have BK305 := n0_; have HB := n1_; clear n0_ n1_; (try clear hb); (try clear hb2); (try clear hk); (try clear hi)))
      go_meet
      case rel => exact ⟨_, (true), (by first | rfl | (simp; done) | (simp [*]; done) | (simp [*, Fig.bne_nil]; done)), H', ⟨by first | omega | exact Nat.le_refl _⟩, ⟨by (with_reducible repeat (first | refine blk_drewN ?_ _ | refine blk_drew ?_ | refine blk_alloc ?_ _)); exact BK305.out⟩, ⟨by repeat (first | (with_reducible first | exact HB.out | apply below_alloc | apply pw_below_drewN | apply below_drew1 | refine below_set ?_ GE305.out) | exact HB.out)⟩⟩
  case rest =>
    clear HC4
    try clear c1
    try clear p2
    try clear c4
    try clear c7
    try clear c8
    try clear c8b0
    try clear c14
    try clear hcz11_0
    try clear hcz11_1
    try clear hcz11_2
    try clear hcz13_0
    try clear hcz13_1
    try clear hcz13_2
    try clear hcz9_0
    try clear hcz9_1
    try clear hcz9_2
    try clear hfz11_0
    try clear hfz11_1
    try clear hfz11_2
    try clear hfz13_0
    try clear hfz13_1
    try clear hfz13_2
    try clear hfz9_0
    try clear hfz9_1
    try clear hfz9_2
    obtain ⟨kq, x22_3, rfl, HA, HJ3, BK305, HB⟩ := hcut
    cases kq with
    | zero => exact absurd HA.out (by simp [figureheadlaw08_PlaceFits.j0])
    | succ kj3 =>
      have H := HA.out
      clear HA
      simp only [figureheadlaw08_PlaceFits.j0] at H
      by_cases c15 : x22_3 = true
      · subst c15
        have H1 : ((figureheadlaw08_answers.f kj3).bind fun t307 => (some t307)) = some r := by rw [if_pos rfl] at H; exact H
        clear H
        have H := H1
        clear H1
        replace H := Option.bind_eq_some_iff.mp H
        obtain ⟨t307, A160, H⟩ := H
        replace H : (some t307) = some r := H
        have A16 := Aside0.mk A160
        clear A160
        obtain rfl := Option.some.inj H
        go_wp2_with (first | ((with_reducible refine gate_callee (f := 15) rfl ?_); refine goesL_ (some 23) rfl rfl Tryd.func15 (by kernel_rfl) rfl #[] rfl (by (try simp only [List.map_toArray]); (try simp only [List.map_cons]); (try simp only [List.map_nil]); first | done | rfl | (simp only [List.length_drop, List.length_take]; rfl)) ?_; (with_reducible refine (figureheadlaw08_answers.calls kj3  t307 _ ?side1 ?side2 A16.out).mono ?_); (case side1 => exact Fig.Glob.below HG.out (by repeat (first | (with_reducible first | exact HB.out | apply below_alloc | apply pw_below_drewN | apply below_drew1 | refine below_set ?_ GE305.out) | exact HB.out))); (case side2 => exact ⟨by first | rfl | exact HT.out⟩); rintro e w17 ⟨rfl, hb⟩; refine ⟨_, rfl, ?_⟩; have n0_ := Aside0.mk (blk_below (g := gb305) (o := .cells #[.bool a1_0, .string a1_1, .int .i64 a1_2] 23 (0, 0)) (by (with_reducible repeat (first | refine blk_drewN ?_ _ | refine blk_drew ?_ | refine blk_alloc ?_ _)); exact BK305.out) hb); have n1_ := Aside0.mk (below_step (by repeat (first | (with_reducible first | exact HB.out | apply below_alloc | apply pw_below_drewN | apply below_drew1 | refine below_set ?_ GE305.out) | exact HB.out)) hb); clear BK305; clear HB; have BK305 := n0_; have HB := n1_; clear n0_ n1_; (try clear hb); (try clear hb2); (try clear hk); (try clear hi)))
        go_ret
        exact ⟨by first | rfl | (simp [errW_none, errW_some] <;> rfl) | (simp [*, errW_none, errW_some] <;> rfl), by repeat (first | (with_reducible first | exact HB.out | apply below_alloc | apply pw_below_drewN | apply below_drew1 | refine below_set ?_ GE305.out) | exact HB.out)⟩
      · replace c15 := Bool.eq_false_iff.mpr c15
        subst c15
        have H1 : ((place_Round.f kj3 a0 a1_0 a1_1 a1_2 a2).bind fun bt308 => ((place_Fits.f a1_0 a1_1 a1_2 a2).bind fun t313 => ((figureheadref05_Norm.f kj3 a1_0 a1_1 a1_2).bind fun bt314 => (if bt314.2.1.toList = ([48] : List UInt8) then (figureheadlaw08_PlaceFits.j1 kj3 a0 a2 bt308.2.2.2 t313 (t313 != true) a1_0 a1_1 a1_2 bt308.1 bt308.2.1 bt308.2.2.1 bt314.1 bt314.2.1 bt314.2.2) else (figureheadlaw08_PlaceFits.j1 kj3 a0 a2 bt308.2.2.2 t313 (t313 != (decide (bt314.2.2 ≥ a2))) a1_0 a1_1 a1_2 bt308.1 bt308.2.1 bt308.2.2.1 bt314.1 bt314.2.1 bt314.2.2))))) = some r := by rw [if_neg (show ¬ (false = true) by decide)] at H; exact H
        clear H
        have H := H1
        clear H1
        replace H := Option.bind_eq_some_iff.mp H
        obtain ⟨⟨t308, t309, t310, t311⟩, A180, H⟩ := H
        replace H : ((place_Fits.f a1_0 a1_1 a1_2 a2).bind fun t313 => ((figureheadref05_Norm.f kj3 a1_0 a1_1 a1_2).bind fun bt314 => (if bt314.2.1.toList = ([48] : List UInt8) then (figureheadlaw08_PlaceFits.j1 kj3 a0 a2 t311 t313 (t313 != true) a1_0 a1_1 a1_2 t308 t309 t310 bt314.1 bt314.2.1 bt314.2.2) else (figureheadlaw08_PlaceFits.j1 kj3 a0 a2 t311 t313 (t313 != (decide (bt314.2.2 ≥ a2))) a1_0 a1_1 a1_2 t308 t309 t310 bt314.1 bt314.2.1 bt314.2.2)))) = some r := H
        have A18 := Aside0.mk A180
        clear A180
        replace H := Option.bind_eq_some_iff.mp H
        obtain ⟨t313, A190, H⟩ := H
        replace H : ((figureheadref05_Norm.f kj3 a1_0 a1_1 a1_2).bind fun bt314 => (if bt314.2.1.toList = ([48] : List UInt8) then (figureheadlaw08_PlaceFits.j1 kj3 a0 a2 t311 t313 (t313 != true) a1_0 a1_1 a1_2 t308 t309 t310 bt314.1 bt314.2.1 bt314.2.2) else (figureheadlaw08_PlaceFits.j1 kj3 a0 a2 t311 t313 (t313 != (decide (bt314.2.2 ≥ a2))) a1_0 a1_1 a1_2 t308 t309 t310 bt314.1 bt314.2.1 bt314.2.2))) = some r := H
        have A19 := Aside0.mk A190
        clear A190
        replace H := Option.bind_eq_some_iff.mp H
        obtain ⟨⟨t314, t315, t316⟩, A200, H⟩ := H
        replace H : (if t315.toList = ([48] : List UInt8) then (figureheadlaw08_PlaceFits.j1 kj3 a0 a2 t311 t313 (t313 != true) a1_0 a1_1 a1_2 t308 t309 t310 t314 t315 t316) else (figureheadlaw08_PlaceFits.j1 kj3 a0 a2 t311 t313 (t313 != (decide (t316 ≥ a2))) a1_0 a1_1 a1_2 t308 t309 t310 t314 t315 t316)) = some r := H
        have A20 := Aside0.mk A200
        clear A200
        have HC21 := Aside0.mk H
        clear H
        have hcz22_0 : wc.cell? ⟨gb305, 0, none⟩ = some (.bool a1_0) := (blk_cell BK305.out 0).trans rfl
        have hcz22_1 : wc.cell? ⟨gb305, 1, none⟩ = some (.string a1_1) := (blk_cell BK305.out 1).trans rfl
        have hcz22_2 : wc.cell? ⟨gb305, 2, none⟩ = some (.int .i64 a1_2) := (blk_cell BK305.out 2).trans rfl
        have hfz22_0 := blk_frozen BK305.out 0
        have hfz22_1 := blk_frozen BK305.out 1
        have hfz22_2 := blk_frozen BK305.out 2
        go_upto_region 6 with (first | ((with_reducible refine gate_callee (f := 16) rfl ?_); refine goesL_ (some 28) rfl rfl Tryd.func16 (by kernel_rfl) rfl #[.int .i64 a0, .agg #[.bool a1_0, .string a1_1, .int .i64 a1_2], .int .i64 a2] rfl (by (try simp only [List.map_toArray]); (try simp only [List.map_cons]); (try simp only [List.map_nil]); first | done | rfl | (simp only [List.length_drop, List.length_take]; rfl)) ?_; (with_reducible refine (place_Round.calls kj3 a0 a1_0 a1_1 a1_2 a2 t308 t309 t310 t311 _ ?side1 A18.out).mono ?_); (case side1 => exact Fig.Glob.below HG.out (by repeat (first | (with_reducible first | exact HB.out | apply below_alloc | apply pw_below_drewN | apply below_drew1 | refine below_set ?_ GE305.out) | exact HB.out))); rintro e w23 ⟨rfl, hb⟩; refine ⟨_, rfl, ?_⟩; have n0_ := Aside0.mk (blk_below (g := gb305) (o := .cells #[.bool a1_0, .string a1_1, .int .i64 a1_2] 23 (0, 0)) (by (with_reducible repeat (first | refine blk_drewN ?_ _ | refine blk_drew ?_ | refine blk_alloc ?_ _)); exact BK305.out) hb); have n1_ := Aside0.mk (below_step (by repeat (first | (with_reducible first | exact HB.out | apply below_alloc | apply pw_below_drewN | apply below_drew1 | refine below_set ?_ GE305.out) | exact HB.out)) hb); clear BK305; clear HB; have BK305 := n0_; have HB := n1_; clear n0_ n1_; (try clear hb); (try clear hb2); (try clear hk); (try clear hi)) | ((with_reducible refine gate_dst (N := 7) rfl ?_); refine box_event ?hg (N := 7) ?hd (cs := #[.bool false, .string (⟨#[]⟩ : ByteArray), .int .i64 0]) (t := 23) ?hr ?_; (case hd => rfl); (case hg => rfl); (case hr => first | (go_simp; done) | (go_simp; rfl)); intro gb312 hg w24 hbox hb; have n0_ := Aside0.mk (blk_below (g := gb305) (o := .cells #[.bool a1_0, .string a1_1, .int .i64 a1_2] 23 (0, 0)) (by (with_reducible repeat (first | refine blk_drewN ?_ _ | refine blk_drew ?_ | refine blk_alloc ?_ _)); exact BK305.out) hb); have n1_ := Aside0.mk (below_step (by repeat (first | (with_reducible first | exact HB.out | apply below_alloc | apply pw_below_drewN | apply below_drew1 | refine below_set ?_ GE305.out) | exact HB.out)) hb); have n2_ := Aside0.mk (hbox); have n3_ := Aside0.mk ((by rw [hg]; exact (below_size (by repeat (first | (with_reducible first | exact HB.out | apply below_alloc | apply pw_below_drewN | apply below_drew1 | refine below_set ?_ GE305.out) | exact HB.out))) : w.heap.size ≤ gb312)); have n4_ := Aside0.mk ((by rw [hg]; exact (below_size (by repeat (first | (with_reducible first | exact HB.out | apply below_alloc | apply pw_below_drewN | apply below_drew1 | refine below_set ?_ GE305.out) | exact HB.out))) : w.heap.size ≤ gb312)); have n5_ := Aside0.mk ((by rw [hg]; exact Nat.ne_of_lt (blk_lt (g := gb305) (o := .cells #[.bool a1_0, .string a1_1, .int .i64 a1_2] 23 (0, 0)) (by (with_reducible repeat (first | refine blk_drewN ?_ _ | refine blk_drew ?_ | refine blk_alloc ?_ _)); exact BK305.out)) : gb305 ≠ gb312)); have n6_ := Aside0.mk ((by rw [hg]; exact Nat.ne_of_gt (blk_lt (g := gb305) (o := .cells #[.bool a1_0, .string a1_1, .int .i64 a1_2] 23 (0, 0)) (by (with_reducible repeat (first | refine blk_drewN ?_ _ | refine blk_drew ?_ | refine blk_alloc ?_ _)); exact BK305.out)) : gb312 ≠ gb305)); clear BK305; clear HB; have BK305 := n0_; have HB := n1_; have BK312 := n2_; have GW312 := n3_; have GE312 := n4_; have NB305_312 := n5_; have NB312_305 := n6_; clear n0_ n1_ n2_ n3_ n4_ n5_ n6_; clear hb hbox hg; have hnb25 := NB312_305.out; have hnc25 := NB305_312.out; have hcz26_0 : w24.cell? ⟨gb312, 0, none⟩ = some (.bool false) := (blk_cell BK312.out 0).trans rfl; have hcz26_1 : w24.cell? ⟨gb312, 1, none⟩ = some (.string (⟨#[]⟩ : ByteArray)) := (blk_cell BK312.out 1).trans rfl; have hcz26_2 : w24.cell? ⟨gb312, 2, none⟩ = some (.int .i64 0) := (blk_cell BK312.out 2).trans rfl; have hfz26_0 := blk_frozen BK312.out 0; have hfz26_1 := blk_frozen BK312.out 1; have hfz26_2 := blk_frozen BK312.out 2; have hcz27_0 : w24.cell? ⟨gb305, 0, none⟩ = some (.bool a1_0) := (blk_cell BK305.out 0).trans rfl; have hcz27_1 : w24.cell? ⟨gb305, 1, none⟩ = some (.string a1_1) := (blk_cell BK305.out 1).trans rfl; have hcz27_2 : w24.cell? ⟨gb305, 2, none⟩ = some (.int .i64 a1_2) := (blk_cell BK305.out 2).trans rfl; have hfz27_0 := blk_frozen BK305.out 0; have hfz27_1 := blk_frozen BK305.out 1; have hfz27_2 := blk_frozen BK305.out 2) | ((with_reducible refine gate_callee (f := 18) rfl ?_); refine goesL_ (some 33) rfl rfl Tryd.func18 (by kernel_rfl) rfl #[.agg #[.bool a1_0, .string a1_1, .int .i64 a1_2], .int .i64 a2] rfl (by (try simp only [List.map_toArray]); (try simp only [List.map_cons]); (try simp only [List.map_nil]); first | done | rfl | (simp only [List.length_drop, List.length_take]; rfl)) ?_; (with_reducible refine (place_Fits.calls a1_0 a1_1 a1_2 a2 t313 _ ?side1 A19.out).mono ?_); (case side1 => exact Fig.Glob.below HG.out (by repeat (first | (with_reducible first | exact HB.out | apply below_alloc | apply pw_below_drewN | apply below_drew1 | refine below_set ?_ GE305.out | refine below_set ?_ GE312.out) | exact HB.out))); rintro e w28 ⟨rfl, hb⟩; refine ⟨_, rfl, ?_⟩; have n0_ := Aside0.mk (blk_below (g := gb305) (o := .cells #[.bool a1_0, .string a1_1, .int .i64 a1_2] 23 (0, 0)) (by (with_reducible repeat (first | refine blk_drewN ?_ _ | refine blk_drew ?_ | refine blk_alloc ?_ _)); refine blk_far ?_ NB305_312.out _; (with_reducible repeat (first | refine blk_drewN ?_ _ | refine blk_drew ?_ | refine blk_alloc ?_ _)); refine blk_far ?_ NB305_312.out _; (with_reducible repeat (first | refine blk_drewN ?_ _ | refine blk_drew ?_ | refine blk_alloc ?_ _)); refine blk_far ?_ NB305_312.out _; (with_reducible repeat (first | refine blk_drewN ?_ _ | refine blk_drew ?_ | refine blk_alloc ?_ _)); exact BK305.out) hb); have n1_ := Aside0.mk (blk_below (g := gb312) (o := .cells #[.bool t308, .string t309, .int .i64 t310] 23 (0, 0)) (by (with_reducible repeat (first | refine blk_drewN ?_ _ | refine blk_drew ?_ | refine blk_alloc ?_ _)); refine blk_put (cs := #[.bool t308, .string t309, .int .i64 0]) ?_ 2 _ rfl; (with_reducible repeat (first | refine blk_drewN ?_ _ | refine blk_drew ?_ | refine blk_alloc ?_ _)); refine blk_put (cs := #[.bool t308, .string (⟨#[]⟩ : ByteArray), .int .i64 0]) ?_ 1 _ rfl; (with_reducible repeat (first | refine blk_drewN ?_ _ | refine blk_drew ?_ | refine blk_alloc ?_ _)); refine blk_put (cs := #[.bool false, .string (⟨#[]⟩ : ByteArray), .int .i64 0]) ?_ 0 _ rfl; (with_reducible repeat (first | refine blk_drewN ?_ _ | refine blk_drew ?_ | refine blk_alloc ?_ _)); exact BK312.out) hb); have n2_ := Aside0.mk (below_step (by repeat (first | (with_reducible first | exact HB.out | apply below_alloc | apply pw_below_drewN | apply below_drew1 | refine below_set ?_ GE305.out | refine below_set ?_ GE312.out) | exact HB.out)) hb); clear BK305; clear BK312; clear HB; have BK305 := n0_; have BK312 := n1_; have HB := n2_; clear n0_ n1_ n2_; (try clear hb); (try clear hb2); (try clear hk); (try clear hi); have hcz29_0 : w28.cell? ⟨gb305, 0, none⟩ = some (.bool a1_0) := (blk_cell BK305.out 0).trans rfl; have hcz29_1 : w28.cell? ⟨gb305, 1, none⟩ = some (.string a1_1) := (blk_cell BK305.out 1).trans rfl; have hcz29_2 : w28.cell? ⟨gb305, 2, none⟩ = some (.int .i64 a1_2) := (blk_cell BK305.out 2).trans rfl; have hfz29_0 := blk_frozen BK305.out 0; have hfz29_1 := blk_frozen BK305.out 1; have hfz29_2 := blk_frozen BK305.out 2) | ((with_reducible refine gate_callee (f := 19) rfl ?_); refine goesL_ (some 35) rfl rfl Tryd.func19 (by kernel_rfl) rfl #[.agg #[.bool a1_0, .string a1_1, .int .i64 a1_2]] rfl (by (try simp only [List.map_toArray]); (try simp only [List.map_cons]); (try simp only [List.map_nil]); first | done | rfl | (simp only [List.length_drop, List.length_take]; rfl)) ?_; (with_reducible refine (figureheadref05_Norm.calls kj3 a1_0 a1_1 a1_2 t314 t315 t316 _ A20.out).mono ?_); rintro e w30 ⟨rfl, hb⟩; refine ⟨_, rfl, ?_⟩; have n0_ := Aside0.mk (blk_below (g := gb305) (o := .cells #[.bool a1_0, .string a1_1, .int .i64 a1_2] 23 (0, 0)) (by (with_reducible repeat (first | refine blk_drewN ?_ _ | refine blk_drew ?_ | refine blk_alloc ?_ _)); exact BK305.out) hb); have n1_ := Aside0.mk (blk_below (g := gb312) (o := .cells #[.bool t308, .string t309, .int .i64 t310] 23 (0, 0)) (by (with_reducible repeat (first | refine blk_drewN ?_ _ | refine blk_drew ?_ | refine blk_alloc ?_ _)); exact BK312.out) hb); have n2_ := Aside0.mk (below_step (by repeat (first | (with_reducible first | exact HB.out | apply below_alloc | apply pw_below_drewN | apply below_drew1 | refine below_set ?_ GE305.out | refine below_set ?_ GE312.out) | exact HB.out)) hb); clear BK305; clear BK312; clear HB; have BK305 := n0_; have BK312 := n1_; have HB := n2_; clear n0_ n1_ n2_; (try clear hb); (try clear hb2); (try clear hk); (try clear hi)) | ((with_reducible refine gate_dst (N := 10) rfl ?_); refine box_event ?hg (N := 10) ?hd (cs := #[.bool false, .string (⟨#[]⟩ : ByteArray), .int .i64 0]) (t := 23) ?hr ?_; (case hd => rfl); (case hg => rfl); (case hr => first | (go_simp; done) | (go_simp; rfl)); intro gb317 hg w31 hbox hb; have n0_ := Aside0.mk (blk_below (g := gb305) (o := .cells #[.bool a1_0, .string a1_1, .int .i64 a1_2] 23 (0, 0)) (by (with_reducible repeat (first | refine blk_drewN ?_ _ | refine blk_drew ?_ | refine blk_alloc ?_ _)); exact BK305.out) hb); have n1_ := Aside0.mk (blk_below (g := gb312) (o := .cells #[.bool t308, .string t309, .int .i64 t310] 23 (0, 0)) (by (with_reducible repeat (first | refine blk_drewN ?_ _ | refine blk_drew ?_ | refine blk_alloc ?_ _)); exact BK312.out) hb); have n2_ := Aside0.mk (below_step (by repeat (first | (with_reducible first | exact HB.out | apply below_alloc | apply pw_below_drewN | apply below_drew1 | refine below_set ?_ GE305.out | refine below_set ?_ GE312.out) | exact HB.out)) hb); have n3_ := Aside0.mk (hbox); have n4_ := Aside0.mk ((by rw [hg]; exact (below_size (by repeat (first | (with_reducible first | exact HB.out | apply below_alloc | apply pw_below_drewN | apply below_drew1 | refine below_set ?_ GE305.out | refine below_set ?_ GE312.out) | exact HB.out))) : w.heap.size ≤ gb317)); have n5_ := Aside0.mk ((by rw [hg]; exact (below_size (by repeat (first | (with_reducible first | exact HB.out | apply below_alloc | apply pw_below_drewN | apply below_drew1 | refine below_set ?_ GE305.out | refine below_set ?_ GE312.out) | exact HB.out))) : w.heap.size ≤ gb317)); have n6_ := Aside0.mk ((by rw [hg]; exact Nat.ne_of_lt (blk_lt (g := gb305) (o := .cells #[.bool a1_0, .string a1_1, .int .i64 a1_2] 23 (0, 0)) (by (with_reducible repeat (first | refine blk_drewN ?_ _ | refine blk_drew ?_ | refine blk_alloc ?_ _)); exact BK305.out)) : gb305 ≠ gb317)); have n7_ := Aside0.mk ((by rw [hg]; exact Nat.ne_of_gt (blk_lt (g := gb305) (o := .cells #[.bool a1_0, .string a1_1, .int .i64 a1_2] 23 (0, 0)) (by (with_reducible repeat (first | refine blk_drewN ?_ _ | refine blk_drew ?_ | refine blk_alloc ?_ _)); exact BK305.out)) : gb317 ≠ gb305)); have n8_ := Aside0.mk ((by rw [hg]; exact Nat.ne_of_lt (blk_lt (g := gb312) (o := .cells #[.bool t308, .string t309, .int .i64 t310] 23 (0, 0)) (by (with_reducible repeat (first | refine blk_drewN ?_ _ | refine blk_drew ?_ | refine blk_alloc ?_ _)); exact BK312.out)) : gb312 ≠ gb317)); have n9_ := Aside0.mk ((by rw [hg]; exact Nat.ne_of_gt (blk_lt (g := gb312) (o := .cells #[.bool t308, .string t309, .int .i64 t310] 23 (0, 0)) (by (with_reducible repeat (first | refine blk_drewN ?_ _ | refine blk_drew ?_ | refine blk_alloc ?_ _)); exact BK312.out)) : gb317 ≠ gb312)); clear BK305; clear BK312; clear HB; have BK305 := n0_; have BK312 := n1_; have HB := n2_; have BK317 := n3_; have GW317 := n4_; have GE317 := n5_; have NB305_317 := n6_; have NB317_305 := n7_; have NB312_317 := n8_; have NB317_312 := n9_; clear n0_ n1_ n2_ n3_ n4_ n5_ n6_ n7_ n8_ n9_; clear hb hbox hg; have hnb32 := NB317_305.out; have hnc32 := NB305_317.out; have hnb33 := NB317_312.out; have hnc33 := NB312_317.out; have hcz34_0 : w31.cell? ⟨gb317, 0, none⟩ = some (.bool false) := (blk_cell BK317.out 0).trans rfl; have hcz34_1 : w31.cell? ⟨gb317, 1, none⟩ = some (.string (⟨#[]⟩ : ByteArray)) := (blk_cell BK317.out 1).trans rfl; have hcz34_2 : w31.cell? ⟨gb317, 2, none⟩ = some (.int .i64 0) := (blk_cell BK317.out 2).trans rfl; have hfz34_0 := blk_frozen BK317.out 0; have hfz34_1 := blk_frozen BK317.out 1; have hfz34_2 := blk_frozen BK317.out 2))
        (try simp only [Act.put, List.setIfInBounds_toArray, List.set_cons_zero, List.set_cons_succ])
        go_cut [46] (fun v46 wc => ∃ (kq : Nat) (x46_20 : Bool), v46 = .bool x46_20 ∧ Aside0 (figureheadlaw08_PlaceFits.j1 kq a0 a2 t311 t313 x46_20 a1_0 a1_1 a1_2 t308 t309 t310 t314 t315 t316 = some r) ∧ Aside0 (kq ≤ kj3) ∧ Aside0 (wc.heap[gb305]? = some (.cells #[.bool a1_0, .string a1_1, .int .i64 a1_2] 23 (0, 0))) ∧ Aside0 (wc.heap[gb312]? = some (.cells #[.bool t308, .string t309, .int .i64 t310] 23 (0, 0))) ∧ Aside0 (wc.heap[gb317]? = some (.cells #[.bool t314, .string t315, .int .i64 t316] 23 (0, 0))) ∧ Aside0 (Below w.heap.size w wc))
        case first =>
          have H := HC21.out
          clear HC21
          by_cases c35 : t315.toList = ([48] : List UInt8)
          · rw [if_pos c35] at H
            have c35b0 : (t315.toList == ([48] : List UInt8)) = true := beq_iff_eq.mpr c35
            have c35b1 : (t315.toList != ([48] : List UInt8)) = false := bne_eq_false_iff_eq.mpr c35
            clear c35
            (first | rw [c35b0] | (simp only [i64_w, i32_w]; rw [c35b0]) | skip)
            have H' := Aside0.mk H
            clear H
            have hnb36 := NB317_305.out
            have hnc36 := NB305_317.out
            have hnb37 := NB317_312.out
            have hnc37 := NB312_317.out
            have hcz38_0 : w31.cell? ⟨gb317, 0, none⟩ = some (.bool false) := (blk_cell BK317.out 0).trans rfl
            have hcz38_1 : w31.cell? ⟨gb317, 1, none⟩ = some (.string (⟨#[]⟩ : ByteArray)) := (blk_cell BK317.out 1).trans rfl
            have hcz38_2 : w31.cell? ⟨gb317, 2, none⟩ = some (.int .i64 0) := (blk_cell BK317.out 2).trans rfl
            have hfz38_0 := blk_frozen BK317.out 0
            have hfz38_1 := blk_frozen BK317.out 1
            have hfz38_2 := blk_frozen BK317.out 2
            go_wp2
            go_meet
            case rel => exact ⟨_, ((t313 != true)), (by first | rfl | (simp; done) | (simp [*]; done) | (simp [*, Fig.bne_nil]; done)), H', ⟨by have := HJ3.out; first | omega | exact Nat.le_refl _⟩, ⟨by (with_reducible repeat (first | refine blk_drewN ?_ _ | refine blk_drew ?_ | refine blk_alloc ?_ _)); refine blk_far ?_ NB305_317.out _; (with_reducible repeat (first | refine blk_drewN ?_ _ | refine blk_drew ?_ | refine blk_alloc ?_ _)); refine blk_far ?_ NB305_317.out _; (with_reducible repeat (first | refine blk_drewN ?_ _ | refine blk_drew ?_ | refine blk_alloc ?_ _)); refine blk_far ?_ NB305_317.out _; (with_reducible repeat (first | refine blk_drewN ?_ _ | refine blk_drew ?_ | refine blk_alloc ?_ _)); exact BK305.out⟩, ⟨by (with_reducible repeat (first | refine blk_drewN ?_ _ | refine blk_drew ?_ | refine blk_alloc ?_ _)); refine blk_far ?_ NB312_317.out _; (with_reducible repeat (first | refine blk_drewN ?_ _ | refine blk_drew ?_ | refine blk_alloc ?_ _)); refine blk_far ?_ NB312_317.out _; (with_reducible repeat (first | refine blk_drewN ?_ _ | refine blk_drew ?_ | refine blk_alloc ?_ _)); refine blk_far ?_ NB312_317.out _; (with_reducible repeat (first | refine blk_drewN ?_ _ | refine blk_drew ?_ | refine blk_alloc ?_ _)); exact BK312.out⟩, ⟨by (with_reducible repeat (first | refine blk_drewN ?_ _ | refine blk_drew ?_ | refine blk_alloc ?_ _)); refine blk_put (cs := #[.bool t314, .string t315, .int .i64 0]) ?_ 2 _ rfl; (with_reducible repeat (first | refine blk_drewN ?_ _ | refine blk_drew ?_ | refine blk_alloc ?_ _)); refine blk_put (cs := #[.bool t314, .string (⟨#[]⟩ : ByteArray), .int .i64 0]) ?_ 1 _ rfl; (with_reducible repeat (first | refine blk_drewN ?_ _ | refine blk_drew ?_ | refine blk_alloc ?_ _)); refine blk_put (cs := #[.bool false, .string (⟨#[]⟩ : ByteArray), .int .i64 0]) ?_ 0 _ rfl; (with_reducible repeat (first | refine blk_drewN ?_ _ | refine blk_drew ?_ | refine blk_alloc ?_ _)); exact BK317.out⟩, ⟨by repeat (first | (with_reducible first | exact HB.out | apply below_alloc | apply pw_below_drewN | apply below_drew1 | refine below_set ?_ GE305.out | refine below_set ?_ GE312.out | refine below_set ?_ GE317.out) | exact HB.out)⟩⟩
          · rw [if_neg c35] at H
            have c35b0 : (t315.toList == ([48] : List UInt8)) = false := beq_eq_false_iff_ne.mpr c35
            have c35b1 : (t315.toList != ([48] : List UInt8)) = true := bne_iff_ne.mpr c35
            (first | rw [c35b0] | (simp only [i64_w, i32_w]; rw [c35b0]) | skip)
            have H' := Aside0.mk H
            clear H
            have hnb39 := NB317_305.out
            have hnc39 := NB305_317.out
            have hnb40 := NB317_312.out
            have hnc40 := NB312_317.out
            have hcz41_0 : w31.cell? ⟨gb317, 0, none⟩ = some (.bool false) := (blk_cell BK317.out 0).trans rfl
            have hcz41_1 : w31.cell? ⟨gb317, 1, none⟩ = some (.string (⟨#[]⟩ : ByteArray)) := (blk_cell BK317.out 1).trans rfl
            have hcz41_2 : w31.cell? ⟨gb317, 2, none⟩ = some (.int .i64 0) := (blk_cell BK317.out 2).trans rfl
            have hfz41_0 := blk_frozen BK317.out 0
            have hfz41_1 := blk_frozen BK317.out 1
            have hfz41_2 := blk_frozen BK317.out 2
            go_wp2
            go_meet
            case rel => exact ⟨_, ((t313 != (decide (t316 ≥ a2)))), (by first | rfl | (simp; done) | (simp [*]; done) | (simp [*, Fig.bne_nil]; done)), H', ⟨by have := HJ3.out; first | omega | exact Nat.le_refl _⟩, ⟨by (with_reducible repeat (first | refine blk_drewN ?_ _ | refine blk_drew ?_ | refine blk_alloc ?_ _)); refine blk_far ?_ NB305_317.out _; (with_reducible repeat (first | refine blk_drewN ?_ _ | refine blk_drew ?_ | refine blk_alloc ?_ _)); refine blk_far ?_ NB305_317.out _; (with_reducible repeat (first | refine blk_drewN ?_ _ | refine blk_drew ?_ | refine blk_alloc ?_ _)); refine blk_far ?_ NB305_317.out _; (with_reducible repeat (first | refine blk_drewN ?_ _ | refine blk_drew ?_ | refine blk_alloc ?_ _)); exact BK305.out⟩, ⟨by (with_reducible repeat (first | refine blk_drewN ?_ _ | refine blk_drew ?_ | refine blk_alloc ?_ _)); refine blk_far ?_ NB312_317.out _; (with_reducible repeat (first | refine blk_drewN ?_ _ | refine blk_drew ?_ | refine blk_alloc ?_ _)); refine blk_far ?_ NB312_317.out _; (with_reducible repeat (first | refine blk_drewN ?_ _ | refine blk_drew ?_ | refine blk_alloc ?_ _)); refine blk_far ?_ NB312_317.out _; (with_reducible repeat (first | refine blk_drewN ?_ _ | refine blk_drew ?_ | refine blk_alloc ?_ _)); exact BK312.out⟩, ⟨by (with_reducible repeat (first | refine blk_drewN ?_ _ | refine blk_drew ?_ | refine blk_alloc ?_ _)); refine blk_put (cs := #[.bool t314, .string t315, .int .i64 0]) ?_ 2 _ rfl; (with_reducible repeat (first | refine blk_drewN ?_ _ | refine blk_drew ?_ | refine blk_alloc ?_ _)); refine blk_put (cs := #[.bool t314, .string (⟨#[]⟩ : ByteArray), .int .i64 0]) ?_ 1 _ rfl; (with_reducible repeat (first | refine blk_drewN ?_ _ | refine blk_drew ?_ | refine blk_alloc ?_ _)); refine blk_put (cs := #[.bool false, .string (⟨#[]⟩ : ByteArray), .int .i64 0]) ?_ 0 _ rfl; (with_reducible repeat (first | refine blk_drewN ?_ _ | refine blk_drew ?_ | refine blk_alloc ?_ _)); exact BK317.out⟩, ⟨by repeat (first | (with_reducible first | exact HB.out | apply below_alloc | apply pw_below_drewN | apply below_drew1 | refine below_set ?_ GE305.out | refine below_set ?_ GE312.out | refine below_set ?_ GE317.out) | exact HB.out)⟩⟩
        case rest =>
          clear HC21
          try clear c1
          try clear c2
          try clear p2
          try clear c3
          try clear c4
          try clear c7
          try clear c8
          try clear c8b0
          try clear c14
          try clear c15
          try clear c16
          try clear c18
          try clear c19
          try clear c25
          try clear c32
          try clear c33
          try clear c35
          try clear c35b0
          try clear c35b1
          try clear c36
          try clear c37
          try clear c39
          try clear c40
          try clear hcz11_0
          try clear hcz11_1
          try clear hcz11_2
          try clear hcz13_0
          try clear hcz13_1
          try clear hcz13_2
          try clear hcz22_0
          try clear hcz22_1
          try clear hcz22_2
          try clear hcz26_0
          try clear hcz26_1
          try clear hcz26_2
          try clear hcz27_0
          try clear hcz27_1
          try clear hcz27_2
          try clear hcz29_0
          try clear hcz29_1
          try clear hcz29_2
          try clear hcz34_0
          try clear hcz34_1
          try clear hcz34_2
          try clear hcz38_0
          try clear hcz38_1
          try clear hcz38_2
          try clear hcz41_0
          try clear hcz41_1
          try clear hcz41_2
          try clear hcz9_0
          try clear hcz9_1
          try clear hcz9_2
          try clear hfz11_0
          try clear hfz11_1
          try clear hfz11_2
          try clear hfz13_0
          try clear hfz13_1
          try clear hfz13_2
          try clear hfz22_0
          try clear hfz22_1
          try clear hfz22_2
          try clear hfz26_0
          try clear hfz26_1
          try clear hfz26_2
          try clear hfz27_0
          try clear hfz27_1
          try clear hfz27_2
          try clear hfz29_0
          try clear hfz29_1
          try clear hfz29_2
          try clear hfz34_0
          try clear hfz34_1
          try clear hfz34_2
          try clear hfz38_0
          try clear hfz38_1
          try clear hfz38_2
          try clear hfz41_0
          try clear hfz41_1
          try clear hfz41_2
          try clear hfz9_0
          try clear hfz9_1
          try clear hfz9_2
          try clear p2
          obtain ⟨kq, x46_20, rfl, HA, HJ20, BK305, BK312, BK317, HB⟩ := hcut
          cases kq with
          | zero => exact absurd HA.out (by simp [figureheadlaw08_PlaceFits.j1])
          | succ kj20 =>
            have H := HA.out
            clear HA
            simp only [figureheadlaw08_PlaceFits.j1] at H
            by_cases c42 : x46_20 = true
            · subst c42
              have H1 : (some false) = some r := by rw [if_pos rfl] at H; exact H
              clear H
              have H := H1
              clear H1
              exact absurd ((Option.some.inj H).trans HT.out) (by decide)
            · replace c42 := Bool.eq_false_iff.mpr c42
              subst c42
              have H1 : (if t313 = true then ((figureheadlaw08_answers.f kj20).bind fun t318 => (if t318 = true then (if t311 = 0 then (some (t308 == t314 && (t309.toList == t315.toList && (t310 == t316)))) else (some false)) else (some false))) else ((figureheadlaw08_answers.f kj20).bind fun t319 => (if t319 = true then (if ((a0 == 7) == (t311 != 0)) = true then (if t311 = 0 then ((place_Fits.f t308 t309 t310 a2).bind fun t320 => (if t320 = true then ((figureheadref05_Cmp.f kj20 t308 t309 t310 a1_0 a1_1 a1_2).bind fun t321 => (some (t321 != 0))) else (some false))) else (some true)) else (some false)) else (some false)))) = some r := by rw [if_neg (show ¬ (false = true) by decide)] at H; exact H
              clear H
              have H := H1
              clear H1
              by_cases c43 : t313 = true
              · subst c43
                have H1 : ((figureheadlaw08_answers.f kj20).bind fun t318 => (if t318 = true then (if t311 = 0 then (some (t308 == t314 && (t309.toList == t315.toList && (t310 == t316)))) else (some false)) else (some false))) = some r := by rw [if_pos rfl] at H; exact H
                clear H
                have H := H1
                clear H1
                replace H := Option.bind_eq_some_iff.mp H
                obtain ⟨t318, A440, H⟩ := H
                replace H : (if t318 = true then (if t311 = 0 then (some (t308 == t314 && (t309.toList == t315.toList && (t310 == t316)))) else (some false)) else (some false)) = some r := H
                have A44 := Aside0.mk A440
                clear A440
                by_cases c45 : t318 = true
                · subst c45
                  have H1 : (if t311 = 0 then (some (t308 == t314 && (t309.toList == t315.toList && (t310 == t316)))) else (some false)) = some r := by rw [if_pos rfl] at H; exact H
                  clear H
                  have H := H1
                  clear H1
                  by_cases c46 : t311 = 0
                  · rw [if_pos c46] at H
                    have c46b0 : (t311 == 0) = true := beq_iff_eq.mpr c46
                    have c46b1 : (t311 != 0) = false := bne_eq_false_iff_eq.mpr c46
                    (try (have c46b7 : (a0 == 7) = false := by simpa [c46b1] using c45b0))
                    (try (have c46b8 : (!(a0 == 7)) = true := by simpa [c46b1] using c45b0))
                    clear c46
                    obtain rfl := Option.some.inj H
                    go_wp2_with (first | ((with_reducible refine gate_callee (f := 15) rfl ?_); refine goesL_ (some 48) rfl rfl Tryd.func15 (by kernel_rfl) rfl #[] rfl (by (try simp only [List.map_toArray]); (try simp only [List.map_cons]); (try simp only [List.map_nil]); first | done | rfl | (simp only [List.length_drop, List.length_take]; rfl)) ?_; (with_reducible refine (figureheadlaw08_answers.calls kj20  true _ ?side1 ?side2 A44.out).mono ?_); (case side1 => exact Fig.Glob.below HG.out (by repeat (first | (with_reducible first | exact HB.out | apply below_alloc | apply pw_below_drewN | apply below_drew1 | refine below_set ?_ GE305.out | refine below_set ?_ GE312.out | refine below_set ?_ GE317.out) | exact HB.out))); (case side2 => exact ⟨by first | rfl | exact HT.out⟩); rintro e w47 ⟨rfl, hb⟩; refine ⟨_, rfl, ?_⟩; have n0_ := Aside0.mk (blk_below (g := gb305) (o := .cells #[.bool a1_0, .string a1_1, .int .i64 a1_2] 23 (0, 0)) (by (with_reducible repeat (first | refine blk_drewN ?_ _ | refine blk_drew ?_ | refine blk_alloc ?_ _)); exact BK305.out) hb); have n1_ := Aside0.mk (blk_below (g := gb312) (o := .cells #[.bool t308, .string t309, .int .i64 t310] 23 (0, 0)) (by (with_reducible repeat (first | refine blk_drewN ?_ _ | refine blk_drew ?_ | refine blk_alloc ?_ _)); exact BK312.out) hb); have n2_ := Aside0.mk (blk_below (g := gb317) (o := .cells #[.bool t314, .string t315, .int .i64 t316] 23 (0, 0)) (by (with_reducible repeat (first | refine blk_drewN ?_ _ | refine blk_drew ?_ | refine blk_alloc ?_ _)); exact BK317.out) hb); have n3_ := Aside0.mk (below_step (by repeat (first | (with_reducible first | exact HB.out | apply below_alloc | apply pw_below_drewN | apply below_drew1 | refine below_set ?_ GE305.out | refine below_set ?_ GE312.out | refine below_set ?_ GE317.out) | exact HB.out)) hb); clear BK305; clear BK312; clear BK317; clear HB; have BK305 := n0_; have BK312 := n1_; have BK317 := n2_; have HB := n3_; clear n0_ n1_ n2_ n3_; (try clear hb); (try clear hb2); (try clear hk); (try clear hi); have hnb48 := NB312_305.out; have hnc48 := NB305_312.out; have hnb49 := NB312_317.out; have hnc49 := NB317_312.out; have hcz50_0 : w47.cell? ⟨gb312, 0, none⟩ = some (.bool t308) := (blk_cell BK312.out 0).trans rfl; have hcz50_1 : w47.cell? ⟨gb312, 1, none⟩ = some (.string t309) := (blk_cell BK312.out 1).trans rfl; have hcz50_2 : w47.cell? ⟨gb312, 2, none⟩ = some (.int .i64 t310) := (blk_cell BK312.out 2).trans rfl; have hfz50_0 := blk_frozen BK312.out 0; have hfz50_1 := blk_frozen BK312.out 1; have hfz50_2 := blk_frozen BK312.out 2; have hnb51 := NB317_305.out; have hnc51 := NB305_317.out; have hcz52_0 : w47.cell? ⟨gb317, 0, none⟩ = some (.bool t314) := (blk_cell BK317.out 0).trans rfl; have hcz52_1 : w47.cell? ⟨gb317, 1, none⟩ = some (.string t315) := (blk_cell BK317.out 1).trans rfl; have hcz52_2 : w47.cell? ⟨gb317, 2, none⟩ = some (.int .i64 t316) := (blk_cell BK317.out 2).trans rfl; have hfz52_0 := blk_frozen BK317.out 0; have hfz52_1 := blk_frozen BK317.out 1; have hfz52_2 := blk_frozen BK317.out 2))
                    go_ret
                    exact ⟨by first | rfl | (simp [errW_none, errW_some] <;> rfl) | (simp [*, errW_none, errW_some] <;> rfl), by repeat (first | (with_reducible first | exact HB.out | apply below_alloc | apply pw_below_drewN | apply below_drew1 | refine below_set ?_ GE305.out | refine below_set ?_ GE312.out | refine below_set ?_ GE317.out) | exact HB.out)⟩
                  · rw [if_neg c46] at H
                    have c46b0 : (t311 == 0) = false := beq_eq_false_iff_ne.mpr c46
                    have c46b1 : (t311 != 0) = true := bne_iff_ne.mpr c46
                    (try (have c46b7 : (a0 == 7) = true := by simpa [c46b1] using c45b0))
                    (try (have c46b8 : (!(a0 == 7)) = false := by simpa [c46b1] using c45b0))
                    exact absurd ((Option.some.inj H).trans HT.out) (by decide)
                · replace c45 := Bool.eq_false_iff.mpr c45
                  subst c45
                  have H1 : (some false) = some r := by rw [if_neg (show ¬ (false = true) by decide)] at H; exact H
                  clear H
                  have H := H1
                  clear H1
                  exact absurd ((Option.some.inj H).trans HT.out) (by decide)
              · replace c43 := Bool.eq_false_iff.mpr c43
                subst c43
                have H1 : ((figureheadlaw08_answers.f kj20).bind fun t319 => (if t319 = true then (if ((a0 == 7) == (t311 != 0)) = true then (if t311 = 0 then ((place_Fits.f t308 t309 t310 a2).bind fun t320 => (if t320 = true then ((figureheadref05_Cmp.f kj20 t308 t309 t310 a1_0 a1_1 a1_2).bind fun t321 => (some (t321 != 0))) else (some false))) else (some true)) else (some false)) else (some false))) = some r := by rw [if_neg (show ¬ (false = true) by decide)] at H; exact H
                clear H
                have H := H1
                clear H1
                replace H := Option.bind_eq_some_iff.mp H
                obtain ⟨t319, A530, H⟩ := H
                replace H : (if t319 = true then (if ((a0 == 7) == (t311 != 0)) = true then (if t311 = 0 then ((place_Fits.f t308 t309 t310 a2).bind fun t320 => (if t320 = true then ((figureheadref05_Cmp.f kj20 t308 t309 t310 a1_0 a1_1 a1_2).bind fun t321 => (some (t321 != 0))) else (some false))) else (some true)) else (some false)) else (some false)) = some r := H
                have A53 := Aside0.mk A530
                clear A530
                by_cases c54 : t319 = true
                · subst c54
                  have H1 : (if ((a0 == 7) == (t311 != 0)) = true then (if t311 = 0 then ((place_Fits.f t308 t309 t310 a2).bind fun t320 => (if t320 = true then ((figureheadref05_Cmp.f kj20 t308 t309 t310 a1_0 a1_1 a1_2).bind fun t321 => (some (t321 != 0))) else (some false))) else (some true)) else (some false)) = some r := by rw [if_pos rfl] at H; exact H
                  clear H
                  have H := H1
                  clear H1
                  by_cases c55 : ((a0 == 7) == (t311 != 0)) = true
                  · rw [if_pos c55] at H
                    have c55b0 : ((a0 == 7) == (t311 != 0)) = true := c55
                    (try (have c55b1 : decide ((a0 == 7) = (t311 != 0)) = true := by simpa using c55))
                    (try (have c55b2 : ((a0 == 7) == (t311 != 0)) = true := by simpa using c55))
                    clear c55
                    by_cases c56 : t311 = 0
                    · rw [if_pos c56] at H
                      have c56b0 : (t311 == 0) = true := beq_iff_eq.mpr c56
                      have c56b1 : (t311 != 0) = false := bne_eq_false_iff_eq.mpr c56
                      (try (have c56b7 : (a0 == 7) = false := by simpa [c56b1] using c55b0))
                      (try (have c56b8 : (!(a0 == 7)) = true := by simpa [c56b1] using c55b0))
                      clear c56
                      replace H := Option.bind_eq_some_iff.mp H
                      obtain ⟨t320, A570, H⟩ := H
                      replace H : (if t320 = true then ((figureheadref05_Cmp.f kj20 t308 t309 t310 a1_0 a1_1 a1_2).bind fun t321 => (some (t321 != 0))) else (some false)) = some r := H
                      have A57 := Aside0.mk A570
                      clear A570
                      by_cases c58 : t320 = true
                      · subst c58
                        have H1 : ((figureheadref05_Cmp.f kj20 t308 t309 t310 a1_0 a1_1 a1_2).bind fun t321 => (some (t321 != 0))) = some r := by rw [if_pos rfl] at H; exact H
                        clear H
                        have H := H1
                        clear H1
                        replace H := Option.bind_eq_some_iff.mp H
                        obtain ⟨t321, A590, H⟩ := H
                        replace H : (some (t321 != 0)) = some r := H
                        have A59 := Aside0.mk A590
                        clear A590
                        obtain rfl := Option.some.inj H
                        go_wp2_with (first | ((with_reducible refine gate_callee (f := 15) rfl ?_); refine goesL_ (some 58) rfl rfl Tryd.func15 (by kernel_rfl) rfl #[] rfl (by (try simp only [List.map_toArray]); (try simp only [List.map_cons]); (try simp only [List.map_nil]); first | done | rfl | (simp only [List.length_drop, List.length_take]; rfl)) ?_; (with_reducible refine (figureheadlaw08_answers.calls kj20  true _ ?side1 ?side2 A53.out).mono ?_); (case side1 => exact Fig.Glob.below HG.out (by repeat (first | (with_reducible first | exact HB.out | apply below_alloc | apply pw_below_drewN | apply below_drew1 | refine below_set ?_ GE305.out | refine below_set ?_ GE312.out | refine below_set ?_ GE317.out) | exact HB.out))); (case side2 => exact ⟨by first | rfl | exact HT.out⟩); rintro e w60 ⟨rfl, hb⟩; refine ⟨_, rfl, ?_⟩; have n0_ := Aside0.mk (blk_below (g := gb305) (o := .cells #[.bool a1_0, .string a1_1, .int .i64 a1_2] 23 (0, 0)) (by (with_reducible repeat (first | refine blk_drewN ?_ _ | refine blk_drew ?_ | refine blk_alloc ?_ _)); exact BK305.out) hb); have n1_ := Aside0.mk (blk_below (g := gb312) (o := .cells #[.bool t308, .string t309, .int .i64 t310] 23 (0, 0)) (by (with_reducible repeat (first | refine blk_drewN ?_ _ | refine blk_drew ?_ | refine blk_alloc ?_ _)); exact BK312.out) hb); have n2_ := Aside0.mk (blk_below (g := gb317) (o := .cells #[.bool t314, .string t315, .int .i64 t316] 23 (0, 0)) (by (with_reducible repeat (first | refine blk_drewN ?_ _ | refine blk_drew ?_ | refine blk_alloc ?_ _)); exact BK317.out) hb); have n3_ := Aside0.mk (below_step (by repeat (first | (with_reducible first | exact HB.out | apply below_alloc | apply pw_below_drewN | apply below_drew1 | refine below_set ?_ GE305.out | refine below_set ?_ GE312.out | refine below_set ?_ GE317.out) | exact HB.out)) hb); clear BK305; clear BK312; clear BK317; clear HB; have BK305 := n0_; have BK312 := n1_; have BK317 := n2_; have HB := n3_; clear n0_ n1_ n2_ n3_; (try clear hb); (try clear hb2); (try clear hk); (try clear hi); have hnb61 := NB312_305.out; have hnc61 := NB305_312.out; have hnb62 := NB312_317.out; have hnc62 := NB317_312.out; have hcz63_0 : w60.cell? ⟨gb312, 0, none⟩ = some (.bool t308) := (blk_cell BK312.out 0).trans rfl; have hcz63_1 : w60.cell? ⟨gb312, 1, none⟩ = some (.string t309) := (blk_cell BK312.out 1).trans rfl; have hcz63_2 : w60.cell? ⟨gb312, 2, none⟩ = some (.int .i64 t310) := (blk_cell BK312.out 2).trans rfl; have hfz63_0 := blk_frozen BK312.out 0; have hfz63_1 := blk_frozen BK312.out 1; have hfz63_2 := blk_frozen BK312.out 2) | ((with_reducible refine gate_dst (N := 72) rfl ?_); (refine gate_guard (by rfl) ?_; dsimp only); (with_reducible refine gate_callee (f := 18) rfl ?_); refine goesL_ (some 72) rfl rfl Tryd.func18 (by kernel_rfl) rfl #[.agg #[.bool t308, .string t309, .int .i64 t310], .int .i64 a2] rfl (by (try simp only [List.map_toArray]); (try simp only [List.map_cons]); (try simp only [List.map_nil]); first | done | rfl | (simp only [List.length_drop, List.length_take]; rfl)) ?_; (with_reducible refine (place_Fits.calls t308 t309 t310 a2 true _ ?side1 A57.out).mono ?_); (case side1 => exact Fig.Glob.below HG.out (by repeat (first | (with_reducible first | exact HB.out | apply below_alloc | apply pw_below_drewN | apply below_drew1 | refine below_set ?_ GE305.out | refine below_set ?_ GE312.out | refine below_set ?_ GE317.out) | exact HB.out))); rintro e w64 ⟨rfl, hb⟩; refine ⟨_, rfl, ?_⟩; have n0_ := Aside0.mk (blk_below (g := gb305) (o := .cells #[.bool a1_0, .string a1_1, .int .i64 a1_2] 23 (0, 0)) (by (with_reducible repeat (first | refine blk_drewN ?_ _ | refine blk_drew ?_ | refine blk_alloc ?_ _)); exact BK305.out) hb); have n1_ := Aside0.mk (blk_below (g := gb312) (o := .cells #[.bool t308, .string t309, .int .i64 t310] 23 (0, 0)) (by (with_reducible repeat (first | refine blk_drewN ?_ _ | refine blk_drew ?_ | refine blk_alloc ?_ _)); exact BK312.out) hb); have n2_ := Aside0.mk (blk_below (g := gb317) (o := .cells #[.bool t314, .string t315, .int .i64 t316] 23 (0, 0)) (by (with_reducible repeat (first | refine blk_drewN ?_ _ | refine blk_drew ?_ | refine blk_alloc ?_ _)); exact BK317.out) hb); have n3_ := Aside0.mk (below_step (by repeat (first | (with_reducible first | exact HB.out | apply below_alloc | apply pw_below_drewN | apply below_drew1 | refine below_set ?_ GE305.out | refine below_set ?_ GE312.out | refine below_set ?_ GE317.out) | exact HB.out)) hb); clear BK305; clear BK312; clear BK317; clear HB; have BK305 := n0_; have BK312 := n1_; have BK317 := n2_; have HB := n3_; clear n0_ n1_ n2_ n3_; (try clear hb); (try clear hb2); (try clear hk); (try clear hi); have hcz65_0 : w64.cell? ⟨gb312, 0, none⟩ = some (.bool t308) := (blk_cell BK312.out 0).trans rfl; have hcz65_1 : w64.cell? ⟨gb312, 1, none⟩ = some (.string t309) := (blk_cell BK312.out 1).trans rfl; have hcz65_2 : w64.cell? ⟨gb312, 2, none⟩ = some (.int .i64 t310) := (blk_cell BK312.out 2).trans rfl; have hfz65_0 := blk_frozen BK312.out 0; have hfz65_1 := blk_frozen BK312.out 1; have hfz65_2 := blk_frozen BK312.out 2; have hnb66 := NB305_317.out; have hnc66 := NB317_305.out; have hcz67_0 : w64.cell? ⟨gb305, 0, none⟩ = some (.bool a1_0) := (blk_cell BK305.out 0).trans rfl; have hcz67_1 : w64.cell? ⟨gb305, 1, none⟩ = some (.string a1_1) := (blk_cell BK305.out 1).trans rfl; have hcz67_2 : w64.cell? ⟨gb305, 2, none⟩ = some (.int .i64 a1_2) := (blk_cell BK305.out 2).trans rfl; have hfz67_0 := blk_frozen BK305.out 0; have hfz67_1 := blk_frozen BK305.out 1; have hfz67_2 := blk_frozen BK305.out 2) | ((with_reducible refine gate_dst (N := 76) rfl ?_); (refine gate_guard (by rfl) ?_; dsimp only); (with_reducible refine gate_callee (f := 20) rfl ?_); refine goesL_ (some 76) rfl rfl Tryd.func20 (by kernel_rfl) rfl #[.agg #[.bool t308, .string t309, .int .i64 t310], .agg #[.bool a1_0, .string a1_1, .int .i64 a1_2]] rfl (by (try simp only [List.map_toArray]); (try simp only [List.map_cons]); (try simp only [List.map_nil]); first | done | rfl | (simp only [List.length_drop, List.length_take]; rfl)) ?_; (with_reducible refine (figureheadref05_Cmp.calls kj20 t308 t309 t310 a1_0 a1_1 a1_2 t321 _ A59.out).mono ?_); rintro e w68 ⟨rfl, hb⟩; refine ⟨_, rfl, ?_⟩; have n0_ := Aside0.mk (blk_below (g := gb305) (o := .cells #[.bool a1_0, .string a1_1, .int .i64 a1_2] 23 (0, 0)) (by (with_reducible repeat (first | refine blk_drewN ?_ _ | refine blk_drew ?_ | refine blk_alloc ?_ _)); exact BK305.out) hb); have n1_ := Aside0.mk (blk_below (g := gb312) (o := .cells #[.bool t308, .string t309, .int .i64 t310] 23 (0, 0)) (by (with_reducible repeat (first | refine blk_drewN ?_ _ | refine blk_drew ?_ | refine blk_alloc ?_ _)); exact BK312.out) hb); have n2_ := Aside0.mk (blk_below (g := gb317) (o := .cells #[.bool t314, .string t315, .int .i64 t316] 23 (0, 0)) (by (with_reducible repeat (first | refine blk_drewN ?_ _ | refine blk_drew ?_ | refine blk_alloc ?_ _)); exact BK317.out) hb); have n3_ := Aside0.mk (below_step (by repeat (first | (with_reducible first | exact HB.out | apply below_alloc | apply pw_below_drewN | apply below_drew1 | refine below_set ?_ GE305.out | refine below_set ?_ GE312.out | refine below_set ?_ GE317.out) | exact HB.out)) hb); clear BK305; clear BK312; clear BK317; clear HB; have BK305 := n0_; have BK312 := n1_; have BK317 := n2_; have HB := n3_; clear n0_ n1_ n2_ n3_; (try clear hb); (try clear hb2); (try clear hk); (try clear hi)))
                        go_ret
                        exact ⟨by first | rfl | (simp [errW_none, errW_some] <;> rfl) | (simp [*, errW_none, errW_some] <;> rfl), by repeat (first | (with_reducible first | exact HB.out | apply below_alloc | apply pw_below_drewN | apply below_drew1 | refine below_set ?_ GE305.out | refine below_set ?_ GE312.out | refine below_set ?_ GE317.out) | exact HB.out)⟩
                      · replace c58 := Bool.eq_false_iff.mpr c58
                        subst c58
                        have H1 : (some false) = some r := by rw [if_neg (show ¬ (false = true) by decide)] at H; exact H
                        clear H
                        have H := H1
                        clear H1
                        exact absurd ((Option.some.inj H).trans HT.out) (by decide)
                    · rw [if_neg c56] at H
                      have c56b0 : (t311 == 0) = false := beq_eq_false_iff_ne.mpr c56
                      have c56b1 : (t311 != 0) = true := bne_iff_ne.mpr c56
                      (try (have c56b7 : (a0 == 7) = true := by simpa [c56b1] using c55b0))
                      (try (have c56b8 : (!(a0 == 7)) = false := by simpa [c56b1] using c55b0))
                      obtain rfl := Option.some.inj H
                      go_wp2_with (first | ((with_reducible refine gate_callee (f := 15) rfl ?_); refine goesL_ (some 58) rfl rfl Tryd.func15 (by kernel_rfl) rfl #[] rfl (by (try simp only [List.map_toArray]); (try simp only [List.map_cons]); (try simp only [List.map_nil]); first | done | rfl | (simp only [List.length_drop, List.length_take]; rfl)) ?_; (with_reducible refine (figureheadlaw08_answers.calls kj20  true _ ?side1 ?side2 A53.out).mono ?_); (case side1 => exact Fig.Glob.below HG.out (by repeat (first | (with_reducible first | exact HB.out | apply below_alloc | apply pw_below_drewN | apply below_drew1 | refine below_set ?_ GE305.out | refine below_set ?_ GE312.out | refine below_set ?_ GE317.out) | exact HB.out))); (case side2 => exact ⟨by first | rfl | exact HT.out⟩); rintro e w69 ⟨rfl, hb⟩; refine ⟨_, rfl, ?_⟩; have n0_ := Aside0.mk (blk_below (g := gb305) (o := .cells #[.bool a1_0, .string a1_1, .int .i64 a1_2] 23 (0, 0)) (by (with_reducible repeat (first | refine blk_drewN ?_ _ | refine blk_drew ?_ | refine blk_alloc ?_ _)); exact BK305.out) hb); have n1_ := Aside0.mk (blk_below (g := gb312) (o := .cells #[.bool t308, .string t309, .int .i64 t310] 23 (0, 0)) (by (with_reducible repeat (first | refine blk_drewN ?_ _ | refine blk_drew ?_ | refine blk_alloc ?_ _)); exact BK312.out) hb); have n2_ := Aside0.mk (blk_below (g := gb317) (o := .cells #[.bool t314, .string t315, .int .i64 t316] 23 (0, 0)) (by (with_reducible repeat (first | refine blk_drewN ?_ _ | refine blk_drew ?_ | refine blk_alloc ?_ _)); exact BK317.out) hb); have n3_ := Aside0.mk (below_step (by repeat (first | (with_reducible first | exact HB.out | apply below_alloc | apply pw_below_drewN | apply below_drew1 | refine below_set ?_ GE305.out | refine below_set ?_ GE312.out | refine below_set ?_ GE317.out) | exact HB.out)) hb); clear BK305; clear BK312; clear BK317; clear HB; have BK305 := n0_; have BK312 := n1_; have BK317 := n2_; have HB := n3_; clear n0_ n1_ n2_ n3_; (try clear hb); (try clear hb2); (try clear hk); (try clear hi)))
                      go_ret
                      exact ⟨by first | rfl | (simp [errW_none, errW_some] <;> rfl) | (simp [*, errW_none, errW_some] <;> rfl), by repeat (first | (with_reducible first | exact HB.out | apply below_alloc | apply pw_below_drewN | apply below_drew1 | refine below_set ?_ GE305.out | refine below_set ?_ GE312.out | refine below_set ?_ GE317.out) | exact HB.out)⟩
                  · rw [if_neg c55] at H
                    have c55b0 : ((a0 == 7) == (t311 != 0)) = false := by simpa using c55
                    (try (have c55b1 : decide ((a0 == 7) = (t311 != 0)) = false := by simpa using c55))
                    (try (have c55b2 : ((a0 == 7) == (t311 != 0)) = false := by simpa using c55))
                    (try (have c55b3 : ¬ ((a0 == 7) = (t311 != 0)) := by simpa using c55))
                    clear c55
                    exact absurd ((Option.some.inj H).trans HT.out) (by decide)
                · replace c54 := Bool.eq_false_iff.mpr c54
                  subst c54
                  have H1 : (some false) = some r := by rw [if_neg (show ¬ (false = true) by decide)] at H; exact H
                  clear H
                  have H := H1
                  clear H1
                  exact absurd ((Option.some.inj H).trans HT.out) (by decide)
end Go.Proofs.YtjpokifkbclkiaaDoor.Px
end
section
namespace Go.Proofs.YtjpokifkbclkiaaDoor.Px
open Fig Go.RowKit Go.Proofs.YtjpokifkbclkiaaDoorW.PrintWords Go.Proofs.YtjpokifkbclkiaaDoorW.PrintLast Go.Proofs.YtjpokifkbclkiaaDoorW.PrintMore
attribute [local go_sem] max2_int min2_int max_two min_two max_three min_three max_four min_four   -- for this text's walks alone
attribute [local go_sem] fieldA23_0 fieldA23_1 fieldA23_2
theorem Digits_loop (s : ByteArray) (hs : s.size ≤ 4611686018427387904) : ∀ (d n : Nat), s.size - n = d → n ≤ s.size → Ev (fun k => figureheadref05_Digits.l0 k s (n : Int)) (digL (s.data.toList.drop n) && decide (s.size ≠ 0))
  | 0, n, hd, hn => by
    refine evDone (r' := (s.toList != ([] : List UInt8))) (fun k => ?_) ?_
    · simp only [figureheadref05_Digits.l0]; rw [if_neg (by omega)]
    · rw [List.drop_of_length_le (by rw [← size_eq]; omega), bne_nil, ByteArray.toList_eq, size_eq]
      cases s.data.toList <;> simp [digL]
  | d + 1, n, hd, hn => by
    have hlt : n < s.size := by omega
    have hbt := bt_get hlt
    have hc := List.drop_eq_getElem_cons (l := s.data.toList) (i := n) (by rw [← size_eq]; exact hlt)
    rw [hc]
    generalize hx : s.data.toList[n]'(by rw [← size_eq]; exact hlt) = c at hbt
    by_cases h1 : c.toNat < 48
    · refine evDone (r' := false) (fun k => ?_) ?_
      · simp only [figureheadref05_Digits.l0]; rw [if_pos (by omega), if_pos (by omega), hbt, if_pos (by omega)]
      · have : isD c = false := by unfold isD; simp; omega
        simp [digL, this]
    · by_cases h2 : c.toNat > 57
      · refine evDone (r' := false) (fun k => ?_) ?_
        · simp only [figureheadref05_Digits.l0]; rw [if_pos (by omega), if_pos (by omega), hbt, if_neg (by omega), if_pos (by omega)]
        · have : isD c = false := by unfold isD; simp; omega
          simp [digL, this]
      · have hd1 : isD c = true := isD_iff.2 ⟨by omega, by omega⟩
        refine evIs (Ev.step (f := fun k => figureheadref05_Digits.l0 k s ((n + 1 : Nat) : Int)) (fun k => ?_) (Digits_loop s hs d (n + 1) (by omega) (by omega))) ?_
        · simp only [figureheadref05_Digits.l0]; rw [if_pos (by omega), if_pos (by omega), hbt, if_neg (by omega), if_neg (by omega), succ64 _ (by omega)]
        · simp [digL, hd1]
theorem Digits05_ev {s : ByteArray} (hs : s.size ≤ 4611686018427387904) : Ev (fun k => figureheadref05_Digits.f k s) (dB s && decide (s.size ≠ 0)) := by
  have := Digits_loop s hs s.size 0 (by omega) (by omega)
  rw [List.drop_zero] at this
  exact this
end Go.Proofs.YtjpokifkbclkiaaDoor.Px
end
section
namespace Go.Proofs.YtjpokifkbclkiaaDoor.Px
open Fig Go.RowKit Go.Proofs.YtjpokifkbclkiaaDoorW.PrintWords Go.Proofs.YtjpokifkbclkiaaDoorW.PrintLast Go.Proofs.YtjpokifkbclkiaaDoorW.PrintMore
attribute [local go_sem] max2_int min2_int max_two min_two max_three min_three max_four min_four   -- for this text's walks alone
attribute [local go_sem] fieldA23_0 fieldA23_1 fieldA23_2
theorem Good05_ev {b : Bool} {s : ByteArray} {e : Int} (hs : s.size ≤ 4611686018427387904) : Ev (fun k => figureheadref05_Good.f k b s e) (goodD s e) := by
  unfold figureheadref05_Good.f
  refine Ev.bind (Digits05_ev hs) ?_
  unfold goodD
  cases hd : (dB s && decide (s.size ≠ 0))
  · simp only [Bool.false_eq_true, if_false, Bool.false_and]
    exact Ev.now _
  · simp only [if_true, Bool.true_and]
    by_cases h1 : s.size ≤ 1000
    · have h1' : (s.size : Int) ≤ 1000 := by omega
      simp only [h1', h1, if_true, decide_true, Bool.true_and]
      by_cases h2 : e ≥ -1000
      · have h2' : -1000 ≤ e := h2
        simp only [h2, h2', if_true, decide_true, Bool.true_and]
        exact Ev.now _
      · have h2' : ¬ -1000 ≤ e := h2
        simp only [h2, h2', if_false, decide_false, Bool.false_and]
        exact Ev.now _
    · have h1' : ¬ (s.size : Int) ≤ 1000 := by omega
      simp only [h1', h1, if_false, decide_false, Bool.false_and]
      exact Ev.now _
end Go.Proofs.YtjpokifkbclkiaaDoor.Px
end
section
namespace Go.Proofs.YtjpokifkbclkiaaDoor.Px
open Fig Go.RowKit Go.Proofs.YtjpokifkbclkiaaDoorW.PrintWords Go.Proofs.YtjpokifkbclkiaaDoorW.PrintLast Go.Proofs.YtjpokifkbclkiaaDoorW.PrintMore
attribute [local go_sem] max2_int min2_int max_two min_two max_three min_three max_four min_four   -- for this text's walks alone
attribute [local go_sem] fieldA23_0 fieldA23_1 fieldA23_2
def goodP8 (s : ByteArray) (e p : Int) : Bool := goodD s e && decide (s.size ≤ 100) && decide (-300 ≤ p) && decide (p ≤ 300) && decide (-300 ≤ e) && decide (e ≤ 300)
theorem goodP8_iff {s : ByteArray} {e p : Int} : goodP8 s e p = true ↔ goodD s e = true ∧ s.size ≤ 100 ∧ -300 ≤ p ∧ p ≤ 300 ∧ -300 ≤ e ∧ e ≤ 300 := by
  unfold goodP8; simp only [Bool.and_eq_true, decide_eq_true_eq, and_assoc]
theorem good08_ev {b : Bool} {s : ByteArray} {e p : Int} (hs : s.size ≤ 4611686018427387904) : Ev (fun k => figureheadlaw08_good.f k b s e p) (goodP8 s e p) := by
  unfold figureheadlaw08_good.f
  refine Ev.bind (Good05_ev hs) ?_
  unfold goodP8
  cases goodD s e
  · exact evF (by decide) (evIs (Ev.now _) (by simp))
  refine evT rfl ?_
  by_cases h1 : s.size ≤ 100
  · refine evT (by omega) ?_
    by_cases h2 : p ≥ -300
    · refine evT h2 ?_
      by_cases h3 : p ≤ 300
      · refine evT h3 ?_
        by_cases h4 : e ≥ -300
        · have h2' : -300 ≤ p := h2
          have h4' : -300 ≤ e := h4
          exact evT h4 (evIs (Ev.now _) (by simp [h1, h2', h3, h4']))
        · have h4' : ¬ -300 ≤ e := h4
          exact evF h4 (evIs (Ev.now _) (by simp [h4']))
      · exact evF h3 (evIs (Ev.now _) (by simp [h3]))
    · have h2' : ¬ -300 ≤ p := h2
      exact evF h2 (evIs (Ev.now _) (by simp [h2']))
  · exact evF (by omega) (evIs (Ev.now _) (by simp [h1]))
theorem goodP8_ok {s : ByteArray} {e p : Int} (h : goodP8 s e p = true) : OkS s e ∧ (digB (vB s)).size ≤ 100 ∧ -300 ≤ p ∧ p ≤ 300 ∧ -300 ≤ e ∧ e ≤ 300 := by
  obtain ⟨a, b, c, d, f, g⟩ := goodP8_iff.1 h
  have ok := OkS.of_good a
  have := ok.ok.val
  exact ⟨ok, by omega, c, d, f, g⟩
theorem rv0_size {m : Int} {neg : Bool} {n st x y : Nat} {e p k : Int} (hn : (digB n).size ≤ x) (hs : (digB st).size ≤ y) (hs0 : st ≠ 0) (h1 : k ≤ e) (h2 : k ≤ p) : (digB (rv0 m neg n e st p k)).size ≤ max (x + (e - k).toNat) (y + (p - k).toNat) + 1 := by
  have a := size_vZ neg (n := n) (p := x) e k hn
  have b := size_vZ neg (n := st) (p := y) p k hs
  rw [vZ_natAbs] at a b
  have hB := atE_pos hs0 p k
  have h3 := (rq_near (m := m) (neg := neg) (N := atE n e k) hB).1
  refine digB_mono (n := atE n e k + atE st p k) (by unfold rv0; omega) ?_
  exact digB_add_le (digB_mono (Nat.le_refl _) (by omega)) (digB_mono (Nat.le_refl _) (by omega))
theorem rv0_ok {m : Int} {neg : Bool} {n : Nat} {e p k : Int} (hn : (digB n).size ≤ 700) (h1 : k ≤ e) (h2 : k ≤ p) (h3 : -2000 ≤ k) (h4 : k ≤ 2000) (h5 : e ≤ k + 1500) (h6 : p ≤ k + 2500) : OkS (nD (rv0 m neg n e 1 p k)) (nE (rv0 m neg n e 1 p k) k) := by
  have := rv0_size (m := m) (neg := neg) (x := 700) (y := 1) hn (st := 1) (by rw [digB_one_size]; omega) (by decide) h1 h2
  exact OkS.norm (by omega) (by omega) (by omega)
theorem sg_inj' {a : Bool} {m n : Nat} (h : sg a m = sg a n) : m = n := by unfold sg at h; cases a <;> simp at h <;> omega
end Go.Proofs.YtjpokifkbclkiaaDoor.Px
end
section
namespace Go.Proofs.YtjpokifkbclkiaaDoor.Px
open Fig Go.RowKit Go.Proofs.YtjpokifkbclkiaaDoorW.PrintWords Go.Proofs.YtjpokifkbclkiaaDoorW.PrintLast Go.Proofs.YtjpokifkbclkiaaDoorW.PrintMore
attribute [local go_sem] max2_int min2_int max_two min_two max_three min_three max_four min_four   -- for this text's walks alone
attribute [local go_sem] fieldA23_0 fieldA23_1 fieldA23_2
theorem numP {s : ByteArray} (h : dB s = true) (hne : s.size ≠ 0) (hs : s.size ≤ 140737488351232) : ten_Number.f s = some (limbs (vB s), true) := by
  unfold ten_Number.f; rw [if_pos hs, if_pos ⟨h, hne⟩]
end Go.Proofs.YtjpokifkbclkiaaDoor.Px
end
section
namespace Go.Proofs.YtjpokifkbclkiaaDoor.Px
open Fig Go.RowKit Go.Proofs.YtjpokifkbclkiaaDoorW.PrintWords Go.Proofs.YtjpokifkbclkiaaDoorW.PrintLast Go.Proofs.YtjpokifkbclkiaaDoorW.PrintMore
attribute [local go_sem] max2_int min2_int max_two min_two max_three min_three max_four min_four   -- for this text's walks alone
attribute [local go_sem] fieldA23_0 fieldA23_1 fieldA23_2
theorem coefP {b : Bool} {s : ByteArray} {e : Int} (h : OkD s e) : dec_Coef.f b s e = some (limbs (vB s)) := by
  have := h.sz
  unfold dec_Coef.f; rw [numP h.d h.ne (by omega)]; rfl
theorem coef_len {s : ByteArray} {e : Int} (h : OkD s e) : (limbs (vB s)).length ≤ 100000 := by
  have := limbs_len_digB (vB s)
  have := h.val
  have := h.sz
  omega
theorem shiftP {l : List Int} {n : Int} (g : goodL l = true) (hl : l.length ≤ 500000) (hn : n ≤ 1000000) : ten_Shift.f l n = some (limbs (valL l * 10 ^ n.toNat)) := by unfold ten_Shift.f; rw [if_pos ⟨g, hl, hn⟩]
end Go.Proofs.YtjpokifkbclkiaaDoor.Px
end
section
namespace Go.Proofs.YtjpokifkbclkiaaDoor.Px
open Fig Go.RowKit Go.Proofs.YtjpokifkbclkiaaDoorW.PrintWords Go.Proofs.YtjpokifkbclkiaaDoorW.PrintLast Go.Proofs.YtjpokifkbclkiaaDoorW.PrintMore
attribute [local go_sem] max2_int min2_int max_two min_two max_three min_three max_four min_four   -- for this text's walks alone
attribute [local go_sem] fieldA23_0 fieldA23_1 fieldA23_2
theorem cutP {b : Bool} {s : ByteArray} {e p : Int} (h : OkS s e) (h1 : -10000 ≤ p) (h2 : p ≤ 10000) : place_cut.f b s e p = some (limbs (vB s / 10 ^ (p - e).toNat), limbs (vB s % 10 ^ (p - e).toNat)) := by
  have hl := h.lo
  have hh := h.hi
  have hc := coef_len h.ok
  unfold place_cut.f
  rw [coefP h.ok]
  simp only [Option.bind_some]
  rw [w64 (x := p - e) (by omega) (by omega)]
  have : ten_Cut.f (limbs (vB s)) (p - e) = some (limbs (vB s / 10 ^ (p - e).toNat), limbs (vB s % 10 ^ (p - e).toNat)) := by
    unfold ten_Cut.f; rw [if_pos ⟨limbs_good _, by omega, by omega⟩, limbs_val]
  rw [this]; rfl
end Go.Proofs.YtjpokifkbclkiaaDoor.Px
end
section
namespace Go.Proofs.YtjpokifkbclkiaaDoor.Px
open Fig Go.RowKit Go.Proofs.YtjpokifkbclkiaaDoorW.PrintWords Go.Proofs.YtjpokifkbclkiaaDoorW.PrintLast Go.Proofs.YtjpokifkbclkiaaDoorW.PrintMore
attribute [local go_sem] max2_int min2_int max_two min_two max_three min_three max_four min_four   -- for this text's walks alone
attribute [local go_sem] fieldA23_0 fieldA23_1 fieldA23_2
theorem fitsP {b : Bool} {s : ByteArray} {e p : Int} (h : OkS s e) (h1 : -10000 ≤ p) (h2 : p ≤ 10000) : place_Fits.f b s e p = some (decide (atE (vB s) e (min e p) % atE 1 p (min e p) = 0)) := by
  unfold place_Fits.f
  by_cases hp : p ≤ e
  · rw [if_pos hp, show min e p = p by omega, atE_self, Nat.mod_one]; rfl
  · rw [if_neg hp, cutP h h1 h2]
    simp only [Option.bind_some, Option.some.injEq]
    rw [show min e p = e by omega, atE_self, show atE 1 p e = 10 ^ (p - e).toNat by unfold atE; rw [Nat.one_mul]]
    rw [Bool.eq_iff_iff, beq_iff_eq, decide_eq_true_eq]
    constructor
    · intro hh; exact limbs_nil_iff.1 (List.eq_nil_of_length_eq_zero (by omega))
    · intro hh; rw [hh, limbs_zero]; rfl
end Go.Proofs.YtjpokifkbclkiaaDoor.Px
end
section
namespace Go.Proofs.YtjpokifkbclkiaaDoor.Px
open Fig Go.RowKit Go.Proofs.YtjpokifkbclkiaaDoorW.PrintWords Go.Proofs.YtjpokifkbclkiaaDoorW.PrintLast Go.Proofs.YtjpokifkbclkiaaDoorW.PrintMore
attribute [local go_sem] max2_int min2_int max_two min_two max_three min_three max_four min_four   -- for this text's walks alone
attribute [local go_sem] fieldA23_0 fieldA23_1 fieldA23_2
theorem modeP (m : Int) : mode_Good.f m = some (decide (0 ≤ m ∧ m < 8)) := by
  unfold mode_Good.f
  by_cases h : m ≥ 0
  · rw [if_pos h]; congr 1; rw [decide_eq_decide]; omega
  · rw [if_neg h]; congr 1; symm; rw [decide_eq_false_iff_not]; omega
end Go.Proofs.YtjpokifkbclkiaaDoor.Px
end
section
namespace Go.Proofs.YtjpokifkbclkiaaDoor.Px
open Fig Go.RowKit Go.Proofs.YtjpokifkbclkiaaDoorW.PrintWords Go.Proofs.YtjpokifkbclkiaaDoorW.PrintLast Go.Proofs.YtjpokifkbclkiaaDoorW.PrintMore
attribute [local go_sem] max2_int min2_int max_two min_two max_three min_three max_four min_four   -- for this text's walks alone
attribute [local go_sem] fieldA23_0 fieldA23_1 fieldA23_2
theorem w_add (e : Int) (p : Nat) (h1 : -1000000 ≤ e) (h2 : e ≤ 1000000) (hp : p ≤ 1000000) : wrap64 (e + (p : Int)) = e + (p : Int) := w64 (by omega) (by omega)
theorem w_norm (e : Int) (p q : Nat) (h1 : -1000000 ≤ e) (h2 : e ≤ 1000000) (hp : p ≤ 1000000) (hq : q ≤ 1000000) : wrap64 (wrap64 (e + (p : Int)) - (q : Int)) = e + (p : Int) - (q : Int) := by rw [w_add e p h1 h2 hp, w64 (by omega) (by omega)]
theorem normP {b : Bool} {s : ByteArray} {e : Int} (h : OkD s e) : dec_Norm.f b s e = some (b, nD (vB s), nE (vB s) e) := by
  have hz := h.val
  have h1 := h.sz
  have h2 := h.lo
  have h3 := h.hi
  unfold dec_Norm.f
  rw [show strings_TrimLeft.f s (⟨#[48]⟩ : ByteArray) = some (digB (vB s)) by unfold strings_TrimLeft.f; rw [if_pos rfl, stripB_eq h.d]]
  simp only [Option.bind_some]
  by_cases h0 : vB s = 0
  · rw [if_pos (digB_toList_nil.2 h0), h0]; rfl
  · rw [if_neg (fun hh => h0 (digB_toList_nil.1 hh))]
    have hl := digB_len_core h0
    have ht : strings_TrimRight.f (digB (vB s)) (⟨#[48]⟩ : ByteArray) = some (digB (core (vB s))) := by
      unfold strings_TrimRight.f
      rw [if_pos ⟨rfl, by omega⟩]
      show some (⟨(Lib.trimRightB (digs (vB s)) 48).toArray⟩ : ByteArray) = _
      unfold Lib.trimRightB; rw [trimR_digs h0]; rfl
    rw [ht]
    simp only [Option.bind_some]
    rw [w_norm e _ _ (by omega) (by omega) (by omega) (by omega)]
    unfold nD nE
    rw [if_neg h0, if_neg h0, show e + ((digB (vB s)).size : Int) - ((digB (core (vB s))).size : Int) = e + (tz (vB s) : Int) by omega]
end Go.Proofs.YtjpokifkbclkiaaDoor.Px
end
section
namespace Go.Proofs.YtjpokifkbclkiaaDoor.Px
open Fig Go.RowKit Go.Proofs.YtjpokifkbclkiaaDoorW.PrintWords Go.Proofs.YtjpokifkbclkiaaDoorW.PrintLast Go.Proofs.YtjpokifkbclkiaaDoorW.PrintMore
attribute [local go_sem] max2_int min2_int max_two min_two max_three min_three max_four min_four   -- for this text's walks alone
attribute [local go_sem] fieldA23_0 fieldA23_1 fieldA23_2
theorem away_up (m : Int) (neg odd : Bool) (half : Int) : mode_Away.f m neg odd half = some (upB m neg odd half) := rfl
end Go.Proofs.YtjpokifkbclkiaaDoor.Px
end
section
namespace Go.Proofs.YtjpokifkbclkiaaDoor.Px
open Fig Go.RowKit Go.Proofs.YtjpokifkbclkiaaDoorW.PrintWords Go.Proofs.YtjpokifkbclkiaaDoorW.PrintLast Go.Proofs.YtjpokifkbclkiaaDoorW.PrintMore
attribute [local go_sem] max2_int min2_int max_two min_two max_three min_three max_four min_four   -- for this text's walks alone
attribute [local go_sem] fieldA23_0 fieldA23_1 fieldA23_2
theorem limbs_head {q : Nat} (h : q ≠ 0) : (limbs q).length > 0 ∧ rd (limbs q) 0 = ((q % 1000000000 : Nat) : Int) := by
  have hv := limbs_val q
  have hg := limbs_good q
  rcases hl : limbs q with _ | ⟨x, l⟩
  · exact absurd (limbs_nil_iff.1 hl) h
  · rw [hl] at hv hg
    obtain ⟨hx, _⟩ := goodL_cons.1 hg
    simp only [valL] at hv
    refine ⟨by simp, ?_⟩
    show x = _
    omega
theorem zeroB_okP (v : Nat) : dB (zeroB v) = true ∧ (zeroB v).size ≠ 0 ∧ vB (zeroB v) = v := by
  unfold zeroB
  by_cases h : v = 0
  · rw [if_pos h, h]; exact ⟨rfl, by decide, rfl⟩
  · rw [if_neg h]; exact ⟨dB_digB v, fun e => h (digB_empty_iff.1 e), vB_digB v⟩
theorem zeroB_sizeP {v k : Nat} (h : (digB v).size ≤ k) (hk : 1 ≤ k) : (zeroB v).size ≤ k := by
  unfold zeroB
  by_cases h0 : v = 0
  · rw [if_pos h0]; exact hk
  · rw [if_neg h0]; exact h
theorem digitsPP {v k : Nat} (h : (digB v).size ≤ k) (hk : k ≤ 1000000) : ten_Digits.f (limbs v) = some (zeroB v) := by
  have := limbs_len_digB v
  unfold ten_Digits.f; rw [if_pos ⟨limbs_good v, by omega⟩, limbs_val]
theorem Round_end {b : Bool} {v : Nat} {p : Int} (hz : (digB v).size ≤ 50000) (h1 : -100000 ≤ p) (h2 : p ≤ 100000) : ((ten_Digits.f (limbs v)).bind fun t => (dec_Norm.f b t p).bind fun u => some (u.1, u.2.1, u.2.2, (0 : Int))) = some (b, nD v, nE v p, 0) := by
  obtain ⟨d1, d2, d3⟩ := zeroB_okP v
  have d4 := zeroB_sizeP (k := 50000) hz (by decide)
  rw [digitsPP hz (by decide)]
  simp only [Option.bind_some]
  rw [normP ⟨d1, d2, by omega, h1, h2⟩, d3]; rfl
theorem add_one {q : Nat} (h : (digB q).size ≤ 1000000) : nat_Add.f (limbs q) ([1] : List Int) = some (limbs (q + 1)) := by
  have hl := limbs_len_digB q
  have h1 : ([1] : List Int).length ≤ 1000000000000 := by show 1 ≤ 1000000000000; omega
  have := addF_eq (limbs_good q) (b := [1]) (by decide) (by omega) h1
  rwa [limbs_val, show valL [1] = 1 from rfl] at this
theorem bind_of {α β : Type} {x : Option α} {f : α → Option β} {a : α} {r : Option β} (h : x = some a) (h2 : f a = r) : x.bind f = r := by subst h; exact h2
theorem placeRound_j0 {b : Bool} {s : ByteArray} {e p : Int} {q : Nat} {u : Bool} (hz : (digB q).size ≤ 40000) (h1 : -10000 ≤ p) (h2 : p ≤ 10000) : Ev (fun k => place_Round.j0 k p (limbs q) u b s e) (b, nD (q + if u = true then 1 else 0), nE (q + if u = true then 1 else 0) p, 0) := by
  cases u
  · refine evDone (r' := (b, nD q, nE q p, 0)) (fun k => ?_) (by simp)
    simp only [place_Round.j0, Bool.false_eq_true, if_false]
    exact Round_end (by omega) (by omega) (by omega)
  · have ha := add_one (q := q) (by omega)
    have hz2 := digB_add_le (m := q) (n := 1) (p := 40000) hz (by rw [digB_one_size]; omega)
    refine evDone (r' := (b, nD (q + 1), nE (q + 1) p, 0)) (fun k => ?_) (by simp)
    simp only [place_Round.j0, if_true]
    exact bind_of ha (Round_end (by omega) (by omega) (by omega))
theorem placeRound_ev {m : Int} {b : Bool} {s : ByteArray} {e p : Int} (hm : 0 ≤ m) (hm7 : m ≤ 7) (h : OkS s e) (h1 : -10000 ≤ p) (h2 : p ≤ 10000) : Ev (fun k => place_Round.f k m b s e p) (roundD m b (vB s) e 1 p) := by
  have hv := h.ok.val
  have hsz := h.sz
  have hlo := h.lo
  have hhi := h.hi
  unfold place_Round.f
  refine evE (modeP m) (evT (by simp; omega) (evE (fitsP h h1 h2) ?_))
  by_cases hf : atE (vB s) e (min e p) % atE 1 p (min e p) = 0
  · rw [roundD_fit hf]
    exact evT (decide_eq_true hf) (evE (normP h.ok) (Ev.now _))
  refine evF (by simpa using hf) ?_
  have hpe : e < p := by
    apply Classical.byContradiction; intro hn
    rw [show min e p = p by omega, atE_self, Nat.mod_one] at hf
    exact hf rfl
  by_cases h7 : m = 7
  · subst h7
    rw [roundD_exact hf]
    exact evT rfl (Ev.now _)
  refine evF h7 ?_
  have hme : min e p = e := by omega
  obtain ⟨B, hB⟩ : ∃ B, B = 10 ^ (p - e).toNat := ⟨_, rfl⟩
  have hB1 : atE 1 p e = B := by unfold atE; rw [Nat.one_mul, hB]
  rw [hme, atE_self, hB1] at hf
  have hB0 : 0 < B := by rw [hB]; exact pow10_pos _
  have hzB : (digB B).size ≤ 20001 := by rw [hB, digB_pow_size]; omega
  have zq := digB_mono (Nat.div_le_self (vB s) B) hv
  have zr := digB_mono (Nat.mod_le (vB s) B) hv
  have lq := limbs_len_digB (vB s / B)
  have lr := limbs_len_digB (vB s % B)
  have z2 := digB_add_le zr zr
  have l2 := limbs_len_digB (vB s % B + vB s % B)
  have lB := limbs_len_digB B
  have hcut := cutP (b := b) h h1 h2
  rw [← hB] at hcut
  refine evE hcut ?_
  have ha : nat_Add.f (limbs (vB s % B)) (limbs (vB s % B)) = some (limbs (vB s % B + vB s % B)) := by
    have := addF_eq (limbs_good (vB s % B)) (limbs_good (vB s % B)) (by omega) (by omega)
    rwa [limbs_val] at this
  have hs : ten_Shift.f ([1] : List Int) (wrap64 (p - e)) = some (limbs B) := by
    rw [w64 (x := p - e) (by omega) (by omega), shiftP (by decide) (by decide) (by omega), show valL [1] = 1 by decide, Nat.one_mul, hB]
  have hc : nat_Cmp.f (limbs (vB s % B + vB s % B)) (limbs B) = some (cmpN (vB s % B + vB s % B) B) := by
    have := cmpF_eq (limbs_good (vB s % B + vB s % B)) (limbs_good B) (by omega) (by omega)
    rwa [limbs_val, limbs_val] at this
  refine evE ha (evE hs (evE hc ?_))
  have hres : roundD m b (vB s) e 1 p = (b, nD (vB s / B + if upB m b (vB s / B % 2 == 1) (cmpN (vB s % B + vB s % B) B) = true then 1 else 0), nE (vB s / B + if upB m b (vB s / B % 2 == 1) (cmpN (vB s % B + vB s % B) B) = true then 1 else 0) p, 0) := by
    rw [roundD_at h7 b (vB s) e 1 p e (Int.le_refl e) (by omega)]
    unfold rv0
    rw [atE_self, hB1]
    have hq : rq m b (vB s) B = vB s / B + if upB m b (vB s / B % 2 == 1) (cmpN (vB s % B + vB s % B) B) = true then 1 else 0 := by
      unfold rq; simp only [ne_eq, hf, not_false_eq_true, true_and]
    rw [hq, hB, nD_pow, nE_pow, show e + ((p - e).toNat : Int) = p by omega]
  rw [hres]
  dsimp only
  by_cases hq0 : vB s / B = 0
  · refine evF (by rw [hq0, limbs_zero]; decide) (evE (away_up _ _ _ _) ?_)
    have : (vB s / B % 2 == 1) = false := by rw [hq0]; rfl
    rw [this]
    exact placeRound_j0 (by omega) h1 h2
  · obtain ⟨g1, g2⟩ := limbs_head hq0
    refine evT (by omega) (evT (by omega) ?_)
    have : (Int.tmod (rd (limbs (vB s / B)) 0) 2 == 1) = (vB s / B % 2 == 1) := by
      rw [g2, Int.tmod_eq_emod_of_nonneg (by omega), Bool.eq_iff_iff, beq_iff_eq, beq_iff_eq]; omega
    rw [this]
    refine evE (away_up _ _ _ _) ?_
    exact placeRound_j0 (by omega) h1 h2
end Go.Proofs.YtjpokifkbclkiaaDoor.Px
end
section
namespace Go.Proofs.YtjpokifkbclkiaaDoor.Px
open Fig Go.RowKit Go.Proofs.YtjpokifkbclkiaaDoorW.PrintWords Go.Proofs.YtjpokifkbclkiaaDoorW.PrintLast Go.Proofs.YtjpokifkbclkiaaDoorW.PrintMore
attribute [local go_sem] max2_int min2_int max_two min_two max_three min_three max_four min_four   -- for this text's walks alone
attribute [local go_sem] fieldA23_0 fieldA23_1 fieldA23_2
theorem nD_lit8 {n m k : Nat} {s : ByteArray} (h : n = m * 10 ^ k) (hm : m % 10 ≠ 0) (hd : dB s = true) (hv : vB s = m) (hs : stripB s = s) : nD n = s := by
  rw [h, nD_pow, nD_of hm, ← hv, ← stripB_eq hd, hs]
theorem nE_lit8 {n m k : Nat} {e : Int} (h : n = m * 10 ^ k) (hm : m % 10 ≠ 0) : nE n e = e + (k : Int) := by rw [h, nE_pow, nE_of hm]
theorem answers08_ev : Ev (fun k => figureheadlaw08_answers.f k) true := by
  have ok1 : OkS (⟨#[50, 53]⟩ : ByteArray) (-1) := OkS.of_good (by decide)
  have ok2 : OkS (⟨#[50, 48]⟩ : ByteArray) (-1) := OkS.of_good (by decide)
  have v1 : vB (⟨#[50, 53]⟩ : ByteArray) = 25 := by decide
  have v2 : vB (⟨#[50, 48]⟩ : ByteArray) = 20 := by decide
  have n20 : nD 20 = (⟨#[50]⟩ : ByteArray) := nD_lit8 (m := 2) (k := 1) (by decide) (by decide) (by decide) (by decide) (by decide)
  have e20 : nE 20 (-1) = 0 := by rw [nE_lit8 (m := 2) (k := 1) (by decide) (by decide)]; decide
  have r1 : roundD 4 false 25 (-1) 1 0 = (false, (⟨#[50]⟩ : ByteArray), 0, 0) := by
    rw [roundD_ok (by decide), show rv0 4 false 25 (-1) 1 0 (min (-1) 0) = 20 by decide, n20, show min (-1 : Int) 0 = -1 by decide, e20]
  have r2 : roundD 7 false 25 (-1) 1 0 = (false, (⟨#[]⟩ : ByteArray), 0, 11) := roundD_exact (by decide)
  unfold figureheadlaw08_answers.f
  refine Ev.bind (placeRound_ev (by decide) (by decide) ok1 (by decide) (by decide)) ?_
  rw [v1, r1]
  refine Ev.bind (placeRound_ev (by decide) (by decide) ok1 (by decide) (by decide)) ?_
  rw [v1, r2]
  refine evT rfl (evT (by simp [ByteArray.toList_eq]) (evT rfl (evE (fitsP ok2 (by decide) (by decide)) ?_)))
  rw [v2]
  exact evIs (Ev.now _) (by decide)
end Go.Proofs.YtjpokifkbclkiaaDoor.Px
end
section
namespace Go.Proofs.YtjpokifkbclkiaaDoor.Px
open Fig Go.RowKit Go.Proofs.YtjpokifkbclkiaaDoorW.PrintWords Go.Proofs.YtjpokifkbclkiaaDoorW.PrintLast Go.Proofs.YtjpokifkbclkiaaDoorW.PrintMore
attribute [local go_sem] max2_int min2_int max_two min_two max_three min_three max_four min_four   -- for this text's walks alone
attribute [local go_sem] fieldA23_0 fieldA23_1 fieldA23_2
theorem digB_bt {n : Nat} (h : n ≠ 0) : bt (digB n) (((digB n).size : Int) - 1) = ((48 + n % 10 : Nat) : Int) := by
  have hs := digB_ten_size h
  have hl := digB_ten_last h
  have hlt : (digB (n / 10)).size < (digB n).size := by omega
  rw [show ((digB n).size : Int) - 1 = ((digB (n / 10)).size : Int) by omega, bt_get hlt]
  have hg := List.getElem?_eq_getElem (l := (digB n).data.toList) (i := (digB (n / 10)).size) (by rw [← size_eq]; exact hlt)
  rw [hl] at hg
  rw [← Option.some.inj hg, dig_toNat]
theorem Norm05_loop (b b2 : Bool) (s2 : ByteArray) (e2 : Int) : ∀ (d n : Nat) (e : Int), n ≠ 0 → n < d → (digB n).size ≤ 1000000 → -1000000 ≤ e → e + ((digB n).size : Int) ≤ 2000000 → Ev (fun k => figureheadref05_Norm.l0 k (digB n) e b s2 e2) (b, nD n, nE n e)
  | 0, n, e, h0, hd, hz, h1, h2 => absurd hd (by omega)
  | d + 1, n, e, h0, hd, hz, h1, h2 => by
    have hs := digB_ten_size h0
    have hb := digB_bt h0
    have hw : wrap64 (((digB n).size : Int) - 1) = ((digB n).size : Int) - 1 := w64 (by omega) (by omega)
    by_cases hm : n % 10 = 0
    · have h3 : n / 10 ≠ 0 := by omega
      have h4 : n / 10 < d := by have := div10_lt h0; omega
      have e1 : nD n = nD (n / 10) := by
        conv => lhs; rw [show n = n / 10 * 10 ^ 1 by omega]
        exact nD_pow _ _
      have e2' : nE n e = nE (n / 10) (e + 1) := by
        conv => lhs; rw [show n = n / 10 * 10 ^ 1 by omega]
        exact nE_pow _ _ _
      rw [e1, e2']
      refine Ev.step (f := fun k => figureheadref05_Norm.l0 k (digB (n / 10)) (e + 1) b s2 e2) (fun k => ?_) (Norm05_loop b b2 s2 e2 d (n / 10) (e + 1) h3 h4 (by omega) (by omega) (by omega))
      simp only [figureheadref05_Norm.l0]
      rw [hw, if_pos (by omega), if_pos (by omega), hb, if_pos (by omega), if_pos (by omega), w64 (x := e + 1) (by omega) (by omega)]
      rw [show (((digB n).size : Int) - 1).toNat = (digB (n / 10)).size by omega, digB_ten_init h0]
    · rw [nD_of hm, nE_of hm]
      refine evDone (r' := (b, digB n, e)) (fun k => ?_) rfl
      simp only [figureheadref05_Norm.l0]
      rw [hw, if_pos (by omega), if_pos (by omega), hb, if_neg (by omega)]
theorem Norm05_any {b : Bool} {s : ByteArray} {e : Int} (hd : dB s = true) (hz : s.size ≤ 1000000) (h1 : -1000000 ≤ e) (h2 : e ≤ 1000000) : Ev (fun k => figureheadref05_Norm.f k b s e) (b, nD (vB s), nE (vB s) e) := by
  have hv : (digB (vB s)).size ≤ s.size := digs_size_lt (vB_lt hd)
  unfold figureheadref05_Norm.f
  refine Ev.bind (StripD_ev (by omega) hd) ?_
  by_cases h0 : vB s = 0
  · simp only [digB_toList_nil.2 h0, if_true]
    rw [h0]
    exact Ev.now _
  · have h3 : ¬ (digB (vB s)).toList = ([] : List UInt8) := fun hh => h0 (digB_toList_nil.1 hh)
    simp only [h3, if_false]
    exact Norm05_loop b b s e (vB s + 1) (vB s) e h0 (by omega) (by omega) (by omega) (by omega)
theorem Norm05_ev {b : Bool} {s : ByteArray} {e : Int} (h : OkD s e) : Ev (fun k => figureheadref05_Norm.f k b s e) (b, nD (vB s), nE (vB s) e) := by
  have h1 := h.sz
  have h2 := h.lo
  have h3 := h.hi
  exact Norm05_any h.d (by omega) (by omega) (by omega)
end Go.Proofs.YtjpokifkbclkiaaDoor.Px
end
section
namespace Go.Proofs.YtjpokifkbclkiaaDoor.Px
open Fig Go.RowKit Go.Proofs.YtjpokifkbclkiaaDoorW.PrintWords Go.Proofs.YtjpokifkbclkiaaDoorW.PrintLast Go.Proofs.YtjpokifkbclkiaaDoorW.PrintMore
attribute [local go_sem] max2_int min2_int max_two min_two max_three min_three max_four min_four   -- for this text's walks alone
attribute [local go_sem] fieldA23_0 fieldA23_1 fieldA23_2
theorem Less_eq (m n : Nat) : figureheadref01_Less.f (digB m) (digB n) = some (decide (m < n)) := by
  unfold figureheadref01_Less.f
  rw [digB_size, digB_size]
  by_cases h : (digs m).length = (digs n).length
  · rw [if_pos (by omega)]
    rw [ByteArray.toList_eq, ByteArray.toList_eq, digB_list, digB_list, less_same (digs_dig m) (digs_dig n) h, digs_val, digs_val]
  · rw [if_neg (by omega)]
    congr 1
    rw [decide_eq_decide]
    constructor
    · intro h1; exact digs_len_lt (by omega)
    · intro h1
      rcases Nat.lt_or_ge (digs m).length (digs n).length with h2 | h2
      · omega
      · have := digs_len_lt (m := n) (n := m) (by omega); omega
end Go.Proofs.YtjpokifkbclkiaaDoor.Px
end
section
namespace Go.Proofs.YtjpokifkbclkiaaDoor.Px
open Fig Go.RowKit Go.Proofs.YtjpokifkbclkiaaDoorW.PrintWords Go.Proofs.YtjpokifkbclkiaaDoorW.PrintLast Go.Proofs.YtjpokifkbclkiaaDoorW.PrintMore
attribute [local go_sem] max2_int min2_int max_two min_two max_three min_three max_four min_four   -- for this text's walks alone
attribute [local go_sem] fieldA23_0 fieldA23_1 fieldA23_2
theorem Zeros_loop (m : Nat) (hm : m ≤ 1000000) : ∀ (d n : Nat), m - n = d → n ≤ m → Ev (fun k => figureheadref01_Zeros.l0 k (m : Int) (List.replicate n 48) (n : Int)) (strOfNums (List.replicate m 48))
  | 0, n, hd, hn => by
    obtain rfl : n = m := by omega
    refine evDone (r' := strOfNums (List.replicate n 48)) (fun k => ?_) rfl
    simp only [figureheadref01_Zeros.l0]; rw [if_neg (by omega)]
  | d + 1, n, hd, hn => by
    refine Ev.step (f := fun k => figureheadref01_Zeros.l0 k (m : Int) (List.replicate (n + 1) 48) ((n + 1 : Nat) : Int)) (fun k => ?_) (Zeros_loop m hm d (n + 1) (by omega) (by omega))
    simp only [figureheadref01_Zeros.l0]
    rw [if_pos (by omega), if_pos (by rw [List.length_replicate]; omega), List.replicate_succ', w64 (by omega) (by omega)]; rfl
def zerosB (m : Nat) : ByteArray := strOfNums (List.replicate m 48)
theorem Zeros_ev {m : Nat} (hm : m ≤ 1000000) : Ev (fun k => figureheadref01_Zeros.f k (m : Int)) (zerosB m) := Zeros_loop m hm m 0 (by omega) (by omega)
theorem zerosB_list (m : Nat) : (zerosB m).data.toList = List.replicate m 48 := by rw [zerosB, B_nums, List.map_replicate]; rfl
theorem zerosB_size (m : Nat) : (zerosB m).size = m := by rw [size_eq, zerosB_list, List.length_replicate]
end Go.Proofs.YtjpokifkbclkiaaDoor.Px
end
section
namespace Go.Proofs.YtjpokifkbclkiaaDoor.Px
open Fig Go.RowKit Go.Proofs.YtjpokifkbclkiaaDoorW.PrintWords Go.Proofs.YtjpokifkbclkiaaDoorW.PrintLast Go.Proofs.YtjpokifkbclkiaaDoorW.PrintMore
attribute [local go_sem] max2_int min2_int max_two min_two max_three min_three max_four min_four   -- for this text's walks alone
attribute [local go_sem] fieldA23_0 fieldA23_1 fieldA23_2
theorem At05_ev {b : Bool} {s : ByteArray} {e x : Int} (h : OkD s e) (h1 : x ≤ e) (h2 : -100000 ≤ x) : Ev (fun k => figureheadref05_At.f k b s e x) (digB (atE (vB s) e x)) := by
  have hs := h.sz
  have hl := h.lo
  have hh := h.hi
  have hz := h.val
  unfold figureheadref05_At.f
  refine Ev.bind (StripD_ev (by omega) h.d) ?_
  by_cases h0 : vB s = 0
  · simp only [digB_toList_nil.2 h0, if_true]
    rw [h0, atE_zero, digB_zero]
    exact Ev.now _
  · have h3 : ¬ (digB (vB s)).toList = ([] : List UInt8) := fun hh => h0 (digB_toList_nil.1 hh)
    obtain ⟨m, hm⟩ : ∃ m : Nat, m = (e - x).toNat := ⟨_, rfl⟩
    have hw : wrap64 (e - x) = (m : Int) := by rw [w64 (by omega) (by omega)]; omega
    simp only [h3, if_false, hw]
    refine Ev.bind (Zeros_ev (by omega)) ?_
    have hc : (digB (vB s)).size + (zerosB m).size ≤ 9223372036854775807 := by rw [zerosB_size]; omega
    simp only [hc, if_true]
    refine evIs (Ev.now _) ?_
    apply B_ext
    rw [B_append, digB_list, digB_list, zerosB_list]
    unfold atE
    rw [digs_pow h0, ← hm]
end Go.Proofs.YtjpokifkbclkiaaDoor.Px
end
section
namespace Go.Proofs.YtjpokifkbclkiaaDoor.Px
open Fig Go.RowKit Go.Proofs.YtjpokifkbclkiaaDoorW.PrintWords Go.Proofs.YtjpokifkbclkiaaDoorW.PrintLast Go.Proofs.YtjpokifkbclkiaaDoorW.PrintMore
attribute [local go_sem] max2_int min2_int max_two min_two max_three min_three max_four min_four   -- for this text's walks alone
attribute [local go_sem] fieldA23_0 fieldA23_1 fieldA23_2
theorem digB_toList_inj {m n : Nat} : (digB m).toList = (digB n).toList ↔ m = n := by
  constructor
  · intro h; apply digB_inj; apply B_ext; rw [← ByteArray.toList_eq, h, ByteArray.toList_eq]
  · rintro rfl; rfl
theorem Cmp05_j1 (a b : Bool) (x y : Nat) (s t : ByteArray) (e f : Int) : Ev (fun k => figureheadref05_Cmp.j1 k (digB x) (digB y) (decide (x = 0 ∧ y = 0)) a s e b t f) (cmpZ (sg a x) (sg b y)) := by
  rw [cmpZ_signs]
  by_cases hz : x = 0 ∧ y = 0
  · rw [if_pos hz]
    refine evDone (r' := 0) (fun k => ?_) rfl
    simp [figureheadref05_Cmp.j1, hz]
  · rw [if_neg hz]
    cases a <;> cases b
    · by_cases he : x = y
      · subst he
        refine evDone (r' := 0) (fun k => ?_) (by simp [cmp_self])
        simp [figureheadref05_Cmp.j1]
      · have h1 : ¬ (digB x).toList = (digB y).toList := fun hh => he (digB_toList_inj.1 hh)
        refine evDone (r' := if x < y then -1 else 1) (fun k => ?_) ?_
        · simp only [figureheadref05_Cmp.j1, hz, decide_false, Bool.false_eq_true, if_false, bne_self_eq_false, h1, Less_eq, Option.bind_some]
          by_cases hl : x < y <;> simp [hl]
        · unfold cmpN
          by_cases hl : x < y
          · simp [hl]
          · have : y < x := by omega
            simp [hl, this]
    · refine evDone (r' := 1) (fun k => ?_) (by simp)
      simp [figureheadref05_Cmp.j1, hz]
    · refine evDone (r' := -1) (fun k => ?_) (by simp)
      simp [figureheadref05_Cmp.j1, hz]
    · by_cases he : x = y
      · subst he
        refine evDone (r' := 0) (fun k => ?_) (by simp [cmp_self])
        simp [figureheadref05_Cmp.j1]
      · have h1 : ¬ (digB x).toList = (digB y).toList := fun hh => he (digB_toList_inj.1 hh)
        refine evDone (r' := if x < y then 1 else -1) (fun k => ?_) ?_
        · simp only [figureheadref05_Cmp.j1, hz, decide_false, Bool.false_eq_true, if_false, bne_self_eq_false, h1, Less_eq, Option.bind_some]
          by_cases hl : x < y <;> simp [hl]
        · unfold cmpN
          by_cases hl : x < y
          · have : ¬ y < x := by omega
            simp [hl, this]
          · have : y < x := by omega
            simp [hl, this]
theorem Cmp05_j0 {a b : Bool} {s t : ByteArray} {e f m : Int} (h : OkD s e) (g : OkD t f) (h1 : m ≤ e) (h2 : m ≤ f) (h3 : -100000 ≤ m) : Ev (fun k => figureheadref05_Cmp.j0 k m a s e b t f) (cmpD a (vB s) e b (vB t) f) := by
  rw [cmpD_at h1 h2]
  refine Ev.step (fun k => by simp only [figureheadref05_Cmp.j0]; rfl) ?_
  refine Ev.bind (At05_ev h h1 h3) (Ev.bind (At05_ev g h2 h3) ?_)
  have := Cmp05_j1 a b (atE (vB s) e m) (atE (vB t) f m) s t e f
  by_cases hx : atE (vB s) e m = 0
  · simp only [digB_toList_nil.2 hx, if_true]
    have hy : ((digB (atE (vB t) f m)).toList == ([] : List UInt8)) = decide (atE (vB s) e m = 0 ∧ atE (vB t) f m = 0) := by
      rw [Bool.eq_iff_iff, beq_iff_eq, decide_eq_true_eq, digB_toList_nil]; simp [hx]
    rw [hy]; exact this
  · have hx2 : ¬ (digB (atE (vB s) e m)).toList = ([] : List UInt8) := fun hh => hx (digB_toList_nil.1 hh)
    simp only [hx2, if_false]
    have hy : decide (atE (vB s) e m = 0 ∧ atE (vB t) f m = 0) = false := by simp [hx]
    rw [hy] at this; exact this
theorem Cmp05_ev {a b : Bool} {s t : ByteArray} {e f : Int} (h : OkD s e) (g : OkD t f) : Ev (fun k => figureheadref05_Cmp.f k a s e b t f) (cmpD a (vB s) e b (vB t) f) := by
  unfold figureheadref05_Cmp.f
  by_cases hc : f < e
  · simp only [hc, if_true]; exact Cmp05_j0 h g (by omega) (by omega) g.lo
  · simp only [hc, if_false]; exact Cmp05_j0 h g (by omega) (by omega) h.lo
end Go.Proofs.YtjpokifkbclkiaaDoor.Px
end
section
namespace Go.Proofs.YtjpokifkbclkiaaDoor.Px
open Fig Go.RowKit Go.Proofs.YtjpokifkbclkiaaDoorW.PrintWords Go.Proofs.YtjpokifkbclkiaaDoorW.PrintLast Go.Proofs.YtjpokifkbclkiaaDoorW.PrintMore
attribute [local go_sem] max2_int min2_int max_two min_two max_three min_three max_four min_four   -- for this text's walks alone
attribute [local go_sem] fieldA23_0 fieldA23_1 fieldA23_2
theorem PlaceFits_true (a0 a2 : Int) (b : Bool) (s : ByteArray) (e : Int) : Ev (fun k => figureheadlaw08_PlaceFits.j0 k a0 a2 true b s e) true :=
  Ev.step (fun k => by simp only [figureheadlaw08_PlaceFits.j0, if_true]) (Ev.bind answers08_ev (Ev.now true))
theorem PlaceFits_pure (a0 : Int) (a1_0 : Bool) (a1_1 : ByteArray) (a1_2 a2 : Int) (w0 : (Lit.int .i64 a0).wf = true) (w1_1 : a1_1.size ≤ 140737488351232) (w1_2 : (Lit.int .i64 a1_2).wf = true) (w2 : (Lit.int .i64 a2).wf = true) : ∃ k, figureheadlaw08_PlaceFits.f k a0 a1_0 a1_1 a1_2 a2 = some true := by
  refine Ev.rounds (g := fun k => figureheadlaw08_PlaceFits.f k a0 a1_0 a1_1 a1_2 a2) ?_
  unfold figureheadlaw08_PlaceFits.f
  refine Ev.bind (good08_ev (by omega)) ?_
  cases hg : goodP8 a1_1 a1_2 a2
  · exact evF (by decide) (PlaceFits_true _ _ _ _ _)
  obtain ⟨ok, hz, hp1, hp2, he1, he2⟩ := goodP8_ok hg
  refine evT rfl ?_
  by_cases h0 : a0 < 0
  · exact evT h0 (PlaceFits_true _ _ _ _ _)
  refine evF h0 ?_
  by_cases h7 : a0 > 7
  · rw [decide_eq_true h7]; exact PlaceFits_true _ _ _ _ _
  rw [decide_eq_false h7]
  obtain ⟨n, hn⟩ : ∃ n, n = vB a1_1 := ⟨_, rfl⟩
  have hfo := fit_one (n := n) (e := a1_2) (p := a2) (k := min a1_2 a2) (by omega) (by omega)
  have hnl : (nD n).toList = ([48] : List UInt8) ↔ n = 0 := by
    rw [← nD_nought_iff]
    constructor
    · intro h; apply B_ext; rw [← ByteArray.toList_eq, h]; rfl
    · intro h; rw [h, ByteArray.toList_eq]; rfl
  have hj1 : Ev (fun k => figureheadlaw08_PlaceFits.j1 k a0 a2 (roundD a0 a1_0 n a1_2 1 a2).2.2.2 (decide (atE n a1_2 (min a1_2 a2) % atE 1 a2 (min a1_2 a2) = 0)) false a1_0 a1_1 a1_2 (roundD a0 a1_0 n a1_2 1 a2).1 (roundD a0 a1_0 n a1_2 1 a2).2.1 (roundD a0 a1_0 n a1_2 1 a2).2.2.1 a1_0 (nD n) (nE n a1_2)) true := by
    by_cases hf : atE n a1_2 (min a1_2 a2) % atE 1 a2 (min a1_2 a2) = 0
    · rw [roundD_fit hf, decide_eq_true hf]
      refine Ev.step (fun k => by simp only [figureheadlaw08_PlaceFits.j1, Bool.false_eq_true, if_false, if_true]; rfl) ?_
      exact Ev.bind answers08_ev (evT rfl (evIs (Ev.now _) (by simp)))
    · rw [decide_eq_false hf]
      refine Ev.step (fun k => by simp only [figureheadlaw08_PlaceFits.j1, Bool.false_eq_true, if_false]; rfl) ?_
      refine Ev.bind answers08_ev (evT rfl ?_)
      by_cases h7' : a0 = 7
      · subst h7'
        rw [roundD_exact hf]
        exact evT (by decide) (evF (by decide) (Ev.now true))
      · rw [roundD_ok h7']
        have hr := rv0_ok (m := a0) (neg := a1_0) (n := n) (e := a1_2) (p := a2) (k := min a1_2 a2) (by rw [hn]; omega) (by omega) (by omega) (by omega) (by omega) (by omega) (by omega)
        obtain ⟨R, hR⟩ : ∃ R, R = rv0 a0 a1_0 n a1_2 1 a2 (min a1_2 a2) := ⟨_, rfl⟩
        rw [← hR] at hr ⊢
        refine evT (by simp [h7']) (evT rfl (evE (fitsP hr (by omega) (by omega)) (evT ?_ (Ev.bind (Cmp05_ev hr.ok ok.ok) ?_))))
        · rw [decide_eq_true_eq, vB_nD, fit_one (by omega) (by omega), nE_core]
          have := rv0_place (m := a0) (neg := a1_0) (n := n) (e := a1_2) (st := 1) (p := a2) (k := min a1_2 a2) (by omega)
          rw [← hR] at this
          rcases this with h | h
          · left; rw [h, core_zero]
          · exact .inr h
        · refine evIs (Ev.now _) ?_
          rw [bne_iff_ne, vB_nD, cmpD_at (k := min (min a1_2 a2) 0) (nE_ge _ (by omega) (by omega)) (by omega), ne_eq, cmpZ_eq, hR, vZ_rv0 (by omega) (by omega) (by omega), ← hn]
          unfold vZ
          intro he
          have h2 := (sg_inj' he)
          unfold rv0 at h2
          have h3 := rq_eq_iff.1 h2
          exact hf ((fit_low (i := min a1_2 a2) (k := min (min a1_2 a2) 0) (by omega) (by omega) (by omega)).1 h3)
  refine Ev.step (fun k => by simp only [figureheadlaw08_PlaceFits.j0, Bool.false_eq_true, if_false]; rfl) ?_
  refine Ev.bind (placeRound_ev (by omega) (by omega) ok (by omega) (by omega)) (evE (fitsP ok (by omega) (by omega)) (Ev.bind (Norm05_ev ok.ok) ?_))
  rw [← hn]
  by_cases h00 : n = 0
  · refine evT (hnl.2 h00) ?_
    have : (decide (atE n a1_2 (min a1_2 a2) % atE 1 a2 (min a1_2 a2) = 0) != true) = false := by rw [decide_eq_true (hfo.2 (.inl h00))]; rfl
    rw [this]; exact hj1
  · refine evF (fun hh => h00 (hnl.1 hh)) ?_
    have : (decide (atE n a1_2 (min a1_2 a2) % atE 1 a2 (min a1_2 a2) = 0) != decide (nE n a1_2 ≥ a2)) = false := by
      have hde : decide (atE n a1_2 (min a1_2 a2) % atE 1 a2 (min a1_2 a2) = 0) = decide (nE n a1_2 ≥ a2) := by
        rw [decide_eq_decide]
        exact hfo.trans ⟨fun h => h.resolve_left h00, fun h => .inr h⟩
      rw [hde]; simp
    rw [this]; exact hj1
end Go.Proofs.YtjpokifkbclkiaaDoor.Px
end
section
namespace Go.Proofs.YtjpokifkbclkiaaDoorW.PrintWords
open Go.ChangeShapes Go.WideShapes
end Go.Proofs.YtjpokifkbclkiaaDoorW.PrintWords
end
section
namespace Fig
open Go Go.ChangeShapes
theorem one_cell {α : Type} {l : List α} {i n : Nat} (hl : l.length = n) (hi : i < n) : ∃ v, (l.drop i).take 1 = [v] ∧ l[i]? = some v := by
  refine ⟨l[i], ?_, List.getElem?_eq_getElem (by omega)⟩
  rw [List.drop_eq_getElem_cons (by omega)]; rfl
theorem func_cell {P : Program} {W : World} {name : String} {d : DataW Unit} (h : funcsAt P W name d) {g : Nat} {t e : TypeId} {n : Nat} {fld : Field} {ps rs : Array TypeId} {va : Bool}
    (hg : P.globalNamed name = some g) (hty : (P.globals[g]?).map (·.type) = some t) (ht : P.underlying t = some (.array n e)) (he : P.underlying e = some (.struct #[fld])) (hft : P.underlying fld.type = some (.func ps rs va))
    (ce : P.cellsOf e = 1) (cf : P.cellsOf fld.type = 1) (ho : fld.offset = 0) (ct : P.cellsOf t = n) {ds : List (DataW (List UInt8))} (hd : d.funcsOut = .agg ds)
    {i : Nat} (hi : i < n) {b : UInt8} {r : List UInt8} (hdi : ds[i]? = some (.agg [.held (b :: r)])) {f0 : FuncId}
    (hone : ((List.range P.funcs.size).filter fun f => (P.funcs[f]?).any (·.name.toUTF8.data.toList == b :: r)) = [f0]) : W.cell? ⟨g, i, none⟩ = some (.func (.func f0) #[] #[]) := by
  obtain ⟨g', t', cs, fuel, p, hg', ht', hv, hr⟩ := h
  obtain rfl := Option.some.inj (hg.symm.trans hg')
  obtain rfl := Option.some.inj (hty.symm.trans ht')
  obtain ⟨xs, m, _, ex, hcl, hl, hel⟩ := DataW.trod_array ht hr
  rw [hd] at ex
  have e3 : xs.map (·.1) = ds := (DataW.agg.inj (Prod.mk.inj ex).1).symm
  obtain ⟨v, hv1, hv2⟩ := one_cell (l := cs.toList) (n := n) (hcl.trans ct) hi
  have hE := hel i hi
  rw [ce, Nat.mul_one, hv1] at hE
  rw [← e3, List.getElem?_map] at hdi
  cases hx : xs[i]? with
  | none => rw [hx] at hdi; cases hdi
  | some x =>
    rw [hx] at hE hdi
    simp only [Option.map_some, Option.some.injEq] at hdi
    obtain ⟨y0, k, rfl, _, hy⟩ := trod_struct1 he hE
    rw [cf, ho, List.drop_zero] at hy
    have hy0 : y0.1 = .held (b :: r) := by simpa using hdi
    obtain ⟨y1, y2⟩ := y0
    subst hy0
    obtain rfl := func_of_trod hft hone (show DataW.trod _ P W 0 _ true k fld.type [v] = _ from hy)
    rw [World.var?_cell hg hv i]
    simpa using hv2
theorem setCells_os (g : Nat) : ∀ (l : List Value) (i : Nat) (w : World), ((l.zipIdx i).foldl (fun w x => w.setCell ⟨g, x.2, none⟩ x.1) w).os = w.os
  | [], _, _ => rfl
  | _ :: l, i, w => by rw [List.zipIdx_cons, List.foldl_cons, setCells_os g l (i + 1)]; rfl
end Fig
end
section
namespace Fig
open Go Go.Proofs Go.Proofs.YtjpokifkbclkiaaDoor
set_option maxRecDepth 100000
def plainL : List (String × DataW Unit) := [("unicode/utf8.acceptRanges", Rows.laid_unicode_utf8_acceptRanges), ("figurehead/ten.powers", Rows.laid_figurehead_ten_powers), ("unicode/utf8.first", Rows.laid_unicode_utf8_first)]
def laidL : List (String × DataW Unit) := [("figurehead/mode.ways", Rows.laid_figurehead_mode_ways), ("unicode/utf8.acceptRanges", Rows.laid_unicode_utf8_acceptRanges), ("figurehead/ten.powers", Rows.laid_figurehead_ten_powers), ("unicode/utf8.first", Rows.laid_unicode_utf8_first)]
def wayCells : List Value := [.func (.func 112) #[] #[], .func (.func 113) #[] #[], .func (.func 114) #[] #[], .func (.func 115) #[] #[], .func (.func 116) #[] #[], .func (.func 117) #[] #[], .func (.func 118) #[] #[], .func (.func 119) #[] #[]]
noncomputable def startW (os : Os) : World := (wayCells.zipIdx 0).foldl (fun w x => w.setCell ⟨1, x.2, none⟩ x.1) (World.laidAll Tryd.prog os plainL)
theorem startW_os (os : Os) : (startW os).os = os := (setCells_os _ _ _ _).trans (World.laidAll_os _ _ _)
theorem met (os : Os) (args : Array Value) : laidMetH Tryd.prog laidL ((startW os).forCall (fun _ _ => 0) ⟨#[], args, []⟩).memory :=
  laidMetH_of_parts3 (fuel := 8) (laidMet_of_run' 8 (by kernel_rfl) (by kernel_rfl)) (by kernel_rfl) (by kernel_rfl)
theorem plainFilter : (laidL.filter fun x => x.2.handleName?.isNone) = plainL := by kernel_rfl
theorem plain_of {W : World} (h : laidMetH Tryd.prog laidL W) : laidMet Tryd.prog plainL W := plainFilter ▸ (laidMetH_iff.1 h).1
theorem ways_of {W : World} (h : laidMetH Tryd.prog laidL W) : ∀ i f, ([112, 113, 114, 115, 116, 117, 118, 119] : List Nat)[i]? = some f → W.cell? ⟨1, i, none⟩ = some (.func (.func f) #[] #[]) := by
  have hF := h.funcs (n := "figurehead/mode.ways") (List.mem_cons_self)
  have gN : Tryd.prog.globalNamed "figurehead/mode.ways" = some 1 := by kernel_rfl
  have gT : (Tryd.prog.globals[1]?).map (·.type) = some 73 := by kernel_rfl
  have c1 : Tryd.prog.cellsOf 72 = 1 := by kernel_rfl
  have c2 : Tryd.prog.cellsOf 70 = 1 := by kernel_rfl
  have c3 : Tryd.prog.cellsOf 73 = 8 := by kernel_rfl
  intro i f hf
  have key : ∀ {b : UInt8} {r : List UInt8} {j : Nat} {f0 : FuncId}, j < 8 → _ → _ → W.cell? ⟨1, j, none⟩ = some (.func (.func f0) #[] #[]) := fun {b} {r} {j} {f0} hj hdi hone => func_cell (b := b) (r := r) hF gN gT Tryd.underlying73 Tryd.underlying72 Tryd.underlying70 c1 c2 rfl c3 rfl hj hdi hone
  match i, hf with
  | 0, hf => obtain rfl := Option.some.inj hf; exact key (b := 102) (r := [105, 103, 117, 114, 101, 104, 101, 97, 100, 47, 109, 111, 100, 101, 46, 119, 97, 121, 115, 36, 49]) (by decide) rfl (by kernel_rfl)
  | 1, hf => obtain rfl := Option.some.inj hf; exact key (b := 102) (r := [105, 103, 117, 114, 101, 104, 101, 97, 100, 47, 109, 111, 100, 101, 46, 119, 97, 121, 115, 36, 50]) (by decide) rfl (by kernel_rfl)
  | 2, hf => obtain rfl := Option.some.inj hf; exact key (b := 102) (r := [105, 103, 117, 114, 101, 104, 101, 97, 100, 47, 109, 111, 100, 101, 46, 119, 97, 121, 115, 36, 51]) (by decide) rfl (by kernel_rfl)
  | 3, hf => obtain rfl := Option.some.inj hf; exact key (b := 102) (r := [105, 103, 117, 114, 101, 104, 101, 97, 100, 47, 109, 111, 100, 101, 46, 119, 97, 121, 115, 36, 52]) (by decide) rfl (by kernel_rfl)
  | 4, hf => obtain rfl := Option.some.inj hf; exact key (b := 102) (r := [105, 103, 117, 114, 101, 104, 101, 97, 100, 47, 109, 111, 100, 101, 46, 119, 97, 121, 115, 36, 53]) (by decide) rfl (by kernel_rfl)
  | 5, hf => obtain rfl := Option.some.inj hf; exact key (b := 102) (r := [105, 103, 117, 114, 101, 104, 101, 97, 100, 47, 109, 111, 100, 101, 46, 119, 97, 121, 115, 36, 54]) (by decide) rfl (by kernel_rfl)
  | 6, hf => obtain rfl := Option.some.inj hf; exact key (b := 102) (r := [105, 103, 117, 114, 101, 104, 101, 97, 100, 47, 109, 111, 100, 101, 46, 119, 97, 121, 115, 36, 55]) (by decide) rfl (by kernel_rfl)
  | 7, hf => obtain rfl := Option.some.inj hf; exact key (b := 102) (r := [105, 103, 117, 114, 101, 104, 101, 97, 100, 47, 109, 111, 100, 101, 46, 119, 97, 121, 115, 36, 56]) (by decide) rfl (by kernel_rfl)
  | k + 8, hf => simp at hf
theorem pows_of {W : World} (h : laidMetH Tryd.prog laidL W) : ∀ i, i < 9 → W.cell? ⟨0, i, none⟩ = some (.int .u32 (([1, 10, 100, 1000, 10000, 100000, 1000000, 10000000, 100000000] : List Int).getD i 0)) := by
  have gN : Tryd.prog.globalNamed "figurehead/ten.powers" = some 0 := by kernel_rfl
  have gT : (Tryd.prog.globals[0]?).map (·.type) = some 69 := by kernel_rfl
  have hT := Lib.tabIs_of_head (k := .u32) (zs := [1, 10, 100, 1000, 10000, 100000, 1000000, 10000000, 100000000]) gN gT Tryd.underlying69 Tryd.underlying50 (by kernel_rfl) (by kernel_rfl) (laidMet.tail (plain_of h))
  exact fun i hi => hT.cell gN i hi
theorem of_laid {W : World} (h : laidMetH Tryd.prog laidL W) : Glob W := ⟨ways_of h, pows_of h⟩
end Fig
end
section
namespace Fig
open Go Go.ChangeShapes Go.WideShapes Go.RowKit Go.Deep Go.WideElems Go.Joins
theorem open_dec {H : Type} {enc : TypeId × Value → H} {P : Program} {w : World} {base : Nat} {spare : Nat → Bool} {held : Bool} {r : Reach} {b0 : Nat} {t : TypeId} {f0 f1 f2 : Field} {v : Value} {d : DataW H} {p : List MemPlace} {k : IntKind} (hs : P.underlying t = some (.struct #[f0, f1, f2])) (hone : oneCellFields P #[f0, f1, f2] = true) (hC : P.cellsOf t = 3)
    (u0 : P.underlying f0.type = some .bool) (u1 : P.underlying f1.type = some .string) (u2 : P.underlying f2.type = some (.int k)) (hv : Value.okWide P w r b0 t v) (h : DataW.Trod enc P w base spare held t v d p) :
    ∃ (x : Bool) (s : ByteArray) (n : Int), v = .agg #[.bool x, .string s, .int k n] ∧ d = .agg [.lit (.bool x), .lit (.string s.data.toList), .lit (.int k n)] ∧ p = [] ∧ s.size ≤ maxLen ∧ (Lit.int k n).wf = true := by
  obtain ⟨v0, v1, v2, y0, y1, y2, n, rfl, rfl, rfl, h0, h1, h2⟩ := open_agg3 hs hone hC hv h
  obtain ⟨x, e0, rfl⟩ := DataW.trod_bool u0 h0
  obtain ⟨s, e1, rfl, hl⟩ := DataW.trod_string u1 h1
  obtain ⟨m, e2, rfl, hw⟩ := DataW.trod_int u2 h2
  simp only [List.cons.injEq, and_true] at e0 e1 e2
  subst e0 e1 e2
  exact ⟨x, s, m, rfl, rfl, rfl, hl, hw⟩
theorem shut_dec {H : Type} {enc : TypeId × Value → H} {P : Program} {w : World} {base : Nat} {spare : Nat → Bool} {held : Bool} {t : TypeId} {f0 f1 f2 : Field} {k : IntKind} {x : Bool} {s : ByteArray} {n : Int} (hs : P.underlying t = some (.struct #[f0, f1, f2])) (hone : oneCellFields P #[f0, f1, f2] = true) (hC : P.cellsOf t = 3)
    (u0 : P.underlying f0.type = some .bool) (u1 : P.underlying f1.type = some .string) (u2 : P.underlying f2.type = some (.int k)) (hl : s.size ≤ maxLen) (hw : (Lit.int k n).wf = true) :
    DataW.Trod enc P w base spare held t (.agg #[.bool x, .string s, .int k n]) (.agg [.lit (.bool x), .lit (.string s.data.toList), .lit (.int k n)]) [] :=
  shut_agg3 (y0 := (.lit (.bool x), [])) (y1 := (.lit (.string s.data.toList), [])) (y2 := (.lit (.int k n), [])) hs hone hC ⟨1, by simp [DataW.trod, u0]⟩ ⟨1, by simp [DataW.trod, u1, hl]⟩ ⟨1, by simp [DataW.trod, u2, hw]⟩
theorem sized_dec {H : Type} {P : Program} {ts : List TypeId} {ds : List (DataW H)} (h : (DataW.weightsEach P ts ds).all (· ≤ reachBytes) = true) {j : Nat} {t : TypeId} {f0 f1 f2 : Field} {x y : DataW H} {bytes : List UInt8} (ht : ts[j]? = some t) (hd : ds[j]? = some (.agg [x, .lit (.string bytes), y])) (hs : P.underlying t = some (.struct #[f0, f1, f2])) : bytes.length ≤ reachBytes := by
  have := List.all_eq_true.1 h _ (DataW.weights_mem_each ht hd bytes.length (by simp [DataW.weights, DataW.weightsEach, hs]))
  simpa using this
end Fig
end
