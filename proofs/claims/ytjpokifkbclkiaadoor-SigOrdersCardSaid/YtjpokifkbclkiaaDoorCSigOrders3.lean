/- The functions that the law SigOrders reaches, told as plain functions, with what is proved of them, and the words they need (part 3). -/
import Derived.Test.YtjpokifkbclkiaaDoorCSigOrders0
import Derived.Test.YtjpokifkbclkiaaDoorCSigOrders1
import Derived.Test.YtjpokifkbclkiaaDoorCSigOrders2
set_option linter.unusedVariables false
set_option linter.unusedSimpArgs false
section
namespace Go.Proofs.YtjpokifkbclkiaaDoor.Px
open Fig Go.RowKit Go.Proofs.YtjpokifkbclkiaaDoorW.PrintWords Go.Proofs.YtjpokifkbclkiaaDoorW.PrintLast Go.Proofs.YtjpokifkbclkiaaDoorW.PrintMore
attribute [local go_sem] max2_int min2_int max_two min_two max_three min_three max_four min_four   -- for this text's walks alone
attribute [local go_sem] fieldA23_0 fieldA23_1 fieldA23_2
def place_Round.j0 : Nat → Int → List Int → Bool → Bool → ByteArray → Int → Option (Bool × ByteArray × Int × Int)
  | 0, _, _, _, _, _, _ => none
  | k + 1, x2, x8, x56, x158000, x158001, x158002 => if x56 = true then ((nat_Add.f x8 (([1] : List Int))).bind fun t186 => ((ten_Digits.f t186).bind fun t189 => ((dec_Norm.f x158000 t189 x2).bind fun bt190 => (some (bt190.1, bt190.2.1, bt190.2.2, 0))))) else ((ten_Digits.f x8).bind fun t193 => ((dec_Norm.f x158000 t193 x2).bind fun bt194 => (some (bt194.1, bt194.2.1, bt194.2.2, 0))))
def place_Round.f (k : Nat) (a0 : Int) (a1_0 : Bool) (a1_1 : ByteArray) (a1_2 : Int) (a2 : Int) : Option (Bool × ByteArray × Int × Int) := (mode_Good.f a0).bind fun t159 => (if t159 = true then ((place_Fits.f a1_0 a1_1 a1_2 a2).bind fun t160 => (if t160 = true then ((dec_Norm.f a1_0 a1_1 a1_2).bind fun bt161 => (some (bt161.1, bt161.2.1, bt161.2.2, 0))) else (if a0 = 7 then (some (false, (⟨#[]⟩ : ByteArray), 0, 11)) else ((place_cut.f a1_0 a1_1 a1_2 a2).bind fun bt164 => ((nat_Add.f bt164.2 bt164.2).bind fun t170 => ((ten_Shift.f (([1] : List Int)) (wrap64 (a2 - a1_2))).bind fun t176 => ((nat_Cmp.f t170 t176).bind fun t179 => (if (bt164.1.length : Int) > 0 then (if 0 < (bt164.1.length : Int) then ((mode_Away.f a0 a1_0 ((Int.tmod (rd bt164.1 0) 2) == 1) t179).bind fun t181 => (place_Round.j0 k a2 bt164.1 t181 a1_0 a1_1 a1_2)) else (none)) else ((mode_Away.f a0 a1_0 false t179).bind fun t182 => (place_Round.j0 k a2 bt164.1 t182 a1_0 a1_1 a1_2)))))))))) else (some (false, (⟨#[]⟩ : ByteArray), 0, 1)))
theorem place_Round.mono_l : ∀ k, (∀ y0 y1 y2 y3 y4 y5, LeO (place_Round.j0 k y0 y1 y2 y3 y4 y5) (place_Round.j0 (k + 1) y0 y1 y2 y3 y4 y5))
  | 0 => fun _ _ _ _ _ _ r h => by simp [place_Round.j0] at h
  | k + 1 => by
    have ih0 := place_Round.mono_l k
    · intro y0 y1 y2 y3 y4 y5
      unfold place_Round.j0
      repeat' first
      | (with_reducible exact ih0 _ _ _ _ _ _)
      | (with_reducible exact LeO.refl _)
      | (with_reducible exact LeO.none _)
      | (with_reducible refine LeO.ite ?_ ?_)
      | (with_reducible refine LeO.bind ?_ (fun _ => ?_))
      | exact ih0 _ _ _ _ _ _
      | exact LeO.none _
      | refine LeO.ite ?_ ?_
      | refine LeO.bind ?_ (fun _ => ?_)
theorem place_Round.mono : ∀ a0 a1 a2 a3 a4 k, LeO (place_Round.f k a0 a1 a2 a3 a4) (place_Round.f (k + 1) a0 a1 a2 a3 a4) := by
  intro a0 a1 a2 a3 a4 k
  have ih0 := place_Round.mono_l k
  unfold place_Round.f
  repeat' first
      | (with_reducible exact ih0 _ _ _ _ _ _)
      | (with_reducible exact LeO.refl _)
      | (with_reducible exact LeO.none _)
      | (with_reducible refine LeO.ite ?_ ?_)
      | (with_reducible refine LeO.bind ?_ (fun _ => ?_))
      | exact ih0 _ _ _ _ _ _
      | exact LeO.none _
      | refine LeO.ite ?_ ?_
      | refine LeO.bind ?_ (fun _ => ?_)
def place_Round.T8 : Bool × List (List Nat × List Nat) := (true, [([], []), ([], []), ([0, 1], [0, 1]), ([], []), ([], []), ([], []), ([5], [5]), ([4, 6], [4, 6]), ([3, 7, 2], [3, 7]), ([2, 8, 8], [2, 8]), ([9, 9, 0, 1, 2, 3, 4, 5, 6, 7, 8, 9], [9])])
def place_Round.B8 : List Nat := [0, 0, 3, 0, 0, 0, 32, 112, 255, 511, 1023]
theorem place_Round.tab8 : rtab .any (opsOf Tryd.f16 8) = place_Round.T8 := by kernel_rfl
theorem place_Round.bits8 : waitsOk place_Round.T8.2 place_Round.B8 = true := by kernel_rfl
def place_Round.T9 : Bool × List (List Nat × List Nat) := (true, [([], []), ([], []), ([1], [1]), ([], []), ([3], [3]), ([4], [4]), ([5], [5]), ([6], [6]), ([7, 6], [6, 7]), ([8, 6], [6, 8]), ([9, 6], [6, 9]), ([10, 6], [6, 10]), ([6, 11], [6, 11]), ([], []), ([0, 2, 12, 13, 6], [0, 2, 12, 13])])
def place_Round.B9 : List Nat := [0, 0, 2, 0, 8, 24, 56, 120, 248, 504, 1016, 2040, 4088, 0, 16383]
theorem place_Round.tab9 : rtab .any (opsOf Tryd.f16 9) = place_Round.T9 := by kernel_rfl
theorem place_Round.bits9 : waitsOk place_Round.T9.2 place_Round.B9 = true := by kernel_rfl
def place_Round.T11 : Bool × List (List Nat × List Nat) := (true, [([], []), ([0], [0]), ([], []), ([2], [2]), ([], []), ([1, 3, 4], [1, 3, 4]), ([5, 3], [5]), ([6, 6, 0, 1, 2, 3, 4, 5, 6], [6]), ([7, 0, 1, 2, 3, 4, 5, 6, 7], [])])
def place_Round.B11 : List Nat := [0, 1, 0, 4, 0, 31, 63, 127, 255]
theorem place_Round.tab11 : rtab .any (opsOf Tryd.f16 11) = place_Round.T11 := by kernel_rfl
theorem place_Round.bits11 : waitsOk place_Round.T11.2 place_Round.B11 = true := by kernel_rfl
set_option maxHeartbeats 8000000 in
set_option maxRecDepth 100000 in
theorem place_Round.calls (k : Nat) (a0 : Int) (a1_0 : Bool) (a1_1 : ByteArray) (a1_2 : Int) (a2 : Int) (r1 : Bool) (r2 : ByteArray) (r3 : Int) (r4 : Int) (w : World) (hG : Fig.Glob w) (h : place_Round.f k a0 a1_0 a1_1 a1_2 a2 = some (r1, r2, r3, r4)) :
    Calls Tryd.prog 16 #[.int .i64 a0, .agg #[.bool a1_0, .string a1_1, .int .i64 a1_2], .int .i64 a2] w fun e w' => e = .returned (.tuple #[.agg #[.bool r1, .string r2, .int .i64 r3], .int .i64 r4]) ∧ Below w.heap.size w w' := by
  have hu23 := Tryd.underlying23
  have HG := Aside0.mk hG
  clear hG
  have HB := Aside0.mk (Below.refl w.heap.size w)
  have H : ((mode_Good.f a0).bind fun t159 => (if t159 = true then ((place_Fits.f a1_0 a1_1 a1_2 a2).bind fun t160 => (if t160 = true then ((dec_Norm.f a1_0 a1_1 a1_2).bind fun bt161 => (some (bt161.1, bt161.2.1, bt161.2.2, 0))) else (if a0 = 7 then (some (false, (⟨#[]⟩ : ByteArray), 0, 11)) else ((place_cut.f a1_0 a1_1 a1_2 a2).bind fun bt164 => ((nat_Add.f bt164.2 bt164.2).bind fun t170 => ((ten_Shift.f (([1] : List Int)) (wrap64 (a2 - a1_2))).bind fun t176 => ((nat_Cmp.f t170 t176).bind fun t179 => (if (bt164.1.length : Int) > 0 then (if 0 < (bt164.1.length : Int) then ((mode_Away.f a0 a1_0 ((Int.tmod (rd bt164.1 0) 2) == 1) t179).bind fun t181 => (place_Round.j0 k a2 bt164.1 t181 a1_0 a1_1 a1_2)) else (none)) else ((mode_Away.f a0 a1_0 false t179).bind fun t182 => (place_Round.j0 k a2 bt164.1 t182 a1_0 a1_1 a1_2)))))))))) else (some (false, (⟨#[]⟩ : ByteArray), 0, 1)))) = some (r1, r2, r3, r4) := h
  clear h
  replace H := Option.bind_eq_some_iff.mp H
  obtain ⟨t159, A40, H⟩ := H
  replace H : (if t159 = true then ((place_Fits.f a1_0 a1_1 a1_2 a2).bind fun t160 => (if t160 = true then ((dec_Norm.f a1_0 a1_1 a1_2).bind fun bt161 => (some (bt161.1, bt161.2.1, bt161.2.2, 0))) else (if a0 = 7 then (some (false, (⟨#[]⟩ : ByteArray), 0, 11)) else ((place_cut.f a1_0 a1_1 a1_2 a2).bind fun bt164 => ((nat_Add.f bt164.2 bt164.2).bind fun t170 => ((ten_Shift.f (([1] : List Int)) (wrap64 (a2 - a1_2))).bind fun t176 => ((nat_Cmp.f t170 t176).bind fun t179 => (if (bt164.1.length : Int) > 0 then (if 0 < (bt164.1.length : Int) then ((mode_Away.f a0 a1_0 ((Int.tmod (rd bt164.1 0) 2) == 1) t179).bind fun t181 => (place_Round.j0 k a2 bt164.1 t181 a1_0 a1_1 a1_2)) else (none)) else ((mode_Away.f a0 a1_0 false t179).bind fun t182 => (place_Round.j0 k a2 bt164.1 t182 a1_0 a1_1 a1_2)))))))))) else (some (false, (⟨#[]⟩ : ByteArray), 0, 1))) = some (r1, r2, r3, r4) := H
  have A4 := Aside0.mk A40
  clear A40
  by_cases c5 : t159 = true
  · subst c5
    have H1 : ((place_Fits.f a1_0 a1_1 a1_2 a2).bind fun t160 => (if t160 = true then ((dec_Norm.f a1_0 a1_1 a1_2).bind fun bt161 => (some (bt161.1, bt161.2.1, bt161.2.2, 0))) else (if a0 = 7 then (some (false, (⟨#[]⟩ : ByteArray), 0, 11)) else ((place_cut.f a1_0 a1_1 a1_2 a2).bind fun bt164 => ((nat_Add.f bt164.2 bt164.2).bind fun t170 => ((ten_Shift.f (([1] : List Int)) (wrap64 (a2 - a1_2))).bind fun t176 => ((nat_Cmp.f t170 t176).bind fun t179 => (if (bt164.1.length : Int) > 0 then (if 0 < (bt164.1.length : Int) then ((mode_Away.f a0 a1_0 ((Int.tmod (rd bt164.1 0) 2) == 1) t179).bind fun t181 => (place_Round.j0 k a2 bt164.1 t181 a1_0 a1_1 a1_2)) else (none)) else ((mode_Away.f a0 a1_0 false t179).bind fun t182 => (place_Round.j0 k a2 bt164.1 t182 a1_0 a1_1 a1_2)))))))))) = some (r1, r2, r3, r4) := by rw [if_pos rfl] at H; exact H
    clear H
    have H := H1
    clear H1
    replace H := Option.bind_eq_some_iff.mp H
    obtain ⟨t160, A60, H⟩ := H
    replace H : (if t160 = true then ((dec_Norm.f a1_0 a1_1 a1_2).bind fun bt161 => (some (bt161.1, bt161.2.1, bt161.2.2, 0))) else (if a0 = 7 then (some (false, (⟨#[]⟩ : ByteArray), 0, 11)) else ((place_cut.f a1_0 a1_1 a1_2 a2).bind fun bt164 => ((nat_Add.f bt164.2 bt164.2).bind fun t170 => ((ten_Shift.f (([1] : List Int)) (wrap64 (a2 - a1_2))).bind fun t176 => ((nat_Cmp.f t170 t176).bind fun t179 => (if (bt164.1.length : Int) > 0 then (if 0 < (bt164.1.length : Int) then ((mode_Away.f a0 a1_0 ((Int.tmod (rd bt164.1 0) 2) == 1) t179).bind fun t181 => (place_Round.j0 k a2 bt164.1 t181 a1_0 a1_1 a1_2)) else (none)) else ((mode_Away.f a0 a1_0 false t179).bind fun t182 => (place_Round.j0 k a2 bt164.1 t182 a1_0 a1_1 a1_2))))))))) = some (r1, r2, r3, r4) := H
    have A6 := Aside0.mk A60
    clear A60
    by_cases c7 : t160 = true
    · subst c7
      have H1 : ((dec_Norm.f a1_0 a1_1 a1_2).bind fun bt161 => (some (bt161.1, bt161.2.1, bt161.2.2, 0))) = some (r1, r2, r3, r4) := by rw [if_pos rfl] at H; exact H
      clear H
      have H := H1
      clear H1
      replace H := Option.bind_eq_some_iff.mp H
      obtain ⟨⟨t161, t162, t163⟩, A80, H⟩ := H
      replace H : (some (t161, t162, t163, 0)) = some (r1, r2, r3, r4) := H
      have A8 := Aside0.mk A80
      clear A80
      simp only [Option.some.injEq, Prod.mk.injEq] at H
      obtain ⟨rfl, rfl, rfl, rfl⟩ := H
      go_enter Tryd.func16, Tryd.ntmps16
      go_wp2_with (first | ((with_reducible refine gate_dst (N := 4) rfl ?_); refine box_event ?hg (N := 4) ?hd (cs := #[.bool a1_0, .string a1_1, .int .i64 a1_2]) (t := 23) ?hr ?_; (case hd => rfl); (case hg => rfl); (case hr => first | (go_simp; done) | (go_simp; rfl)); intro gb157 hg w9 hbox hb; have n0_ := Aside0.mk (below_step (by repeat (first | (with_reducible first | exact HB.out | apply below_alloc | apply pw_below_drewN | apply below_drew1) | exact HB.out)) hb); have n1_ := Aside0.mk (hbox); have n2_ := Aside0.mk ((by rw [hg]; exact (below_size (by repeat (first | (with_reducible first | exact HB.out | apply below_alloc | apply pw_below_drewN | apply below_drew1) | exact HB.out))) : w.heap.size ≤ gb157)); have n3_ := Aside0.mk ((by rw [hg]; exact (below_size (by repeat (first | (with_reducible first | exact HB.out | apply below_alloc | apply pw_below_drewN | apply below_drew1) | exact HB.out))) : w.heap.size ≤ gb157)); clear HB; have HB := n0_; have BK157 := n1_; have GW157 := n2_; have GE157 := n3_; clear n0_ n1_ n2_ n3_; clear hb hbox hg) | ((with_reducible refine gate_dst (N := 6) rfl ?_); refine box_event ?hg (N := 6) ?hd (cs := #[.bool false, .string (⟨#[]⟩ : ByteArray), .int .i64 0]) (t := 23) ?hr ?_; (case hd => rfl); (case hg => rfl); (case hr => first | (go_simp; done) | (go_simp; rfl)); intro gb158 hg w10 hbox hb; have n0_ := Aside0.mk (blk_below (g := gb157) (o := .cells #[.bool a1_0, .string a1_1, .int .i64 a1_2] 23 (0, 0)) (by (with_reducible repeat (first | refine blk_drewN ?_ _ | refine blk_drew ?_ | refine blk_alloc ?_ _)); exact BK157.out) hb); have n1_ := Aside0.mk (below_step (by repeat (first | (with_reducible first | exact HB.out | apply below_alloc | apply pw_below_drewN | apply below_drew1 | refine below_set ?_ GE157.out) | exact HB.out)) hb); have n2_ := Aside0.mk (hbox); have n3_ := Aside0.mk ((by rw [hg]; exact (below_size (by repeat (first | (with_reducible first | exact HB.out | apply below_alloc | apply pw_below_drewN | apply below_drew1 | refine below_set ?_ GE157.out) | exact HB.out))) : w.heap.size ≤ gb158)); have n4_ := Aside0.mk ((by rw [hg]; exact (below_size (by repeat (first | (with_reducible first | exact HB.out | apply below_alloc | apply pw_below_drewN | apply below_drew1 | refine below_set ?_ GE157.out) | exact HB.out))) : w.heap.size ≤ gb158)); have n5_ := Aside0.mk ((by rw [hg]; exact Nat.ne_of_lt (blk_lt (g := gb157) (o := .cells #[.bool a1_0, .string a1_1, .int .i64 a1_2] 23 (0, 0)) (by (with_reducible repeat (first | refine blk_drewN ?_ _ | refine blk_drew ?_ | refine blk_alloc ?_ _)); exact BK157.out)) : gb157 ≠ gb158)); have n6_ := Aside0.mk ((by rw [hg]; exact Nat.ne_of_gt (blk_lt (g := gb157) (o := .cells #[.bool a1_0, .string a1_1, .int .i64 a1_2] 23 (0, 0)) (by (with_reducible repeat (first | refine blk_drewN ?_ _ | refine blk_drew ?_ | refine blk_alloc ?_ _)); exact BK157.out)) : gb158 ≠ gb157)); clear BK157; clear HB; have BK157 := n0_; have HB := n1_; have BK158 := n2_; have GW158 := n3_; have GE158 := n4_; have NB157_158 := n5_; have NB158_157 := n6_; clear n0_ n1_ n2_ n3_ n4_ n5_ n6_; clear hb hbox hg) | ((with_reducible refine gate_callee (f := 30) rfl ?_); refine goesL_ (some 13) rfl rfl Tryd.func30 (by kernel_rfl) rfl #[.int .i64 a0] rfl (by (try simp only [List.map_toArray]); (try simp only [List.map_cons]); (try simp only [List.map_nil]); first | done | rfl | (simp only [List.length_drop, List.length_take]; rfl)) ?_; (with_reducible refine (mode_Good.calls a0 true _ A4.out).mono ?_); rintro e w' ⟨rfl, ⟨nd, rfl⟩⟩; refine ⟨_, rfl, ?_⟩; (try (rw [drewN_self w10]; generalize hq_ : World.drewN w10 _ = w10; have n0_ : Aside0 (w10.heap[gb157]? = some (.cells #[.bool a1_0, .string a1_1, .int .i64 a1_2] 23 (0, 0))) := ⟨by rw [← hq_]; exact (by (with_reducible repeat (first | refine blk_drewN ?_ _ | refine blk_drew ?_ | refine blk_alloc ?_ _)); exact BK157.out)⟩; have n1_ : Aside0 (w10.heap[gb158]? = some (.cells #[.bool false, .string (⟨#[]⟩ : ByteArray), .int .i64 0] 23 (0, 0))) := ⟨by rw [← hq_]; exact (by (with_reducible repeat (first | refine blk_drewN ?_ _ | refine blk_drew ?_ | refine blk_alloc ?_ _)); exact BK158.out)⟩; have n2_ : Aside0 (Below w.heap.size w w10) := ⟨by rw [← hq_]; exact (by repeat (first | (with_reducible first | exact HB.out | apply below_alloc | apply pw_below_drewN | apply below_drew1 | refine below_set ?_ GE157.out | refine below_set ?_ GE158.out) | exact HB.out))⟩; clear BK157 BK158 HB hq_; have BK157 := n0_; have BK158 := n1_; have HB := n2_; clear n0_ n1_ n2_)); (try (have hcz9005_0 : w10.cell? ⟨gb157, 0, none⟩ = some (.bool a1_0) := (blk_cell BK157.out 0).trans rfl)); (try (have hcz9005_1 : w10.cell? ⟨gb157, 1, none⟩ = some (.string a1_1) := (blk_cell BK157.out 1).trans rfl)); (try (have hcz9005_2 : w10.cell? ⟨gb157, 2, none⟩ = some (.int .i64 a1_2) := (blk_cell BK157.out 2).trans rfl)); (try (have hfz9005_0 := blk_frozen BK157.out 0)); (try (have hfz9005_1 := blk_frozen BK157.out 1)); (try (have hfz9005_2 := blk_frozen BK157.out 2)); (try (have hcz9006_0 : w10.cell? ⟨gb158, 0, none⟩ = some (.bool false) := (blk_cell BK158.out 0).trans rfl)); (try (have hcz9006_1 : w10.cell? ⟨gb158, 1, none⟩ = some (.string (⟨#[]⟩ : ByteArray)) := (blk_cell BK158.out 1).trans rfl)); (try (have hcz9006_2 : w10.cell? ⟨gb158, 2, none⟩ = some (.int .i64 0) := (blk_cell BK158.out 2).trans rfl)); (try (have hfz9006_0 := blk_frozen BK158.out 0)); (try (have hfz9006_1 := blk_frozen BK158.out 1)); (try (have hfz9006_2 := blk_frozen BK158.out 2)); have hnb11 := NB157_158.out; have hnc11 := NB158_157.out; have hcz12_0 : w10.cell? ⟨gb157, 0, none⟩ = some (.bool a1_0) := (blk_cell BK157.out 0).trans rfl; have hcz12_1 : w10.cell? ⟨gb157, 1, none⟩ = some (.string a1_1) := (blk_cell BK157.out 1).trans rfl; have hcz12_2 : w10.cell? ⟨gb157, 2, none⟩ = some (.int .i64 a1_2) := (blk_cell BK157.out 2).trans rfl; have hfz12_0 := blk_frozen BK157.out 0; have hfz12_1 := blk_frozen BK157.out 1; have hfz12_2 := blk_frozen BK157.out 2) | ((with_reducible refine gate_callee (f := 18) rfl ?_); refine goesL_ (some 19) rfl rfl Tryd.func18 (by kernel_rfl) rfl #[.agg #[.bool a1_0, .string a1_1, .int .i64 a1_2], .int .i64 a2] rfl (by (try simp only [List.map_toArray]); (try simp only [List.map_cons]); (try simp only [List.map_nil]); first | done | rfl | (simp only [List.length_drop, List.length_take]; rfl)) ?_; (with_reducible refine (place_Fits.calls a1_0 a1_1 a1_2 a2 true _ ?side1 A6.out).mono ?_); (case side1 => exact Fig.Glob.below HG.out (by repeat (first | (with_reducible first | exact HB.out | apply below_alloc | apply pw_below_drewN | apply below_drew1 | refine below_set ?_ GE157.out | refine below_set ?_ GE158.out) | exact HB.out))); rintro e w13 ⟨rfl, hb⟩; refine ⟨_, rfl, ?_⟩; have n0_ := Aside0.mk (blk_below (g := gb157) (o := .cells #[.bool a1_0, .string a1_1, .int .i64 a1_2] 23 (0, 0)) (by (with_reducible repeat (first | refine blk_drewN ?_ _ | refine blk_drew ?_ | refine blk_alloc ?_ _)); exact BK157.out) hb); have n1_ := Aside0.mk (blk_below (g := gb158) (o := .cells #[.bool false, .string (⟨#[]⟩ : ByteArray), .int .i64 0] 23 (0, 0)) (by (with_reducible repeat (first | refine blk_drewN ?_ _ | refine blk_drew ?_ | refine blk_alloc ?_ _)); exact BK158.out) hb); have n2_ := Aside0.mk (below_step (by repeat (first | (with_reducible first | exact HB.out | apply below_alloc | apply pw_below_drewN | apply below_drew1 | refine below_set ?_ GE157.out | refine below_set ?_ GE158.out) | exact HB.out)) hb); clear BK157; clear BK158; clear HB; have BK157 := n0_; have BK158 := n1_; have HB := n2_; clear n0_ n1_ n2_; (try clear hb); (try clear hb2); (try clear hk); (try clear hi); have hcz14_0 : w13.cell? ⟨gb157, 0, none⟩ = some (.bool a1_0) := (blk_cell BK157.out 0).trans rfl; have hcz14_1 : w13.cell? ⟨gb157, 1, none⟩ = some (.string a1_1) := (blk_cell BK157.out 1).trans rfl; have hcz14_2 : w13.cell? ⟨gb157, 2, none⟩ = some (.int .i64 a1_2) := (blk_cell BK157.out 2).trans rfl; have hfz14_0 := blk_frozen BK157.out 0; have hfz14_1 := blk_frozen BK157.out 1; have hfz14_2 := blk_frozen BK157.out 2) | ((with_reducible refine gate_callee (f := 31) rfl ?_); refine goesL_ (some 21) rfl rfl Tryd.func31 (by kernel_rfl) rfl #[.agg #[.bool a1_0, .string a1_1, .int .i64 a1_2]] rfl (by (try simp only [List.map_toArray]); (try simp only [List.map_cons]); (try simp only [List.map_nil]); first | done | rfl | (simp only [List.length_drop, List.length_take]; rfl)) ?_; (with_reducible refine (dec_Norm.calls a1_0 a1_1 a1_2 t161 t162 t163 _ A8.out).mono ?_); rintro e w15 ⟨rfl, hb⟩; refine ⟨_, rfl, ?_⟩; have n0_ := Aside0.mk (blk_below (g := gb157) (o := .cells #[.bool a1_0, .string a1_1, .int .i64 a1_2] 23 (0, 0)) (by (with_reducible repeat (first | refine blk_drewN ?_ _ | refine blk_drew ?_ | refine blk_alloc ?_ _)); exact BK157.out) hb); have n1_ := Aside0.mk (blk_below (g := gb158) (o := .cells #[.bool false, .string (⟨#[]⟩ : ByteArray), .int .i64 0] 23 (0, 0)) (by (with_reducible repeat (first | refine blk_drewN ?_ _ | refine blk_drew ?_ | refine blk_alloc ?_ _)); exact BK158.out) hb); have n2_ := Aside0.mk (below_step (by repeat (first | (with_reducible first | exact HB.out | apply below_alloc | apply pw_below_drewN | apply below_drew1 | refine below_set ?_ GE157.out | refine below_set ?_ GE158.out) | exact HB.out)) hb); clear BK157; clear BK158; clear HB; have BK157 := n0_; have BK158 := n1_; have HB := n2_; clear n0_ n1_ n2_; (try clear hb); (try clear hb2); (try clear hk); (try clear hi); have hcz16_0 : w15.cell? ⟨gb158, 0, none⟩ = some (.bool false) := (blk_cell BK158.out 0).trans rfl; have hcz16_1 : w15.cell? ⟨gb158, 1, none⟩ = some (.string (⟨#[]⟩ : ByteArray)) := (blk_cell BK158.out 1).trans rfl; have hcz16_2 : w15.cell? ⟨gb158, 2, none⟩ = some (.int .i64 0) := (blk_cell BK158.out 2).trans rfl; have hfz16_0 := blk_frozen BK158.out 0; have hfz16_1 := blk_frozen BK158.out 1; have hfz16_2 := blk_frozen BK158.out 2))
      refine bodyPost_ret (results_ct rfl _ _ gb158 23 #[.bool t161, .string t162, .int .i64 t163] (0, 0) _ rfl (by (with_reducible repeat (first | refine blk_drewN ?_ _ | refine blk_drew ?_ | refine blk_alloc ?_ _)); refine blk_put (cs := #[.bool t161, .string t162, .int .i64 0]) ?_ 2 _ rfl; (with_reducible repeat (first | refine blk_drewN ?_ _ | refine blk_drew ?_ | refine blk_alloc ?_ _)); refine blk_put (cs := #[.bool t161, .string (⟨#[]⟩ : ByteArray), .int .i64 0]) ?_ 1 _ rfl; (with_reducible repeat (first | refine blk_drewN ?_ _ | refine blk_drew ?_ | refine blk_alloc ?_ _)); refine blk_put (cs := #[.bool false, .string (⟨#[]⟩ : ByteArray), .int .i64 0]) ?_ 0 _ rfl; (with_reducible repeat (first | refine blk_drewN ?_ _ | refine blk_drew ?_ | refine blk_alloc ?_ _)); exact BK158.out) Tryd.underlying23 rfl (by kernel_rfl)) rfl ?_
      exact ⟨by first | rfl | (simp [errW_none, errW_some] <;> rfl) | (simp [*, errW_none, errW_some] <;> rfl), by repeat (first | (with_reducible first | exact HB.out | apply below_alloc | apply pw_below_drewN | apply below_drew1 | refine below_set ?_ GE157.out | refine below_set ?_ GE158.out) | exact HB.out)⟩
    · replace c7 := Bool.eq_false_iff.mpr c7
      subst c7
      have H1 : (if a0 = 7 then (some (false, (⟨#[]⟩ : ByteArray), 0, 11)) else ((place_cut.f a1_0 a1_1 a1_2 a2).bind fun bt164 => ((nat_Add.f bt164.2 bt164.2).bind fun t170 => ((ten_Shift.f (([1] : List Int)) (wrap64 (a2 - a1_2))).bind fun t176 => ((nat_Cmp.f t170 t176).bind fun t179 => (if (bt164.1.length : Int) > 0 then (if 0 < (bt164.1.length : Int) then ((mode_Away.f a0 a1_0 ((Int.tmod (rd bt164.1 0) 2) == 1) t179).bind fun t181 => (place_Round.j0 k a2 bt164.1 t181 a1_0 a1_1 a1_2)) else (none)) else ((mode_Away.f a0 a1_0 false t179).bind fun t182 => (place_Round.j0 k a2 bt164.1 t182 a1_0 a1_1 a1_2)))))))) = some (r1, r2, r3, r4) := by rw [if_neg (show ¬ (false = true) by decide)] at H; exact H
      clear H
      have H := H1
      clear H1
      by_cases c17 : a0 = 7
      · rw [if_pos c17] at H
        have c17b0 : (a0 == 7) = true := beq_iff_eq.mpr c17
        have c17b1 : (a0 != 7) = false := bne_eq_false_iff_eq.mpr c17
        clear c17
        simp only [Option.some.injEq, Prod.mk.injEq] at H
        obtain ⟨rfl, rfl, rfl, rfl⟩ := H
        go_enter Tryd.func16, Tryd.ntmps16
        go_wp2_with (first | ((with_reducible refine gate_dst (N := 4) rfl ?_); refine box_event ?hg (N := 4) ?hd (cs := #[.bool a1_0, .string a1_1, .int .i64 a1_2]) (t := 23) ?hr ?_; (case hd => rfl); (case hg => rfl); (case hr => first | (go_simp; done) | (go_simp; rfl)); intro gb157 hg w18 hbox hb; have n0_ := Aside0.mk (below_step (by repeat (first | (with_reducible first | exact HB.out | apply below_alloc | apply pw_below_drewN | apply below_drew1) | exact HB.out)) hb); have n1_ := Aside0.mk (hbox); have n2_ := Aside0.mk ((by rw [hg]; exact (below_size (by repeat (first | (with_reducible first | exact HB.out | apply below_alloc | apply pw_below_drewN | apply below_drew1) | exact HB.out))) : w.heap.size ≤ gb157)); have n3_ := Aside0.mk ((by rw [hg]; exact (below_size (by repeat (first | (with_reducible first | exact HB.out | apply below_alloc | apply pw_below_drewN | apply below_drew1) | exact HB.out))) : w.heap.size ≤ gb157)); clear HB; have HB := n0_; have BK157 := n1_; have GW157 := n2_; have GE157 := n3_; clear n0_ n1_ n2_ n3_; clear hb hbox hg) | ((with_reducible refine gate_dst (N := 6) rfl ?_); refine box_event ?hg (N := 6) ?hd (cs := #[.bool false, .string (⟨#[]⟩ : ByteArray), .int .i64 0]) (t := 23) ?hr ?_; (case hd => rfl); (case hg => rfl); (case hr => first | (go_simp; done) | (go_simp; rfl)); intro gb158 hg w19 hbox hb; have n0_ := Aside0.mk (blk_below (g := gb157) (o := .cells #[.bool a1_0, .string a1_1, .int .i64 a1_2] 23 (0, 0)) (by (with_reducible repeat (first | refine blk_drewN ?_ _ | refine blk_drew ?_ | refine blk_alloc ?_ _)); exact BK157.out) hb); have n1_ := Aside0.mk (below_step (by repeat (first | (with_reducible first | exact HB.out | apply below_alloc | apply pw_below_drewN | apply below_drew1 | refine below_set ?_ GE157.out) | exact HB.out)) hb); have n2_ := Aside0.mk (hbox); have n3_ := Aside0.mk ((by rw [hg]; exact (below_size (by repeat (first | (with_reducible first | exact HB.out | apply below_alloc | apply pw_below_drewN | apply below_drew1 | refine below_set ?_ GE157.out) | exact HB.out))) : w.heap.size ≤ gb158)); have n4_ := Aside0.mk ((by rw [hg]; exact (below_size (by repeat (first | (with_reducible first | exact HB.out | apply below_alloc | apply pw_below_drewN | apply below_drew1 | refine below_set ?_ GE157.out) | exact HB.out))) : w.heap.size ≤ gb158)); have n5_ := Aside0.mk ((by rw [hg]; exact Nat.ne_of_lt (blk_lt (g := gb157) (o := .cells #[.bool a1_0, .string a1_1, .int .i64 a1_2] 23 (0, 0)) (by (with_reducible repeat (first | refine blk_drewN ?_ _ | refine blk_drew ?_ | refine blk_alloc ?_ _)); exact BK157.out)) : gb157 ≠ gb158)); have n6_ := Aside0.mk ((by rw [hg]; exact Nat.ne_of_gt (blk_lt (g := gb157) (o := .cells #[.bool a1_0, .string a1_1, .int .i64 a1_2] 23 (0, 0)) (by (with_reducible repeat (first | refine blk_drewN ?_ _ | refine blk_drew ?_ | refine blk_alloc ?_ _)); exact BK157.out)) : gb158 ≠ gb157)); clear BK157; clear HB; have BK157 := n0_; have HB := n1_; have BK158 := n2_; have GW158 := n3_; have GE158 := n4_; have NB157_158 := n5_; have NB158_157 := n6_; clear n0_ n1_ n2_ n3_ n4_ n5_ n6_; clear hb hbox hg) | ((with_reducible refine gate_callee (f := 30) rfl ?_); refine goesL_ (some 13) rfl rfl Tryd.func30 (by kernel_rfl) rfl #[.int .i64 a0] rfl (by (try simp only [List.map_toArray]); (try simp only [List.map_cons]); (try simp only [List.map_nil]); first | done | rfl | (simp only [List.length_drop, List.length_take]; rfl)) ?_; (with_reducible refine (mode_Good.calls a0 true _ A4.out).mono ?_); rintro e w' ⟨rfl, ⟨nd, rfl⟩⟩; refine ⟨_, rfl, ?_⟩; (try (rw [drewN_self w19]; generalize hq_ : World.drewN w19 _ = w19; have n0_ : Aside0 (w19.heap[gb157]? = some (.cells #[.bool a1_0, .string a1_1, .int .i64 a1_2] 23 (0, 0))) := ⟨by rw [← hq_]; exact (by (with_reducible repeat (first | refine blk_drewN ?_ _ | refine blk_drew ?_ | refine blk_alloc ?_ _)); exact BK157.out)⟩; have n1_ : Aside0 (w19.heap[gb158]? = some (.cells #[.bool false, .string (⟨#[]⟩ : ByteArray), .int .i64 0] 23 (0, 0))) := ⟨by rw [← hq_]; exact (by (with_reducible repeat (first | refine blk_drewN ?_ _ | refine blk_drew ?_ | refine blk_alloc ?_ _)); exact BK158.out)⟩; have n2_ : Aside0 (Below w.heap.size w w19) := ⟨by rw [← hq_]; exact (by repeat (first | (with_reducible first | exact HB.out | apply below_alloc | apply pw_below_drewN | apply below_drew1 | refine below_set ?_ GE157.out | refine below_set ?_ GE158.out) | exact HB.out))⟩; clear BK157 BK158 HB hq_; have BK157 := n0_; have BK158 := n1_; have HB := n2_; clear n0_ n1_ n2_)); (try (have hcz9007_0 : w19.cell? ⟨gb157, 0, none⟩ = some (.bool a1_0) := (blk_cell BK157.out 0).trans rfl)); (try (have hcz9007_1 : w19.cell? ⟨gb157, 1, none⟩ = some (.string a1_1) := (blk_cell BK157.out 1).trans rfl)); (try (have hcz9007_2 : w19.cell? ⟨gb157, 2, none⟩ = some (.int .i64 a1_2) := (blk_cell BK157.out 2).trans rfl)); (try (have hfz9007_0 := blk_frozen BK157.out 0)); (try (have hfz9007_1 := blk_frozen BK157.out 1)); (try (have hfz9007_2 := blk_frozen BK157.out 2)); (try (have hcz9008_0 : w19.cell? ⟨gb158, 0, none⟩ = some (.bool false) := (blk_cell BK158.out 0).trans rfl)); (try (have hcz9008_1 : w19.cell? ⟨gb158, 1, none⟩ = some (.string (⟨#[]⟩ : ByteArray)) := (blk_cell BK158.out 1).trans rfl)); (try (have hcz9008_2 : w19.cell? ⟨gb158, 2, none⟩ = some (.int .i64 0) := (blk_cell BK158.out 2).trans rfl)); (try (have hfz9008_0 := blk_frozen BK158.out 0)); (try (have hfz9008_1 := blk_frozen BK158.out 1)); (try (have hfz9008_2 := blk_frozen BK158.out 2)); have hnb20 := NB157_158.out; have hnc20 := NB158_157.out; have hcz21_0 : w19.cell? ⟨gb157, 0, none⟩ = some (.bool a1_0) := (blk_cell BK157.out 0).trans rfl; have hcz21_1 : w19.cell? ⟨gb157, 1, none⟩ = some (.string a1_1) := (blk_cell BK157.out 1).trans rfl; have hcz21_2 : w19.cell? ⟨gb157, 2, none⟩ = some (.int .i64 a1_2) := (blk_cell BK157.out 2).trans rfl; have hfz21_0 := blk_frozen BK157.out 0; have hfz21_1 := blk_frozen BK157.out 1; have hfz21_2 := blk_frozen BK157.out 2) | ((with_reducible refine gate_callee (f := 18) rfl ?_); refine goesL_ (some 19) rfl rfl Tryd.func18 (by kernel_rfl) rfl #[.agg #[.bool a1_0, .string a1_1, .int .i64 a1_2], .int .i64 a2] rfl (by (try simp only [List.map_toArray]); (try simp only [List.map_cons]); (try simp only [List.map_nil]); first | done | rfl | (simp only [List.length_drop, List.length_take]; rfl)) ?_; (with_reducible refine (place_Fits.calls a1_0 a1_1 a1_2 a2 false _ ?side1 A6.out).mono ?_); (case side1 => exact Fig.Glob.below HG.out (by repeat (first | (with_reducible first | exact HB.out | apply below_alloc | apply pw_below_drewN | apply below_drew1 | refine below_set ?_ GE157.out | refine below_set ?_ GE158.out) | exact HB.out))); rintro e w22 ⟨rfl, hb⟩; refine ⟨_, rfl, ?_⟩; have n0_ := Aside0.mk (blk_below (g := gb157) (o := .cells #[.bool a1_0, .string a1_1, .int .i64 a1_2] 23 (0, 0)) (by (with_reducible repeat (first | refine blk_drewN ?_ _ | refine blk_drew ?_ | refine blk_alloc ?_ _)); exact BK157.out) hb); have n1_ := Aside0.mk (blk_below (g := gb158) (o := .cells #[.bool false, .string (⟨#[]⟩ : ByteArray), .int .i64 0] 23 (0, 0)) (by (with_reducible repeat (first | refine blk_drewN ?_ _ | refine blk_drew ?_ | refine blk_alloc ?_ _)); exact BK158.out) hb); have n2_ := Aside0.mk (below_step (by repeat (first | (with_reducible first | exact HB.out | apply below_alloc | apply pw_below_drewN | apply below_drew1 | refine below_set ?_ GE157.out | refine below_set ?_ GE158.out) | exact HB.out)) hb); clear BK157; clear BK158; clear HB; have BK157 := n0_; have BK158 := n1_; have HB := n2_; clear n0_ n1_ n2_; (try clear hb); (try clear hb2); (try clear hk); (try clear hi); have hcz23_0 : w22.cell? ⟨gb158, 0, none⟩ = some (.bool false) := (blk_cell BK158.out 0).trans rfl; have hcz23_1 : w22.cell? ⟨gb158, 1, none⟩ = some (.string (⟨#[]⟩ : ByteArray)) := (blk_cell BK158.out 1).trans rfl; have hcz23_2 : w22.cell? ⟨gb158, 2, none⟩ = some (.int .i64 0) := (blk_cell BK158.out 2).trans rfl; have hfz23_0 := blk_frozen BK158.out 0; have hfz23_1 := blk_frozen BK158.out 1; have hfz23_2 := blk_frozen BK158.out 2))
        refine bodyPost_ret (results_ct rfl _ _ gb158 23 #[.bool false, .string (⟨#[]⟩ : ByteArray), .int .i64 0] (0, 0) _ rfl (by (with_reducible repeat (first | refine blk_drewN ?_ _ | refine blk_drew ?_ | refine blk_alloc ?_ _)); refine blk_put (cs := #[.bool false, .string (⟨#[]⟩ : ByteArray), .int .i64 0]) ?_ 2 _ rfl; (with_reducible repeat (first | refine blk_drewN ?_ _ | refine blk_drew ?_ | refine blk_alloc ?_ _)); refine blk_put (cs := #[.bool false, .string (⟨#[]⟩ : ByteArray), .int .i64 0]) ?_ 1 _ rfl; (with_reducible repeat (first | refine blk_drewN ?_ _ | refine blk_drew ?_ | refine blk_alloc ?_ _)); refine blk_put (cs := #[.bool false, .string (⟨#[]⟩ : ByteArray), .int .i64 0]) ?_ 0 _ rfl; (with_reducible repeat (first | refine blk_drewN ?_ _ | refine blk_drew ?_ | refine blk_alloc ?_ _)); exact BK158.out) Tryd.underlying23 rfl (by kernel_rfl)) rfl ?_
        exact ⟨by first | rfl | (simp [errW_none, errW_some] <;> rfl) | (simp [*, errW_none, errW_some] <;> rfl), by repeat (first | (with_reducible first | exact HB.out | apply below_alloc | apply pw_below_drewN | apply below_drew1 | refine below_set ?_ GE157.out | refine below_set ?_ GE158.out) | exact HB.out)⟩
      · rw [if_neg c17] at H
        have c17b0 : (a0 == 7) = false := beq_eq_false_iff_ne.mpr c17
        have c17b1 : (a0 != 7) = true := bne_iff_ne.mpr c17
        replace H := Option.bind_eq_some_iff.mp H
        obtain ⟨⟨t164, t167⟩, A240, H⟩ := H
        replace H : ((nat_Add.f t167 t167).bind fun t170 => ((ten_Shift.f (([1] : List Int)) (wrap64 (a2 - a1_2))).bind fun t176 => ((nat_Cmp.f t170 t176).bind fun t179 => (if (t164.length : Int) > 0 then (if 0 < (t164.length : Int) then ((mode_Away.f a0 a1_0 ((Int.tmod (rd t164 0) 2) == 1) t179).bind fun t181 => (place_Round.j0 k a2 t164 t181 a1_0 a1_1 a1_2)) else (none)) else ((mode_Away.f a0 a1_0 false t179).bind fun t182 => (place_Round.j0 k a2 t164 t182 a1_0 a1_1 a1_2)))))) = some (r1, r2, r3, r4) := H
        have A24 := Aside0.mk A240
        clear A240
        replace H := Option.bind_eq_some_iff.mp H
        obtain ⟨t170, A250, H⟩ := H
        replace H : ((ten_Shift.f (([1] : List Int)) (wrap64 (a2 - a1_2))).bind fun t176 => ((nat_Cmp.f t170 t176).bind fun t179 => (if (t164.length : Int) > 0 then (if 0 < (t164.length : Int) then ((mode_Away.f a0 a1_0 ((Int.tmod (rd t164 0) 2) == 1) t179).bind fun t181 => (place_Round.j0 k a2 t164 t181 a1_0 a1_1 a1_2)) else (none)) else ((mode_Away.f a0 a1_0 false t179).bind fun t182 => (place_Round.j0 k a2 t164 t182 a1_0 a1_1 a1_2))))) = some (r1, r2, r3, r4) := H
        have A25 := Aside0.mk A250
        clear A250
        obtain ⟨y173, hy173⟩ : ∃ y_ : List Int, y_ = (([1] : List Int)) := ⟨_, rfl⟩
        replace H : ((ten_Shift.f y173 (wrap64 (a2 - a1_2))).bind fun t176 => ((nat_Cmp.f t170 t176).bind fun t179 => (if (t164.length : Int) > 0 then (if 0 < (t164.length : Int) then ((mode_Away.f a0 a1_0 ((Int.tmod (rd t164 0) 2) == 1) t179).bind fun t181 => (place_Round.j0 k a2 t164 t181 a1_0 a1_1 a1_2)) else (none)) else ((mode_Away.f a0 a1_0 false t179).bind fun t182 => (place_Round.j0 k a2 t164 t182 a1_0 a1_1 a1_2))))) = some (r1, r2, r3, r4) := by first | (rw [hy173]; with_reducible exact H) | (have H2_ := (Option.bind_some _ _).symm.trans H; rw [hy173]; with_reducible exact H2_) | (have H2_ := (Option.bind_some _ _).symm.trans H; with_reducible exact H2_) | with_reducible exact H | (rw [hy173]; exact H) | exact H
        have Ny173 := Aside0.mk hy173
        clear hy173
        replace H := Option.bind_eq_some_iff.mp H
        obtain ⟨t176, A260, H⟩ := H
        replace H : ((nat_Cmp.f t170 t176).bind fun t179 => (if (t164.length : Int) > 0 then (if 0 < (t164.length : Int) then ((mode_Away.f a0 a1_0 ((Int.tmod (rd t164 0) 2) == 1) t179).bind fun t181 => (place_Round.j0 k a2 t164 t181 a1_0 a1_1 a1_2)) else (none)) else ((mode_Away.f a0 a1_0 false t179).bind fun t182 => (place_Round.j0 k a2 t164 t182 a1_0 a1_1 a1_2)))) = some (r1, r2, r3, r4) := H
        have A26 := Aside0.mk A260
        clear A260
        replace H := Option.bind_eq_some_iff.mp H
        obtain ⟨t179, A270, H⟩ := H
        replace H : (if (t164.length : Int) > 0 then (if 0 < (t164.length : Int) then ((mode_Away.f a0 a1_0 ((Int.tmod (rd t164 0) 2) == 1) t179).bind fun t181 => (place_Round.j0 k a2 t164 t181 a1_0 a1_1 a1_2)) else (none)) else ((mode_Away.f a0 a1_0 false t179).bind fun t182 => (place_Round.j0 k a2 t164 t182 a1_0 a1_1 a1_2))) = some (r1, r2, r3, r4) := H
        have A27 := Aside0.mk A270
        clear A270
        have HC28 := Aside0.mk H
        clear H
        go_enter Tryd.func16, Tryd.ntmps16
        try go_wp2_with (first | ((with_reducible refine gate_dst (N := 4) rfl ?_); refine box_event ?hg (N := 4) ?hd (cs := #[.bool a1_0, .string a1_1, .int .i64 a1_2]) (t := 23) ?hr ?_; (case hd => rfl); (case hg => rfl); (case hr => first | (go_simp; done) | (go_simp; rfl)); intro gb157 hg w29 hbox hb; have n0_ := Aside0.mk (below_step (by repeat (first | (with_reducible first | exact HB.out | apply below_alloc | apply pw_below_drewN | apply below_drew1) | exact HB.out)) hb); have n1_ := Aside0.mk (hbox); have n2_ := Aside0.mk ((by rw [hg]; exact (below_size (by repeat (first | (with_reducible first | exact HB.out | apply below_alloc | apply pw_below_drewN | apply below_drew1) | exact HB.out))) : w.heap.size ≤ gb157)); have n3_ := Aside0.mk ((by rw [hg]; exact (below_size (by repeat (first | (with_reducible first | exact HB.out | apply below_alloc | apply pw_below_drewN | apply below_drew1) | exact HB.out))) : w.heap.size ≤ gb157)); clear HB; have HB := n0_; have BK157 := n1_; have GW157 := n2_; have GE157 := n3_; clear n0_ n1_ n2_ n3_; clear hb hbox hg) | ((with_reducible refine gate_dst (N := 6) rfl ?_); refine box_event ?hg (N := 6) ?hd (cs := #[.bool false, .string (⟨#[]⟩ : ByteArray), .int .i64 0]) (t := 23) ?hr ?_; (case hd => rfl); (case hg => rfl); (case hr => first | (go_simp; done) | (go_simp; rfl)); intro gb158 hg w30 hbox hb; have n0_ := Aside0.mk (blk_below (g := gb157) (o := .cells #[.bool a1_0, .string a1_1, .int .i64 a1_2] 23 (0, 0)) (by (with_reducible repeat (first | refine blk_drewN ?_ _ | refine blk_drew ?_ | refine blk_alloc ?_ _)); exact BK157.out) hb); have n1_ := Aside0.mk (below_step (by repeat (first | (with_reducible first | exact HB.out | apply below_alloc | apply pw_below_drewN | apply below_drew1 | refine below_set ?_ GE157.out) | exact HB.out)) hb); have n2_ := Aside0.mk (hbox); have n3_ := Aside0.mk ((by rw [hg]; exact (below_size (by repeat (first | (with_reducible first | exact HB.out | apply below_alloc | apply pw_below_drewN | apply below_drew1 | refine below_set ?_ GE157.out) | exact HB.out))) : w.heap.size ≤ gb158)); have n4_ := Aside0.mk ((by rw [hg]; exact (below_size (by repeat (first | (with_reducible first | exact HB.out | apply below_alloc | apply pw_below_drewN | apply below_drew1 | refine below_set ?_ GE157.out) | exact HB.out))) : w.heap.size ≤ gb158)); have n5_ := Aside0.mk ((by rw [hg]; exact Nat.ne_of_lt (blk_lt (g := gb157) (o := .cells #[.bool a1_0, .string a1_1, .int .i64 a1_2] 23 (0, 0)) (by (with_reducible repeat (first | refine blk_drewN ?_ _ | refine blk_drew ?_ | refine blk_alloc ?_ _)); exact BK157.out)) : gb157 ≠ gb158)); have n6_ := Aside0.mk ((by rw [hg]; exact Nat.ne_of_gt (blk_lt (g := gb157) (o := .cells #[.bool a1_0, .string a1_1, .int .i64 a1_2] 23 (0, 0)) (by (with_reducible repeat (first | refine blk_drewN ?_ _ | refine blk_drew ?_ | refine blk_alloc ?_ _)); exact BK157.out)) : gb158 ≠ gb157)); clear BK157; clear HB; have BK157 := n0_; have HB := n1_; have BK158 := n2_; have GW158 := n3_; have GE158 := n4_; have NB157_158 := n5_; have NB158_157 := n6_; clear n0_ n1_ n2_ n3_ n4_ n5_ n6_; clear hb hbox hg) | ((with_reducible refine gate_callee (f := 30) rfl ?_); refine goesL_ (some 13) rfl rfl Tryd.func30 (by kernel_rfl) rfl #[.int .i64 a0] rfl (by (try simp only [List.map_toArray]); (try simp only [List.map_cons]); (try simp only [List.map_nil]); first | done | rfl | (simp only [List.length_drop, List.length_take]; rfl)) ?_; (with_reducible refine (mode_Good.calls a0 true _ A4.out).mono ?_); rintro e w' ⟨rfl, ⟨nd, rfl⟩⟩; refine ⟨_, rfl, ?_⟩; have hnb31 := NB157_158.out; have hnc31 := NB158_157.out; have hcz32_0 : w30.cell? ⟨gb157, 0, none⟩ = some (.bool a1_0) := (blk_cell BK157.out 0).trans rfl; have hcz32_1 : w30.cell? ⟨gb157, 1, none⟩ = some (.string a1_1) := (blk_cell BK157.out 1).trans rfl; have hcz32_2 : w30.cell? ⟨gb157, 2, none⟩ = some (.int .i64 a1_2) := (blk_cell BK157.out 2).trans rfl; have hfz32_0 := blk_frozen BK157.out 0; have hfz32_1 := blk_frozen BK157.out 1; have hfz32_2 := blk_frozen BK157.out 2) | ((with_reducible refine gate_callee (f := 18) rfl ?_); refine goesL_ (some 19) rfl rfl Tryd.func18 (by kernel_rfl) rfl #[.agg #[.bool a1_0, .string a1_1, .int .i64 a1_2], .int .i64 a2] rfl (by (try simp only [List.map_toArray]); (try simp only [List.map_cons]); (try simp only [List.map_nil]); first | done | rfl | (simp only [List.length_drop, List.length_take]; rfl)) ?_; (with_reducible refine (place_Fits.calls a1_0 a1_1 a1_2 a2 false _ ?side1 A6.out).mono ?_); (case side1 => exact Fig.Glob.below HG.out (by repeat (first | (with_reducible first | exact HB.out | apply below_alloc | apply pw_below_drewN | apply below_drew1 | refine below_set ?_ GE157.out | refine below_set ?_ GE158.out) | exact HB.out))); rintro e w33 ⟨rfl, hb⟩; refine ⟨_, rfl, ?_⟩; have n0_ := Aside0.mk (blk_below (g := gb157) (o := .cells #[.bool a1_0, .string a1_1, .int .i64 a1_2] 23 (0, 0)) (by (with_reducible repeat (first | refine blk_drewN ?_ _ | refine blk_drew ?_ | refine blk_alloc ?_ _)); exact BK157.out) hb); have n1_ := Aside0.mk (blk_below (g := gb158) (o := .cells #[.bool false, .string (⟨#[]⟩ : ByteArray), .int .i64 0] 23 (0, 0)) (by (with_reducible repeat (first | refine blk_drewN ?_ _ | refine blk_drew ?_ | refine blk_alloc ?_ _)); exact BK158.out) hb); have n2_ := Aside0.mk (below_step (by repeat (first | (with_reducible first | exact HB.out | apply below_alloc | apply pw_below_drewN | apply below_drew1 | refine below_set ?_ GE157.out | refine below_set ?_ GE158.out) | exact HB.out)) hb); clear BK157; clear BK158; clear HB; have BK157 := n0_; have BK158 := n1_; have HB := n2_; clear n0_ n1_ n2_; (try clear hb); (try clear hb2); (try clear hk); (try clear hi); have hcz34_0 : w33.cell? ⟨gb157, 0, none⟩ = some (.bool a1_0) := (blk_cell BK157.out 0).trans rfl; have hcz34_1 : w33.cell? ⟨gb157, 1, none⟩ = some (.string a1_1) := (blk_cell BK157.out 1).trans rfl; have hcz34_2 : w33.cell? ⟨gb157, 2, none⟩ = some (.int .i64 a1_2) := (blk_cell BK157.out 2).trans rfl; have hfz34_0 := blk_frozen BK157.out 0; have hfz34_1 := blk_frozen BK157.out 1; have hfz34_2 := blk_frozen BK157.out 2) | ((with_reducible refine gate_callee (f := 32) rfl ?_); refine goesL_ (some 29) rfl rfl Tryd.func32 (by kernel_rfl) rfl #[.agg #[.bool a1_0, .string a1_1, .int .i64 a1_2], .int .i64 a2] rfl (by (try simp only [List.map_toArray]); (try simp only [List.map_cons]); (try simp only [List.map_nil]); first | done | rfl | (simp only [List.length_drop, List.length_take]; rfl)) ?_; (with_reducible refine (place_cut.calls a1_0 a1_1 a1_2 a2 t164 t167 _ ?side1 A24.out).mono ?_); (case side1 => exact Fig.Glob.below HG.out (by repeat (first | (with_reducible first | exact HB.out | apply below_alloc | apply pw_below_drewN | apply below_drew1 | refine below_set ?_ GE157.out | refine below_set ?_ GE158.out) | exact HB.out))); rintro e w35 ⟨v165, v168, rfl, ho0, ho1, hb⟩; refine ⟨_, rfl, ?_⟩; have n0_ := Aside0.mk (Kd.R_lower ho0 (below_size (by repeat (first | (with_reducible first | exact HB.out | apply below_alloc | apply pw_below_drewN | apply below_drew1 | refine below_set ?_ GE157.out | refine below_set ?_ GE158.out) | exact HB.out)))); have n1_ := Aside0.mk (Kd.R_lower ho1 (below_size (by repeat (first | (with_reducible first | exact HB.out | apply below_alloc | apply pw_below_drewN | apply below_drew1 | refine below_set ?_ GE157.out | refine below_set ?_ GE158.out) | exact HB.out)))); have n2_ := Aside0.mk (blk_below (g := gb157) (o := .cells #[.bool a1_0, .string a1_1, .int .i64 a1_2] 23 (0, 0)) (by (with_reducible repeat (first | refine blk_drewN ?_ _ | refine blk_drew ?_ | refine blk_alloc ?_ _)); exact BK157.out) hb); have n3_ := Aside0.mk (blk_below (g := gb158) (o := .cells #[.bool false, .string (⟨#[]⟩ : ByteArray), .int .i64 0] 23 (0, 0)) (by (with_reducible repeat (first | refine blk_drewN ?_ _ | refine blk_drew ?_ | refine blk_alloc ?_ _)); exact BK158.out) hb); have n4_ := Aside0.mk (below_step (by repeat (first | (with_reducible first | exact HB.out | apply below_alloc | apply pw_below_drewN | apply below_drew1 | refine below_set ?_ GE157.out | refine below_set ?_ GE158.out) | exact HB.out)) hb); clear BK157; clear BK158; clear HB; have HO166 := n0_; have HO169 := n1_; have BK157 := n2_; have BK158 := n3_; have HB := n4_; clear n0_ n1_ n2_ n3_ n4_; (try clear hb); (try clear hb2); (try clear hk); (try clear hi); (try clear ho0); (try clear ho1); obtain ⟨Ao36, co36, eo36⟩ := Kd.R_slice HO169.out; subst eo36))
        (try (rw [drewN_self w35]; generalize hq_ : World.drewN w35 _ = w35; have n0_ : Aside0 (Kd.R (Kd.int .u32) 50 w35 w.heap.size (fun k_ => some k_ ≠ (.slice Ao36 t167.length co36 : Value).ownBlock) v165 t164) := ⟨by rw [← hq_]; exact (by (with_reducible repeat (first | apply Kd.R_alloc | apply Kd.R_drewN | apply Kd.R_drew)); exact HO166.out)⟩; have n1_ : Aside0 (Kd.R (Kd.int .u32) 50 w35 w.heap.size (fun k_ => some k_ ≠ (v165 : Value).ownBlock) (.slice Ao36 t167.length co36) t167) := ⟨by rw [← hq_]; exact (by (with_reducible repeat (first | apply Kd.R_alloc | apply Kd.R_drewN | apply Kd.R_drew)); exact HO169.out)⟩; have n2_ : Aside0 (w35.heap[gb157]? = some (.cells #[.bool a1_0, .string a1_1, .int .i64 a1_2] 23 (0, 0))) := ⟨by rw [← hq_]; exact (by (with_reducible repeat (first | refine blk_drewN ?_ _ | refine blk_drew ?_ | refine blk_alloc ?_ _)); exact BK157.out)⟩; have n3_ : Aside0 (w35.heap[gb158]? = some (.cells #[.bool false, .string (⟨#[]⟩ : ByteArray), .int .i64 0] 23 (0, 0))) := ⟨by rw [← hq_]; exact (by (with_reducible repeat (first | refine blk_drewN ?_ _ | refine blk_drew ?_ | refine blk_alloc ?_ _)); exact BK158.out)⟩; have n4_ : Aside0 (Below w.heap.size w w35) := ⟨by rw [← hq_]; exact (by repeat (first | (with_reducible first | exact HB.out | apply below_alloc | apply pw_below_drewN | apply below_drew1 | refine below_set ?_ GE157.out | refine below_set ?_ GE158.out) | exact HB.out))⟩; clear HO166 HO169 BK157 BK158 HB hq_; have HO166 := n0_; have HO169 := n1_; have BK157 := n2_; have BK158 := n3_; have HB := n4_; clear n0_ n1_ n2_ n3_ n4_))
        have n0_ := Aside0.mk (Kd.R_drew HO166.out)
        have n1_ := Aside0.mk (Kd.R_drew HO169.out)
        have n2_ := Aside0.mk (blk_drew BK157.out)
        have n3_ := Aside0.mk (blk_drew BK158.out)
        have n4_ := Aside0.mk (below_drew1 HB.out)
        clear HO166
        clear HO169
        clear BK157
        clear BK158
        clear HB
        have HO166 := n0_
        have HO169 := n1_
        have BK157 := n2_
        have BK158 := n3_
        have HB := n4_
        clear n0_ n1_ n2_ n3_ n4_
        refine start_ (n := 11) (S := fun w' => w'.cell? ⟨gb157, 0, none⟩ = some (.bool a1_0) ∧ w'.cell? ⟨gb157, 1, none⟩ = some (.string a1_1) ∧ w'.cell? ⟨gb157, 2, none⟩ = some (.int .i64 a1_2)) (ds := []) #[false, false, false, false, false, false, false, false, false, false, false] (by kernel_rfl) rfl rfl ⟨(blk_cell BK157.out 0).trans rfl, (blk_cell BK157.out 1).trans rfl, (blk_cell BK157.out 2).trans rfl⟩ (fun hHeld => ?_); refine with_tabW place_Round.tab8 place_Round.bits8 (fun HT_ HW_ => ?_)
        generalize w35.drew = w37 at HO166 HO169 BK157 BK158 HB hHeld ⊢
        refine pure_ (i := 0) (N := some 32) (v := ?_) (a' := ?_) #[true, false, false, false, false, false, false, false, false, false, false] rfl rfl (any_of HT_.out (by kernel_rfl)) (fun _ _ _ h => h) (Or.inl ⟨by rfl, ?_⟩) ?_ ?_
        rotate_left
        · intro w'
          go_simp
          with_reducible rfl
        rotate_left
        · simp only [Act.put, List.setIfInBounds_toArray, List.set_cons_zero, List.set_cons_succ]; (try simp only [i64_w]); (try simp only [i32_w])
          rfl
        refine pure_ (i := 1) (N := some 33) (v := ?_) (a' := ?_) #[true, true, false, false, false, false, false, false, false, false, false] rfl rfl (any_of HT_.out (by kernel_rfl)) (fun _ _ _ h => h) (Or.inl ⟨by rfl, ?_⟩) ?_ ?_
        rotate_left
        · intro w'
          go_simp
          with_reducible rfl
        rotate_left
        · simp only [Act.put, List.setIfInBounds_toArray, List.set_cons_zero, List.set_cons_succ]; (try simp only [i64_w]); (try simp only [i32_w])
          rfl
        refine pure_ (i := 4) (N := some 36) (v := ?_) (a' := ?_) #[true, true, false, false, true, false, false, false, false, false, false] rfl rfl (any_of HT_.out (by kernel_rfl)) (fun _ _ _ h => h) (Or.inl ⟨by rfl, ?_⟩) ?_ ?_
        rotate_left
        · intro w'
          go_simp
          with_reducible rfl
        rotate_left
        · simp only [Act.put, List.setIfInBounds_toArray, List.set_cons_zero, List.set_cons_succ]; (try simp only [i64_w]); (try simp only [i32_w])
          rfl
        refine pure_ (i := 5) (N := some 37) (v := ?_) (a' := ?_) #[true, true, false, false, true, true, false, false, false, false, false] rfl rfl (any_of HT_.out (by kernel_rfl)) (fun _ _ _ h => h) (Or.inl ⟨by rfl, ?_⟩) ?_ ?_
        rotate_left
        · intro w'
          go_simp
          with_reducible rfl
        rotate_left
        · simp only [Act.put, List.setIfInBounds_toArray, List.set_cons_zero, List.set_cons_succ]; (try simp only [i64_w]); (try simp only [i32_w])
          rfl
        refine take_ (i := 6) (N := some 38) (v := ?_) (a' := ?_) #[true, true, false, false, true, true, true, false, false, false, false] rfl rfl (take_ofW HT_.out HW_.out (by kernel_rfl)) (fun _ _ _ h => h) (Or.inl ⟨by rfl, ?_⟩) hHeld ?_ ?_
        rotate_left
        · rintro w' ⟨s0, s1, s2⟩
          go_simp
          with_reducible rfl
        rotate_left
        · simp only [Act.put, List.setIfInBounds_toArray, List.set_cons_zero, List.set_cons_succ]; (try simp only [i64_w]); (try simp only [i32_w])
          rfl
        refine pure_ (i := 7) (N := some 39) (v := ?_) (a' := ?_) #[true, true, false, false, true, true, true, true, false, false, false] rfl rfl (any_of HT_.out (by kernel_rfl)) (fun _ _ _ h => h) (Or.inl ⟨by rfl, ?_⟩) ?_ ?_
        rotate_left
        · intro w'
          go_simp
          with_reducible rfl
        rotate_left
        · simp only [Act.put, List.setIfInBounds_toArray, List.set_cons_zero, List.set_cons_succ]; (try simp only [i64_w]); (try simp only [i32_w])
          rfl
        refine join_ (σ := Value × Value) 3 #[true, true, true, true, true, true, true, true, false, false, false] (fun s_ => [(34, s_.1), (35, s_.2)]) (fun s_ w' => (w'.cell? ⟨gb157, 0, none⟩ = some (.bool a1_0) ∧ w'.cell? ⟨gb157, 1, none⟩ = some (.string a1_1) ∧ w'.cell? ⟨gb157, 2, none⟩ = some (.int .i64 a1_2)) ∧ (Kd.R (Kd.int .u32) 50 w' w.heap.size (fun k_ => some k_ ≠ (.slice Ao36 t167.length co36 : Value).ownBlock ∧ some k_ ≠ (s_.1 : Value).ownBlock ∧ some k_ ≠ (s_.2 : Value).ownBlock) v165 t164) ∧ (Kd.R (Kd.int .u32) 50 w' w.heap.size (fun k_ => some k_ ≠ (v165 : Value).ownBlock ∧ some k_ ≠ (s_.1 : Value).ownBlock ∧ some k_ ≠ (s_.2 : Value).ownBlock) (.slice Ao36 t167.length co36) t167) ∧ (Kd.R (Kd.int .u32) 50 w' w.heap.size (fun k_ => some k_ ≠ (v165 : Value).ownBlock ∧ some k_ ≠ (.slice Ao36 t167.length co36 : Value).ownBlock ∧ some k_ ≠ (s_.2 : Value).ownBlock) s_.1 t170) ∧ (Kd.R (Kd.int .u32) 50 w' w.heap.size (fun k_ => some k_ ≠ (v165 : Value).ownBlock ∧ some k_ ≠ (.slice Ao36 t167.length co36 : Value).ownBlock ∧ some k_ ≠ (s_.1 : Value).ownBlock) s_.2 y173) ∧ (w'.heap[gb157]? = some (.cells #[.bool a1_0, .string a1_1, .int .i64 a1_2] 23 (0, 0))) ∧ (w'.heap[gb158]? = some (.cells #[.bool false, .string (⟨#[]⟩ : ByteArray), .int .i64 0] 23 (0, 0))) ∧ (Below w.heap.size w w')) ?_ ?_
        rotate_left
        · intro hCont
          refine two_ (i := 2) (j := 3) (Ni := some 34) (Nj := some 35) #[true, true, true, false, true, true, true, true, false, false, false] #[true, true, false, true, true, true, true, true, false, false, false] rfl rfl rfl rfl (two_of HT_.out (by kernel_rfl)) (by decide) (by decide) (fun K hK => ?_) (fun K hK => ?_)
          · skip
            refine goes_ Tryd.func34 (by kernel_rfl) rfl #[.slice Ao36 t167.length co36, .slice Ao36 t167.length co36] (by rfl) rfl rfl (by (try simp only [List.map_toArray]); (try simp only [List.map_cons]); (try simp only [List.map_nil]); first | done | rfl | (simp only [List.length_drop, List.length_take]; rfl)) ?_
            with_reducible refine (nat_Add.calls _ _ t167 _ _ t167 t170 _ ?side1 ?side2 ?side3 ?side4 A25.out).mono ?_
            (case side1 => repeat (first | exact (Kd.R_reads' HO169.out).2.2 | (with_reducible refine Kd.C_alloc ?_ _) | (with_reducible refine Kd.C_drewN ?_ _) | (with_reducible refine Kd.C_drew ?_)))
            (case side2 => exact (Kd.R_reads' HO169.out).2.1)
            (case side3 => repeat (first | exact (Kd.R_reads' HO169.out).2.2 | (with_reducible refine Kd.C_alloc ?_ _) | (with_reducible refine Kd.C_drewN ?_ _) | (with_reducible refine Kd.C_drew ?_)))
            (case side4 => exact (Kd.R_reads' HO169.out).2.1)
            rintro e w38 ⟨v171, rfl, ho0, hb⟩
            refine ⟨_, rfl, ?_⟩
            have n0_ := Aside0.mk (Kd.R_elder' (by (with_reducible repeat (first | apply Kd.R_alloc | apply Kd.R_drewN | apply Kd.R_drew)); exact HO166.out) (Kd.R_base ho0) hb)
            have n1_ := Aside0.mk (Kd.R_elder' (by (with_reducible repeat (first | apply Kd.R_alloc | apply Kd.R_drewN | apply Kd.R_drew)); exact HO169.out) (Kd.R_base ho0) hb)
            have n2_ := Aside0.mk (Kd.R_lower (Kd.R_new' (Kd.R_new' ho0 (Kd.R_lt (by (with_reducible repeat (first | apply Kd.R_alloc | apply Kd.R_drewN | apply Kd.R_drew)); exact HO166.out))) (Kd.R_lt (by (with_reducible repeat (first | apply Kd.R_alloc | apply Kd.R_drewN | apply Kd.R_drew)); exact HO169.out))) (below_size (by repeat (first | (with_reducible first | exact HB.out | apply below_alloc | apply pw_below_drewN | apply below_drew1 | refine below_set ?_ GE157.out | refine below_set ?_ GE158.out) | exact HB.out))))
            have n3_ := Aside0.mk (blk_below (g := gb157) (o := .cells #[.bool a1_0, .string a1_1, .int .i64 a1_2] 23 (0, 0)) (by (with_reducible repeat (first | refine blk_drewN ?_ _ | refine blk_drew ?_ | refine blk_alloc ?_ _)); exact BK157.out) hb)
            have n4_ := Aside0.mk (blk_below (g := gb158) (o := .cells #[.bool false, .string (⟨#[]⟩ : ByteArray), .int .i64 0] 23 (0, 0)) (by (with_reducible repeat (first | refine blk_drewN ?_ _ | refine blk_drew ?_ | refine blk_alloc ?_ _)); exact BK158.out) hb)
            have n5_ := Aside0.mk (below_step (by repeat (first | (with_reducible first | exact HB.out | apply below_alloc | apply pw_below_drewN | apply below_drew1 | refine below_set ?_ GE157.out | refine below_set ?_ GE158.out) | exact HB.out)) hb)
            clear HO166
            clear HO169
            clear BK157
            clear BK158
            clear HB
            have HO166 := n0_
            have HO169 := n1_
            have HO172 := n2_
            have BK157 := n3_
            have BK158 := n4_
            have HB := n5_
            clear n0_ n1_ n2_ n3_ n4_ n5_
            (try clear hb)
            (try clear hb2)
            (try clear hk)
            (try clear hi)
            (try clear ho0)
            refine hK.out _ _ ⟨(blk_cell BK157.out 0).trans rfl, (blk_cell BK157.out 1).trans rfl, (blk_cell BK157.out 2).trans rfl⟩ (fun hHeld => ?_)
            clear hK K
            refine norm_ (a' := ?_) ?_ ?_
            rotate_left
            · show Act.put _ (some 34) _ = _
              simp only [Act.put, List.setIfInBounds_toArray, List.set_cons_zero, List.set_cons_succ]; (try simp only [i64_w]); (try simp only [i32_w])
              rfl
            refine one_ (i := 3) (N := some 35) #[true, true, true, true, true, true, true, true, false, false, false] rfl rfl (one_of HT_.out (by kernel_rfl)) (by decide) (fun K hK => ?_)
            refine Kd.R_lit_step (Kd.int .u32) _ 50 ?hg (N := 35) ?hd (xs := ([1] : List Int)) (inner := [.int .u32 1]) (ok := fun _ => True) (okp := fun _ => True) ?hr ?hp (fun _ hk => hk) trivial (Below.refl _ _) (Nat.le_refl _) (by simp) ?_; (case hd => rfl); (case hg => rfl); (case hr => first | (go_simp; done) | (go_simp; rfl)); (case hp => exact (Reps.one (show Kd.M (Kd.int .u32) _ _ _ 1 [.int .u32 1] from rfl) (Reps.none _ _)))
            intro v174 w39 ho40 hb hg_ hnew_
            clear hg_ hnew_
            (first | rw [← Ny173.out] at ho40 | (simp only [Int.reduceToNat] at ho40; rw [← Ny173.out] at ho40))
            have n0_ := Aside0.mk (Kd.R_elder' (by (with_reducible repeat (first | apply Kd.R_alloc | apply Kd.R_drewN | apply Kd.R_drew)); exact HO166.out) (Kd.R_base ho40) hb)
            have n1_ := Aside0.mk (Kd.R_elder' (by (with_reducible repeat (first | apply Kd.R_alloc | apply Kd.R_drewN | apply Kd.R_drew)); exact HO169.out) (Kd.R_base ho40) hb)
            have n2_ := Aside0.mk (Kd.R_elder' (by (with_reducible repeat (first | apply Kd.R_alloc | apply Kd.R_drewN | apply Kd.R_drew)); exact HO172.out) (Kd.R_base ho40) hb)
            have n3_ := Aside0.mk (Kd.R_lower (Kd.R_new' (Kd.R_new' (Kd.R_new' ho40 (Kd.R_lt (by (with_reducible repeat (first | apply Kd.R_alloc | apply Kd.R_drewN | apply Kd.R_drew)); exact HO166.out))) (Kd.R_lt (by (with_reducible repeat (first | apply Kd.R_alloc | apply Kd.R_drewN | apply Kd.R_drew)); exact HO169.out))) (Kd.R_lt (by (with_reducible repeat (first | apply Kd.R_alloc | apply Kd.R_drewN | apply Kd.R_drew)); exact HO172.out))) (below_size (by repeat (first | (with_reducible first | exact HB.out | apply below_alloc | apply pw_below_drewN | apply below_drew1 | refine below_set ?_ GE157.out | refine below_set ?_ GE158.out) | exact HB.out))))
            have n4_ := Aside0.mk (blk_below (g := gb157) (o := .cells #[.bool a1_0, .string a1_1, .int .i64 a1_2] 23 (0, 0)) (by (with_reducible repeat (first | refine blk_drewN ?_ _ | refine blk_drew ?_ | refine blk_alloc ?_ _)); exact BK157.out) hb)
            have n5_ := Aside0.mk (blk_below (g := gb158) (o := .cells #[.bool false, .string (⟨#[]⟩ : ByteArray), .int .i64 0] 23 (0, 0)) (by (with_reducible repeat (first | refine blk_drewN ?_ _ | refine blk_drew ?_ | refine blk_alloc ?_ _)); exact BK158.out) hb)
            have n6_ := Aside0.mk (below_step (by repeat (first | (with_reducible first | exact HB.out | apply below_alloc | apply pw_below_drewN | apply below_drew1 | refine below_set ?_ GE157.out | refine below_set ?_ GE158.out) | exact HB.out)) hb)
            clear HO166
            clear HO169
            clear HO172
            clear BK157
            clear BK158
            clear HB
            have HO166 := n0_
            have HO169 := n1_
            have HO172 := n2_
            have HO175 := n3_
            have BK157 := n4_
            have BK158 := n5_
            have HB := n6_
            clear n0_ n1_ n2_ n3_ n4_ n5_ n6_
            clear hb ho40
            refine hK.out _ _ ⟨(blk_cell BK157.out 0).trans rfl, (blk_cell BK157.out 1).trans rfl, (blk_cell BK157.out 2).trans rfl⟩ (fun hHeld => ?_)
            clear hK K
            refine norm_ (a' := ?_) ?_ ?_
            rotate_left
            · show Act.put _ (some 35) _ = _
              simp only [Act.put, List.setIfInBounds_toArray, List.set_cons_zero, List.set_cons_succ]; (try simp only [i64_w]); (try simp only [i32_w])
              rfl
            exact norm_ (by simp only [putAll, Act.put, List.setIfInBounds_toArray, List.set_cons_zero, List.set_cons_succ]) (hCont (v171, v174) _ ⟨hHeld, (by (with_reducible repeat (first | apply Kd.R_alloc | apply Kd.R_drewN | apply Kd.R_drew)); exact Kd.R_mono HO166.out (fun _ hk => ⟨hk.1.1, ⟨hk.1.2, hk.2⟩⟩)), (by (with_reducible repeat (first | apply Kd.R_alloc | apply Kd.R_drewN | apply Kd.R_drew)); exact Kd.R_mono HO169.out (fun _ hk => ⟨hk.1.1, ⟨hk.1.2, hk.2⟩⟩)), (by (with_reducible repeat (first | apply Kd.R_alloc | apply Kd.R_drewN | apply Kd.R_drew)); exact Kd.R_mono HO172.out (fun _ hk => ⟨hk.1.1.2, ⟨hk.1.2, hk.2⟩⟩)), (by (with_reducible repeat (first | apply Kd.R_alloc | apply Kd.R_drewN | apply Kd.R_drew)); exact Kd.R_mono HO175.out (fun _ hk => ⟨hk.1.1.2, ⟨hk.1.2, hk.2⟩⟩)), (by (with_reducible repeat (first | refine blk_drewN ?_ _ | refine blk_drew ?_ | refine blk_alloc ?_ _)); exact BK157.out), (by (with_reducible repeat (first | refine blk_drewN ?_ _ | refine blk_drew ?_ | refine blk_alloc ?_ _)); exact BK158.out), (by repeat (first | (with_reducible first | exact HB.out | apply below_alloc | apply pw_below_drewN | apply below_drew1 | refine below_set ?_ GE157.out | refine below_set ?_ GE158.out) | exact HB.out))⟩)
          · skip
            refine Kd.R_lit_step (Kd.int .u32) _ 50 ?hg (N := 35) ?hd (xs := ([1] : List Int)) (inner := [.int .u32 1]) (ok := fun _ => True) (okp := fun _ => True) ?hr ?hp (fun _ hk => hk) trivial (Below.refl _ _) (Nat.le_refl _) (by simp) ?_; (case hd => rfl); (case hg => rfl); (case hr => first | (go_simp; done) | (go_simp; rfl)); (case hp => exact (Reps.one (show Kd.M (Kd.int .u32) _ _ _ 1 [.int .u32 1] from rfl) (Reps.none _ _)))
            intro v174 w38 ho39 hb hg_ hnew_
            clear hg_ hnew_
            (first | rw [← Ny173.out] at ho39 | (simp only [Int.reduceToNat] at ho39; rw [← Ny173.out] at ho39))
            have n0_ := Aside0.mk (Kd.R_elder' (by (with_reducible repeat (first | apply Kd.R_alloc | apply Kd.R_drewN | apply Kd.R_drew)); exact HO166.out) (Kd.R_base ho39) hb)
            have n1_ := Aside0.mk (Kd.R_elder' (by (with_reducible repeat (first | apply Kd.R_alloc | apply Kd.R_drewN | apply Kd.R_drew)); exact HO169.out) (Kd.R_base ho39) hb)
            have n2_ := Aside0.mk (Kd.R_lower (Kd.R_new' (Kd.R_new' ho39 (Kd.R_lt (by (with_reducible repeat (first | apply Kd.R_alloc | apply Kd.R_drewN | apply Kd.R_drew)); exact HO166.out))) (Kd.R_lt (by (with_reducible repeat (first | apply Kd.R_alloc | apply Kd.R_drewN | apply Kd.R_drew)); exact HO169.out))) (below_size (by repeat (first | (with_reducible first | exact HB.out | apply below_alloc | apply pw_below_drewN | apply below_drew1 | refine below_set ?_ GE157.out | refine below_set ?_ GE158.out) | exact HB.out))))
            have n3_ := Aside0.mk (blk_below (g := gb157) (o := .cells #[.bool a1_0, .string a1_1, .int .i64 a1_2] 23 (0, 0)) (by (with_reducible repeat (first | refine blk_drewN ?_ _ | refine blk_drew ?_ | refine blk_alloc ?_ _)); exact BK157.out) hb)
            have n4_ := Aside0.mk (blk_below (g := gb158) (o := .cells #[.bool false, .string (⟨#[]⟩ : ByteArray), .int .i64 0] 23 (0, 0)) (by (with_reducible repeat (first | refine blk_drewN ?_ _ | refine blk_drew ?_ | refine blk_alloc ?_ _)); exact BK158.out) hb)
            have n5_ := Aside0.mk (below_step (by repeat (first | (with_reducible first | exact HB.out | apply below_alloc | apply pw_below_drewN | apply below_drew1 | refine below_set ?_ GE157.out | refine below_set ?_ GE158.out) | exact HB.out)) hb)
            clear HO166
            clear HO169
            clear BK157
            clear BK158
            clear HB
            have HO166 := n0_
            have HO169 := n1_
            have HO175 := n2_
            have BK157 := n3_
            have BK158 := n4_
            have HB := n5_
            clear n0_ n1_ n2_ n3_ n4_ n5_
            clear hb ho39
            refine hK.out _ _ ⟨(blk_cell BK157.out 0).trans rfl, (blk_cell BK157.out 1).trans rfl, (blk_cell BK157.out 2).trans rfl⟩ (fun hHeld => ?_)
            clear hK K
            refine norm_ (a' := ?_) ?_ ?_
            rotate_left
            · show Act.put _ (some 35) _ = _
              simp only [Act.put, List.setIfInBounds_toArray, List.set_cons_zero, List.set_cons_succ]; (try simp only [i64_w]); (try simp only [i32_w])
              rfl
            refine one_ (i := 2) (N := some 34) #[true, true, true, true, true, true, true, true, false, false, false] rfl rfl (one_of HT_.out (by kernel_rfl)) (by decide) (fun K hK => ?_)
            refine goes_ Tryd.func34 (by kernel_rfl) rfl #[.slice Ao36 t167.length co36, .slice Ao36 t167.length co36] (by rfl) rfl rfl (by (try simp only [List.map_toArray]); (try simp only [List.map_cons]); (try simp only [List.map_nil]); first | done | rfl | (simp only [List.length_drop, List.length_take]; rfl)) ?_
            with_reducible refine (nat_Add.calls _ _ t167 _ _ t167 t170 _ ?side1 ?side2 ?side3 ?side4 A25.out).mono ?_
            (case side1 => repeat (first | exact (Kd.R_reads' HO169.out).2.2 | (with_reducible refine Kd.C_alloc ?_ _) | (with_reducible refine Kd.C_drewN ?_ _) | (with_reducible refine Kd.C_drew ?_)))
            (case side2 => exact (Kd.R_reads' HO169.out).2.1)
            (case side3 => repeat (first | exact (Kd.R_reads' HO169.out).2.2 | (with_reducible refine Kd.C_alloc ?_ _) | (with_reducible refine Kd.C_drewN ?_ _) | (with_reducible refine Kd.C_drew ?_)))
            (case side4 => exact (Kd.R_reads' HO169.out).2.1)
            rintro e w40 ⟨v171, rfl, ho0, hb⟩
            refine ⟨_, rfl, ?_⟩
            have n0_ := Aside0.mk (Kd.R_elder' (by (with_reducible repeat (first | apply Kd.R_alloc | apply Kd.R_drewN | apply Kd.R_drew)); exact HO166.out) (Kd.R_base ho0) hb)
            have n1_ := Aside0.mk (Kd.R_elder' (by (with_reducible repeat (first | apply Kd.R_alloc | apply Kd.R_drewN | apply Kd.R_drew)); exact HO169.out) (Kd.R_base ho0) hb)
            have n2_ := Aside0.mk (Kd.R_elder' (by (with_reducible repeat (first | apply Kd.R_alloc | apply Kd.R_drewN | apply Kd.R_drew)); exact HO175.out) (Kd.R_base ho0) hb)
            have n3_ := Aside0.mk (Kd.R_lower (Kd.R_new' (Kd.R_new' (Kd.R_new' ho0 (Kd.R_lt (by (with_reducible repeat (first | apply Kd.R_alloc | apply Kd.R_drewN | apply Kd.R_drew)); exact HO166.out))) (Kd.R_lt (by (with_reducible repeat (first | apply Kd.R_alloc | apply Kd.R_drewN | apply Kd.R_drew)); exact HO169.out))) (Kd.R_lt (by (with_reducible repeat (first | apply Kd.R_alloc | apply Kd.R_drewN | apply Kd.R_drew)); exact HO175.out))) (below_size (by repeat (first | (with_reducible first | exact HB.out | apply below_alloc | apply pw_below_drewN | apply below_drew1 | refine below_set ?_ GE157.out | refine below_set ?_ GE158.out) | exact HB.out))))
            have n4_ := Aside0.mk (blk_below (g := gb157) (o := .cells #[.bool a1_0, .string a1_1, .int .i64 a1_2] 23 (0, 0)) (by (with_reducible repeat (first | refine blk_drewN ?_ _ | refine blk_drew ?_ | refine blk_alloc ?_ _)); exact BK157.out) hb)
            have n5_ := Aside0.mk (blk_below (g := gb158) (o := .cells #[.bool false, .string (⟨#[]⟩ : ByteArray), .int .i64 0] 23 (0, 0)) (by (with_reducible repeat (first | refine blk_drewN ?_ _ | refine blk_drew ?_ | refine blk_alloc ?_ _)); exact BK158.out) hb)
            have n6_ := Aside0.mk (below_step (by repeat (first | (with_reducible first | exact HB.out | apply below_alloc | apply pw_below_drewN | apply below_drew1 | refine below_set ?_ GE157.out | refine below_set ?_ GE158.out) | exact HB.out)) hb)
            clear HO166
            clear HO169
            clear HO175
            clear BK157
            clear BK158
            clear HB
            have HO166 := n0_
            have HO169 := n1_
            have HO175 := n2_
            have HO172 := n3_
            have BK157 := n4_
            have BK158 := n5_
            have HB := n6_
            clear n0_ n1_ n2_ n3_ n4_ n5_ n6_
            (try clear hb)
            (try clear hb2)
            (try clear hk)
            (try clear hi)
            (try clear ho0)
            refine hK.out _ _ ⟨(blk_cell BK157.out 0).trans rfl, (blk_cell BK157.out 1).trans rfl, (blk_cell BK157.out 2).trans rfl⟩ (fun hHeld => ?_)
            clear hK K
            refine norm_ (a' := ?_) ?_ ?_
            rotate_left
            · show Act.put _ (some 34) _ = _
              simp only [Act.put, List.setIfInBounds_toArray, List.set_cons_zero, List.set_cons_succ]; (try simp only [i64_w]); (try simp only [i32_w])
              rfl
            exact norm_ (by simp only [putAll, Act.put, List.setIfInBounds_toArray, List.set_cons_zero, List.set_cons_succ]) (hCont (v171, v174) _ ⟨hHeld, (by (with_reducible repeat (first | apply Kd.R_alloc | apply Kd.R_drewN | apply Kd.R_drew)); exact Kd.R_mono HO166.out (fun _ hk => ⟨hk.1.1, ⟨hk.2, hk.1.2⟩⟩)), (by (with_reducible repeat (first | apply Kd.R_alloc | apply Kd.R_drewN | apply Kd.R_drew)); exact Kd.R_mono HO169.out (fun _ hk => ⟨hk.1.1, ⟨hk.2, hk.1.2⟩⟩)), (by (with_reducible repeat (first | apply Kd.R_alloc | apply Kd.R_drewN | apply Kd.R_drew)); exact Kd.R_mono HO172.out (fun _ hk => ⟨hk.1.1.2, ⟨hk.1.2, hk.2⟩⟩)), (by (with_reducible repeat (first | apply Kd.R_alloc | apply Kd.R_drewN | apply Kd.R_drew)); exact Kd.R_mono HO175.out (fun _ hk => ⟨hk.1.1.2, ⟨hk.1.2, hk.2⟩⟩)), (by (with_reducible repeat (first | refine blk_drewN ?_ _ | refine blk_drew ?_ | refine blk_alloc ?_ _)); exact BK157.out), (by (with_reducible repeat (first | refine blk_drewN ?_ _ | refine blk_drew ?_ | refine blk_alloc ?_ _)); exact BK158.out), (by repeat (first | (with_reducible first | exact HB.out | apply below_alloc | apply pw_below_drewN | apply below_drew1 | refine below_set ?_ GE157.out | refine below_set ?_ GE158.out) | exact HB.out))⟩)
        rintro ⟨v171, v174⟩ w41 ⟨hS_, h0_, h1_, h2_, h3_, h4_, h5_, h6_⟩
        have n0_ : Aside0 (Kd.R (Kd.int .u32) 50 w41 w.heap.size (fun k_ => some k_ ≠ (.slice Ao36 t167.length co36 : Value).ownBlock ∧ some k_ ≠ (v171 : Value).ownBlock ∧ some k_ ≠ (v174 : Value).ownBlock) v165 t164) := ⟨h0_⟩
        have n1_ : Aside0 (Kd.R (Kd.int .u32) 50 w41 w.heap.size (fun k_ => some k_ ≠ (v165 : Value).ownBlock ∧ some k_ ≠ (v171 : Value).ownBlock ∧ some k_ ≠ (v174 : Value).ownBlock) (.slice Ao36 t167.length co36) t167) := ⟨h1_⟩
        have n2_ : Aside0 (Kd.R (Kd.int .u32) 50 w41 w.heap.size (fun k_ => some k_ ≠ (v165 : Value).ownBlock ∧ some k_ ≠ (.slice Ao36 t167.length co36 : Value).ownBlock ∧ some k_ ≠ (v174 : Value).ownBlock) v171 t170) := ⟨h2_⟩
        have n3_ : Aside0 (Kd.R (Kd.int .u32) 50 w41 w.heap.size (fun k_ => some k_ ≠ (v165 : Value).ownBlock ∧ some k_ ≠ (.slice Ao36 t167.length co36 : Value).ownBlock ∧ some k_ ≠ (v171 : Value).ownBlock) v174 y173) := ⟨h3_⟩
        have n4_ : Aside0 (w41.heap[gb157]? = some (.cells #[.bool a1_0, .string a1_1, .int .i64 a1_2] 23 (0, 0))) := ⟨h4_⟩
        have n5_ : Aside0 (w41.heap[gb158]? = some (.cells #[.bool false, .string (⟨#[]⟩ : ByteArray), .int .i64 0] 23 (0, 0))) := ⟨h5_⟩
        have n6_ : Aside0 (Below w.heap.size w w41) := ⟨h6_⟩
        clear HO166
        clear HO169
        clear BK157
        clear BK158
        clear HB
        clear h0_ h1_ h2_ h3_ h4_ h5_ h6_
        have HO166 := n0_
        have HO169 := n1_
        have HO172 := n2_
        have HO175 := n3_
        have BK157 := n4_
        have BK158 := n5_
        have HB := n6_
        clear n0_ n1_ n2_ n3_ n4_ n5_ n6_
        have hHeld : w41.cell? ⟨gb157, 0, none⟩ = some (.bool a1_0) ∧ w41.cell? ⟨gb157, 1, none⟩ = some (.string a1_1) ∧ w41.cell? ⟨gb157, 2, none⟩ = some (.int .i64 a1_2) := hS_
        obtain ⟨Ao42, co42, eo42⟩ := Kd.R_slice HO175.out
        (first | subst eo42 | (injection eo42 with f1_ f2_ f3_; have f4_ := f1_.symm; have f5_ := f3_.symm; clear f1_ f2_ f3_; subst f4_; subst f5_))
        refine norm_ (a' := ?_) ?_ ?_
        rotate_left
        · simp only [putAll, Act.put, List.setIfInBounds_toArray, List.set_cons_zero, List.set_cons_succ]
          rfl
        refine one_ (i := 8) (N := some 40) #[true, true, true, true, true, true, true, true, true, false, false] rfl rfl (one_of HT_.out (by kernel_rfl)) (by decide) (fun K hK => ?_)
        refine goes_ Tryd.func35 (by kernel_rfl) rfl #[.slice Ao42 y173.length co42, .int .i64 (wrap64 (a2 - a1_2))] (by rfl) rfl rfl (by (try simp only [List.map_toArray]); (try simp only [List.map_cons]); (try simp only [List.map_nil]); first | done | rfl | (simp only [List.length_drop, List.length_take]; rfl)) ?_
        with_reducible refine (ten_Shift.calls _ _ y173 (wrap64 (a2 - a1_2)) t176 _ ?side1 ?side2 ?side3 A26.out).mono ?_
        (case side1 => exact Fig.Glob.below HG.out (by repeat (first | (with_reducible first | exact HB.out | apply below_alloc | apply pw_below_drewN | apply below_drew1 | refine below_set ?_ GE157.out | refine below_set ?_ GE158.out) | exact HB.out)))
        (case side2 => repeat (first | exact (Kd.R_reads' HO175.out).2.2 | (with_reducible refine Kd.C_alloc ?_ _) | (with_reducible refine Kd.C_drewN ?_ _) | (with_reducible refine Kd.C_drew ?_)))
        (case side3 => exact (Kd.R_reads' HO175.out).2.1)
        rintro e w43 ⟨v177, rfl, ho0, hb⟩
        refine ⟨_, rfl, ?_⟩
        have n0_ := Aside0.mk (Kd.R_elder' (by (with_reducible repeat (first | apply Kd.R_alloc | apply Kd.R_drewN | apply Kd.R_drew)); exact HO166.out) (Kd.R_base ho0) hb)
        have n1_ := Aside0.mk (Kd.R_elder' (by (with_reducible repeat (first | apply Kd.R_alloc | apply Kd.R_drewN | apply Kd.R_drew)); exact HO169.out) (Kd.R_base ho0) hb)
        have n2_ := Aside0.mk (Kd.R_elder' (by (with_reducible repeat (first | apply Kd.R_alloc | apply Kd.R_drewN | apply Kd.R_drew)); exact HO172.out) (Kd.R_base ho0) hb)
        have n3_ := Aside0.mk (Kd.R_elder' (by (with_reducible repeat (first | apply Kd.R_alloc | apply Kd.R_drewN | apply Kd.R_drew)); exact HO175.out) (Kd.R_base ho0) hb)
        have n4_ := Aside0.mk (Kd.R_lower (Kd.R_new' (Kd.R_new' (Kd.R_new' (Kd.R_new' ho0 (Kd.R_lt (by (with_reducible repeat (first | apply Kd.R_alloc | apply Kd.R_drewN | apply Kd.R_drew)); exact HO166.out))) (Kd.R_lt (by (with_reducible repeat (first | apply Kd.R_alloc | apply Kd.R_drewN | apply Kd.R_drew)); exact HO169.out))) (Kd.R_lt (by (with_reducible repeat (first | apply Kd.R_alloc | apply Kd.R_drewN | apply Kd.R_drew)); exact HO172.out))) (Kd.R_lt (by (with_reducible repeat (first | apply Kd.R_alloc | apply Kd.R_drewN | apply Kd.R_drew)); exact HO175.out))) (below_size (by repeat (first | (with_reducible first | exact HB.out | apply below_alloc | apply pw_below_drewN | apply below_drew1 | refine below_set ?_ GE157.out | refine below_set ?_ GE158.out) | exact HB.out))))
        have n5_ := Aside0.mk (blk_below (g := gb157) (o := .cells #[.bool a1_0, .string a1_1, .int .i64 a1_2] 23 (0, 0)) (by (with_reducible repeat (first | refine blk_drewN ?_ _ | refine blk_drew ?_ | refine blk_alloc ?_ _)); exact BK157.out) hb)
        have n6_ := Aside0.mk (blk_below (g := gb158) (o := .cells #[.bool false, .string (⟨#[]⟩ : ByteArray), .int .i64 0] 23 (0, 0)) (by (with_reducible repeat (first | refine blk_drewN ?_ _ | refine blk_drew ?_ | refine blk_alloc ?_ _)); exact BK158.out) hb)
        have n7_ := Aside0.mk (below_step (by repeat (first | (with_reducible first | exact HB.out | apply below_alloc | apply pw_below_drewN | apply below_drew1 | refine below_set ?_ GE157.out | refine below_set ?_ GE158.out) | exact HB.out)) hb)
        clear HO166
        clear HO169
        clear HO172
        clear HO175
        clear BK157
        clear BK158
        clear HB
        have HO166 := n0_
        have HO169 := n1_
        have HO172 := n2_
        have HO175 := n3_
        have HO178 := n4_
        have BK157 := n5_
        have BK158 := n6_
        have HB := n7_
        clear n0_ n1_ n2_ n3_ n4_ n5_ n6_ n7_
        (try clear hb)
        (try clear hb2)
        (try clear hk)
        (try clear hi)
        (try clear ho0)
        obtain ⟨Ao44, co44, eo44⟩ := Kd.R_slice HO172.out
        (first | subst eo44 | (injection eo44 with f1_ f2_ f3_; have f4_ := f1_.symm; have f5_ := f3_.symm; clear f1_ f2_ f3_; subst f4_; subst f5_))
        obtain ⟨Ao45, co45, eo45⟩ := Kd.R_slice HO178.out
        (first | subst eo45 | (injection eo45 with f1_ f2_ f3_; have f4_ := f1_.symm; have f5_ := f3_.symm; clear f1_ f2_ f3_; subst f4_; subst f5_))
        refine hK.out _ _ ⟨(blk_cell BK157.out 0).trans rfl, (blk_cell BK157.out 1).trans rfl, (blk_cell BK157.out 2).trans rfl⟩ (fun hHeld => ?_)
        clear hK K
        refine norm_ (a' := ?_) ?_ ?_
        rotate_left
        · show Act.put _ (some 40) _ = _
          simp only [Act.put, List.setIfInBounds_toArray, List.set_cons_zero, List.set_cons_succ]; (try simp only [i64_w]); (try simp only [i32_w])
          rfl
        refine one_ (i := 9) (N := some 41) #[true, true, true, true, true, true, true, true, true, true, false] rfl rfl (one_of HT_.out (by kernel_rfl)) (by decide) (fun K hK => ?_)
        refine goes_ Tryd.func33 (by kernel_rfl) rfl #[.slice Ao44 t170.length co44, .slice Ao45 t176.length co45] (by rfl) rfl rfl (by (try simp only [List.map_toArray]); (try simp only [List.map_cons]); (try simp only [List.map_nil]); first | done | rfl | (simp only [List.length_drop, List.length_take]; rfl)) ?_
        with_reducible refine (nat_Cmp.calls _ _ t170 _ _ t176 t179 _ ?side1 ?side2 ?side3 ?side4 A27.out).mono ?_
        (case side1 => repeat (first | exact (Kd.R_reads' HO172.out).2.2 | (with_reducible refine Kd.C_alloc ?_ _) | (with_reducible refine Kd.C_drewN ?_ _) | (with_reducible refine Kd.C_drew ?_)))
        (case side2 => exact (Kd.R_reads' HO172.out).2.1)
        (case side3 => repeat (first | exact (Kd.R_reads' HO178.out).2.2 | (with_reducible refine Kd.C_alloc ?_ _) | (with_reducible refine Kd.C_drewN ?_ _) | (with_reducible refine Kd.C_drew ?_)))
        (case side4 => exact (Kd.R_reads' HO178.out).2.1)
        rintro e w' ⟨rfl, ⟨nd, rfl⟩⟩
        refine ⟨_, rfl, ?_⟩
        refine hK.out _ _ ⟨(blk_cell BK157.out 0).trans rfl, (blk_cell BK157.out 1).trans rfl, (blk_cell BK157.out 2).trans rfl⟩ (fun hHeld => ?_)
        clear hK K
        refine norm_ (a' := ?_) ?_ ?_
        rotate_left
        · show Act.put _ (some 41) _ = _
          simp only [Act.put, List.setIfInBounds_toArray, List.set_cons_zero, List.set_cons_succ]; (try simp only [i64_w]); (try simp only [i32_w])
          rfl
        refine pure_ (i := 10) (N := some 10) (v := ?_) (a' := ?_) #[true, true, true, true, true, true, true, true, true, true, true] rfl rfl (any_of HT_.out (by kernel_rfl)) (fun _ _ _ h => h) (Or.inl ⟨by rfl, ?_⟩) ?_ ?_
        rotate_left
        · intro w'
          go_simp
          with_reducible rfl
        rotate_left
        · simp only [Act.put, List.setIfInBounds_toArray, List.set_cons_zero, List.set_cons_succ]; (try simp only [i64_w]); (try simp only [i32_w])
          rfl
        refine done_ (done_of HT_.out (by kernel_rfl)) ?_
        go_upto_region 9 with (fail)
        go_cut [56] (fun v56 wc => ∃ (kq : Nat) (x56_27 : Bool), v56 = .bool x56_27 ∧ Aside0 (place_Round.j0 kq a2 t164 x56_27 a1_0 a1_1 a1_2 = some (r1, r2, r3, r4)) ∧ Aside0 (kq ≤ k) ∧ Aside0 (Kd.R (Kd.int .u32) 50 wc w.heap.size (fun _ => True) v165 t164) ∧ Aside0 (wc.heap[gb157]? = some (.cells #[.bool a1_0, .string a1_1, .int .i64 a1_2] 23 (0, 0))) ∧ Aside0 (wc.heap[gb158]? = some (.cells #[.bool false, .string (⟨#[]⟩ : ByteArray), .int .i64 0] 23 (0, 0))) ∧ Aside0 (Below w.heap.size w wc))
        case first =>
          have H := HC28.out
          clear HC28
          by_cases c46 : (t164.length : Int) > 0
          · rw [if_pos c46] at H
            have c46b0 : decide (0 < (t164.length : Int)) = true := decide_eq_true c46
            have c46b1 : decide (0 < t164.length) = true := decide_eq_true (by omega)
            clear c46
            (first | rw [c46b0] | (simp only [i64_w, i32_w]; rw [c46b0]) | skip)
            by_cases c47 : 0 < (t164.length : Int)
            · rw [if_pos c47] at H
              have c47b0 : decide (0 < (t164.length : Int)) = true := decide_eq_true c47
              have c47b1 : decide (0 < t164.length) = true := decide_eq_true (by omega)
              clear c47
              replace H := Option.bind_eq_some_iff.mp H
              obtain ⟨t181, A480, H⟩ := H
              replace H : (place_Round.j0 k a2 t164 t181 a1_0 a1_1 a1_2) = some (r1, r2, r3, r4) := H
              have A48 := Aside0.mk A480
              clear A480
              have H' := Aside0.mk H
              clear H
              try go_wp2
              (try (rw [drewN_self w43]; generalize hq_ : World.drewN w43 _ = w43; have n0_ : Aside0 (Kd.R (Kd.int .u32) 50 w43 w.heap.size (fun k_ => some k_ ≠ (.slice Ao36 t167.length co36 : Value).ownBlock ∧ some k_ ≠ (.slice Ao44 t170.length co44 : Value).ownBlock ∧ some k_ ≠ (.slice Ao42 y173.length co42 : Value).ownBlock ∧ some k_ ≠ (.slice Ao45 t176.length co45 : Value).ownBlock) v165 t164) := ⟨by rw [← hq_]; exact (by (with_reducible repeat (first | apply Kd.R_alloc | apply Kd.R_drewN | apply Kd.R_drew)); exact Kd.R_mono HO166.out (fun _ hk => ⟨hk.1.1, ⟨hk.1.2.1, ⟨hk.1.2.2, hk.2⟩⟩⟩))⟩; have n1_ : Aside0 (Kd.R (Kd.int .u32) 50 w43 w.heap.size (fun k_ => some k_ ≠ (v165 : Value).ownBlock ∧ some k_ ≠ (.slice Ao44 t170.length co44 : Value).ownBlock ∧ some k_ ≠ (.slice Ao42 y173.length co42 : Value).ownBlock ∧ some k_ ≠ (.slice Ao45 t176.length co45 : Value).ownBlock) (.slice Ao36 t167.length co36) t167) := ⟨by rw [← hq_]; exact (by (with_reducible repeat (first | apply Kd.R_alloc | apply Kd.R_drewN | apply Kd.R_drew)); exact Kd.R_mono HO169.out (fun _ hk => ⟨hk.1.1, ⟨hk.1.2.1, ⟨hk.1.2.2, hk.2⟩⟩⟩))⟩; have n2_ : Aside0 (Kd.R (Kd.int .u32) 50 w43 w.heap.size (fun k_ => some k_ ≠ (v165 : Value).ownBlock ∧ some k_ ≠ (.slice Ao36 t167.length co36 : Value).ownBlock ∧ some k_ ≠ (.slice Ao42 y173.length co42 : Value).ownBlock ∧ some k_ ≠ (.slice Ao45 t176.length co45 : Value).ownBlock) (.slice Ao44 t170.length co44) t170) := ⟨by rw [← hq_]; exact (by (with_reducible repeat (first | apply Kd.R_alloc | apply Kd.R_drewN | apply Kd.R_drew)); exact Kd.R_mono HO172.out (fun _ hk => ⟨hk.1.1, ⟨hk.1.2.1, ⟨hk.1.2.2, hk.2⟩⟩⟩))⟩; have n3_ : Aside0 (Kd.R (Kd.int .u32) 50 w43 w.heap.size (fun k_ => some k_ ≠ (v165 : Value).ownBlock ∧ some k_ ≠ (.slice Ao36 t167.length co36 : Value).ownBlock ∧ some k_ ≠ (.slice Ao44 t170.length co44 : Value).ownBlock ∧ some k_ ≠ (.slice Ao45 t176.length co45 : Value).ownBlock) (.slice Ao42 y173.length co42) y173) := ⟨by rw [← hq_]; exact (by (with_reducible repeat (first | apply Kd.R_alloc | apply Kd.R_drewN | apply Kd.R_drew)); exact Kd.R_mono HO175.out (fun _ hk => ⟨hk.1.1, ⟨hk.1.2.1, ⟨hk.1.2.2, hk.2⟩⟩⟩))⟩; have n4_ : Aside0 (Kd.R (Kd.int .u32) 50 w43 w.heap.size (fun k_ => some k_ ≠ (v165 : Value).ownBlock ∧ some k_ ≠ (.slice Ao36 t167.length co36 : Value).ownBlock ∧ some k_ ≠ (.slice Ao44 t170.length co44 : Value).ownBlock ∧ some k_ ≠ (.slice Ao42 y173.length co42 : Value).ownBlock) (.slice Ao45 t176.length co45) t176) := ⟨by rw [← hq_]; exact (by (with_reducible repeat (first | apply Kd.R_alloc | apply Kd.R_drewN | apply Kd.R_drew)); exact Kd.R_mono HO178.out (fun _ hk => ⟨hk.1.1.1.2, ⟨hk.1.1.2, ⟨hk.1.2, hk.2⟩⟩⟩))⟩; have n5_ : Aside0 (w43.heap[gb157]? = some (.cells #[.bool a1_0, .string a1_1, .int .i64 a1_2] 23 (0, 0))) := ⟨by rw [← hq_]; exact (by (with_reducible repeat (first | refine blk_drewN ?_ _ | refine blk_drew ?_ | refine blk_alloc ?_ _)); exact BK157.out)⟩; have n6_ : Aside0 (w43.heap[gb158]? = some (.cells #[.bool false, .string (⟨#[]⟩ : ByteArray), .int .i64 0] 23 (0, 0))) := ⟨by rw [← hq_]; exact (by (with_reducible repeat (first | refine blk_drewN ?_ _ | refine blk_drew ?_ | refine blk_alloc ?_ _)); exact BK158.out)⟩; have n7_ : Aside0 (Below w.heap.size w w43) := ⟨by rw [← hq_]; exact (by repeat (first | (with_reducible first | exact HB.out | apply below_alloc | apply pw_below_drewN | apply below_drew1 | refine below_set ?_ GE157.out | refine below_set ?_ GE158.out) | exact HB.out))⟩; clear HO166 HO169 HO172 HO175 HO178 BK157 BK158 HB hq_; have HO166 := n0_; have HO169 := n1_; have HO172 := n2_; have HO175 := n3_; have HO178 := n4_; have BK157 := n5_; have BK158 := n6_; have HB := n7_; clear n0_ n1_ n2_ n3_ n4_ n5_ n6_ n7_))
              have n0_ := Aside0.mk (Kd.R_drew HO166.out)
              have n1_ := Aside0.mk (Kd.R_drew HO169.out)
              have n2_ := Aside0.mk (Kd.R_drew HO172.out)
              have n3_ := Aside0.mk (Kd.R_drew HO175.out)
              have n4_ := Aside0.mk (Kd.R_drew HO178.out)
              have n5_ := Aside0.mk (blk_drew BK157.out)
              have n6_ := Aside0.mk (blk_drew BK158.out)
              have n7_ := Aside0.mk (below_drew1 HB.out)
              clear HO166
              clear HO169
              clear HO172
              clear HO175
              clear HO178
              clear BK157
              clear BK158
              clear HB
              have HO166 := n0_
              have HO169 := n1_
              have HO172 := n2_
              have HO175 := n3_
              have HO178 := n4_
              have BK157 := n5_
              have BK158 := n6_
              have HB := n7_
              clear n0_ n1_ n2_ n3_ n4_ n5_ n6_ n7_
              obtain ⟨Ao50, co50, eo50⟩ := Kd.R_slice HO166.out
              (first | subst eo50 | (injection eo50 with f1_ f2_ f3_; have f4_ := f1_.symm; have f5_ := f3_.symm; clear f1_ f2_ f3_; subst f4_; subst f5_))
              have p180 : 0 ≤ (0 : Int) := (by omega)
              have q180 : 0 < (t164.length : Int) := of_decide_eq_true (by first | (with_reducible assumption) | assumption)
              obtain ⟨ad180, e180, hx180_0⟩ := Kd.at_int (Kd.R_reads' HO166.out).2.2 0 p180 q180
              cases e180
              have qi180 : (0 < t164.length) = True := eq_true (by omega)
              (try rw [show ((0 : Int)).toNat = 0 from rfl] at hx180_0)
              (try rw [Addr.add_zero'] at hx180_0)
              replace p180 := eq_true p180
              replace q180 := eq_true q180
              refine start_ (n := 15) (S := fun w' => w'.cell? ⟨gb157, 0, none⟩ = some (.bool a1_0) ∧ w'.cell? ⟨gb157, 1, none⟩ = some (.string a1_1) ∧ w'.cell? ⟨gb157, 2, none⟩ = some (.int .i64 a1_2) ∧ w'.cell? ad180 = some (.int .u32 (rd t164 0))) (ds := []) #[false, false, false, false, false, false, false, false, false, false, false, false, false, false, false] (by kernel_rfl) rfl rfl ⟨(blk_cell BK157.out 0).trans rfl, (blk_cell BK157.out 1).trans rfl, (blk_cell BK157.out 2).trans rfl, hx180_0⟩ (fun hHeld => ?_); refine with_tabW place_Round.tab9 place_Round.bits9 (fun HT_ HW_ => ?_)
              generalize w43.drew = w49 at HO166 HO169 HO172 HO175 HO178 BK157 BK158 HB hx180_0 hHeld ⊢
              refine pure_ (i := 0) (N := some 42) (v := ?_) (a' := ?_) #[true, false, false, false, false, false, false, false, false, false, false, false, false, false, false] rfl rfl (any_of HT_.out (by kernel_rfl)) (fun _ _ _ h => h) (Or.inl ⟨by rfl, ?_⟩) ?_ ?_
              rotate_left
              · intro w'
                go_simp
                with_reducible rfl
              rotate_left
              · simp only [Act.put, List.setIfInBounds_toArray, List.set_cons_zero, List.set_cons_succ]; (try simp only [i64_w]); (try simp only [i32_w])
                rfl
              refine pure_ (i := 1) (N := some 43) (v := ?_) (a' := ?_) #[true, true, false, false, false, false, false, false, false, false, false, false, false, false, false] rfl rfl (any_of HT_.out (by kernel_rfl)) (fun _ _ _ h => h) (Or.inl ⟨by rfl, ?_⟩) ?_ ?_
              rotate_left
              · intro w'
                go_simp
                with_reducible rfl
              rotate_left
              · simp only [Act.put, List.setIfInBounds_toArray, List.set_cons_zero, List.set_cons_succ]; (try simp only [i64_w]); (try simp only [i32_w])
                rfl
              refine pure_ (i := 3) (N := some 45) (v := ?_) (a' := ?_) #[true, true, false, true, false, false, false, false, false, false, false, false, false, false, false] rfl rfl (any_of HT_.out (by kernel_rfl)) (fun _ _ _ h => h) (Or.inl ⟨by rfl, ?_⟩) ?_ ?_
              rotate_left
              · intro w'
                go_simp
                with_reducible rfl
              rotate_left
              · simp only [Act.put, List.setIfInBounds_toArray, List.set_cons_zero, List.set_cons_succ]; (try simp only [i64_w]); (try simp only [i32_w])
                rfl
              refine pure_ (i := 4) (N := some 46) (v := ?_) (a' := ?_) #[true, true, false, true, true, false, false, false, false, false, false, false, false, false, false] rfl rfl (any_of HT_.out (by kernel_rfl)) (fun _ _ _ h => h) (Or.inl ⟨by rfl, ?_⟩) ?_ ?_
              rotate_left
              · intro w'
                go_simp
                with_reducible rfl
              rotate_left
              · simp only [Act.put, List.setIfInBounds_toArray, List.set_cons_zero, List.set_cons_succ]; (try simp only [i64_w]); (try simp only [i32_w])
                rfl
              refine pure_ (i := 5) (N := some 47) (v := ?_) (a' := ?_) #[true, true, false, true, true, true, false, false, false, false, false, false, false, false, false] rfl rfl (any_of HT_.out (by kernel_rfl)) (fun _ _ _ h => h) (Or.inl ⟨by rfl, ?_⟩) ?_ ?_
              rotate_left
              · intro w'
                go_simp
                with_reducible rfl
              rotate_left
              · simp only [Act.put, List.setIfInBounds_toArray, List.set_cons_zero, List.set_cons_succ]; (try simp only [i64_w]); (try simp only [i32_w])
                rfl
              refine pure_ (i := 6) (N := some 48) (v := ?_) (a' := ?_) #[true, true, false, true, true, true, true, false, false, false, false, false, false, false, false] rfl rfl (any_of HT_.out (by kernel_rfl)) (fun _ _ _ h => h) (Or.inl ⟨by rfl, ?_⟩) ?_ ?_
              rotate_left
              · intro w'
                go_simp
                with_reducible rfl
              rotate_left
              · simp only [Act.put, List.setIfInBounds_toArray, List.set_cons_zero, List.set_cons_succ]; (try simp only [i64_w]); (try simp only [i32_w])
                rfl
              refine pure_ (i := 7) (N := some 49) (v := ?_) (a' := ?_) #[true, true, false, true, true, true, true, true, false, false, false, false, false, false, false] rfl rfl (any_of HT_.out (by kernel_rfl)) (fun _ _ _ h => h) (Or.inl ⟨by rfl, ?_⟩) ?_ ?_
              rotate_left
              · intro w'
                go_simp
                with_reducible rfl
              rotate_left
              · simp only [Act.put, List.setIfInBounds_toArray, List.set_cons_zero, List.set_cons_succ]; (try simp only [i64_w]); (try simp only [i32_w])
                rfl
              refine pure_ (i := 8) (N := some 50) (v := ?_) (a' := ?_) #[true, true, false, true, true, true, true, true, true, false, false, false, false, false, false] rfl rfl (any_of HT_.out (by kernel_rfl)) (fun _ _ _ h => h) (Or.inl ⟨by rfl, ?_⟩) ?_ ?_
              rotate_left
              · intro w'
                go_simp
                with_reducible rfl
              rotate_left
              · simp only [Act.put, List.setIfInBounds_toArray, List.set_cons_zero, List.set_cons_succ]; (try simp only [i64_w]); (try simp only [i32_w])
                rfl
              refine pure_ (i := 13) (N := some 55) (v := ?_) (a' := ?_) #[true, true, false, true, true, true, true, true, true, false, false, false, false, true, false] rfl rfl (any_of HT_.out (by kernel_rfl)) (fun _ _ _ h => h) (Or.inl ⟨by rfl, ?_⟩) ?_ ?_
              rotate_left
              · intro w'
                go_simp
                with_reducible rfl
              rotate_left
              · simp only [Act.put, List.setIfInBounds_toArray, List.set_cons_zero, List.set_cons_succ]; (try simp only [i64_w]); (try simp only [i32_w])
                rfl
              refine take_ (i := 2) (N := some 44) (v := ?_) (a' := ?_) #[true, true, true, true, true, true, true, true, true, false, false, false, false, true, false] rfl rfl (take_ofW HT_.out HW_.out (by kernel_rfl)) (fun _ _ _ h => h) (Or.inl ⟨by rfl, ?_⟩) hHeld ?_ ?_
              rotate_left
              · rintro w' ⟨s0, s1, s2, s3⟩
                go_simp
                with_reducible rfl
              rotate_left
              · simp only [Act.put, List.setIfInBounds_toArray, List.set_cons_zero, List.set_cons_succ]; (try simp only [i64_w]); (try simp only [i32_w])
                rfl
              refine take_ (i := 9) (N := some 51) (v := ?_) (a' := ?_) #[true, true, true, true, true, true, true, true, true, true, false, false, false, true, false] rfl rfl (take_ofW HT_.out HW_.out (by kernel_rfl)) (fun _ _ _ h => h) (Or.inl ⟨by rfl, ?_⟩) hHeld ?_ ?_
              rotate_left
              · rintro w' ⟨s0, s1, s2, s3⟩
                go_simp
                with_reducible rfl
              rotate_left
              · simp only [Act.put, List.setIfInBounds_toArray, List.set_cons_zero, List.set_cons_succ]; (try simp only [i64_w]); (try simp only [i32_w])
                rfl
              refine pure_ (i := 10) (N := some 52) (v := ?_) (a' := ?_) #[true, true, true, true, true, true, true, true, true, true, true, false, false, true, false] rfl rfl (any_of HT_.out (by kernel_rfl)) (fun _ _ _ h => h) (Or.inl ⟨by rfl, ?_⟩) ?_ ?_
              rotate_left
              · intro w'
                go_simp
                with_reducible rfl
              rotate_left
              · simp only [Act.put, List.setIfInBounds_toArray, List.set_cons_zero, List.set_cons_succ]; (try simp only [i64_w]); (try simp only [i32_w])
                rfl
              refine pure_ (i := 11) (N := some 53) (v := ?_) (a' := ?_) #[true, true, true, true, true, true, true, true, true, true, true, true, false, true, false] rfl rfl (any_of HT_.out (by kernel_rfl)) (fun _ _ _ h => h) (Or.inl ⟨by rfl, ?_⟩) ?_ ?_
              rotate_left
              · intro w'
                go_simp
                with_reducible rfl
              rotate_left
              · simp only [Act.put, List.setIfInBounds_toArray, List.set_cons_zero, List.set_cons_succ]; (try simp only [i64_w]); (try simp only [i32_w])
                rfl
              refine pure_ (i := 12) (N := some 54) (v := ?_) (a' := ?_) #[true, true, true, true, true, true, true, true, true, true, true, true, true, true, false] rfl rfl (any_of HT_.out (by kernel_rfl)) (fun _ _ _ h => h) (Or.inl ⟨by rfl, ?_⟩) ?_ ?_
              rotate_left
              · intro w'
                go_simp
                with_reducible rfl
              rotate_left
              · simp only [Act.put, List.setIfInBounds_toArray, List.set_cons_zero, List.set_cons_succ]; (try simp only [i64_w]); (try simp only [i32_w])
                rfl
              refine one_ (i := 14) (N := some 56) #[true, true, true, true, true, true, true, true, true, true, true, true, true, true, true] rfl rfl (one_of HT_.out (by kernel_rfl)) (by decide) (fun K hK => ?_)
              refine goes_ Tryd.func36 (by kernel_rfl) rfl #[.int .i64 a0, .bool a1_0, .bool ((Int.tmod (rd t164 0) 2) == 1), .int .i64 t179] (by rfl) rfl rfl (by (try simp only [List.map_toArray]); (try simp only [List.map_cons]); (try simp only [List.map_nil]); first | done | rfl | (simp only [List.length_drop, List.length_take]; rfl)) ?_
              with_reducible refine (mode_Away.calls a0 a1_0 ((Int.tmod (rd t164 0) 2) == 1) t179 t181 _ ?side1 A48.out).mono ?_
              (case side1 => exact Fig.Glob.below HG.out (by repeat (first | (with_reducible first | exact HB.out | apply below_alloc | apply pw_below_drewN | apply below_drew1 | refine below_set ?_ GE157.out | refine below_set ?_ GE158.out) | exact HB.out)))
              rintro e w' ⟨rfl, ⟨nd, rfl⟩⟩
              refine ⟨_, rfl, ?_⟩
              refine hK.out _ _ ⟨(blk_cell BK157.out 0).trans rfl, (blk_cell BK157.out 1).trans rfl, (blk_cell BK157.out 2).trans rfl, hHeld.2.2.2⟩ (fun hHeld => ?_)
              clear hK K
              refine norm_ (a' := ?_) ?_ ?_
              rotate_left
              · show Act.put _ (some 56) _ = _
                simp only [Act.put, List.setIfInBounds_toArray, List.set_cons_zero, List.set_cons_succ]; (try simp only [i64_w]); (try simp only [i32_w])
                rfl
              refine done_ (done_of HT_.out (by kernel_rfl)) ?_
              try go_wp2
              go_meet
              case rel => exact ⟨_, (t181), (by first | rfl | (simp; done) | (simp [*]; done) | (simp [*, Fig.bne_nil]; done)), H', ⟨by first | omega | exact Nat.le_refl _⟩, ⟨by (with_reducible repeat (first | apply Kd.R_alloc | apply Kd.R_drewN | apply Kd.R_drew)); exact Kd.R_mono HO166.out (fun _ hk => trivial)⟩, ⟨by (with_reducible repeat (first | refine blk_drewN ?_ _ | refine blk_drew ?_ | refine blk_alloc ?_ _)); exact BK157.out⟩, ⟨by (with_reducible repeat (first | refine blk_drewN ?_ _ | refine blk_drew ?_ | refine blk_alloc ?_ _)); exact BK158.out⟩, ⟨by repeat (first | (with_reducible first | exact HB.out | apply below_alloc | apply pw_below_drewN | apply below_drew1 | refine below_set ?_ GE157.out | refine below_set ?_ GE158.out) | exact HB.out)⟩⟩
            · rw [if_neg c47] at H
              exact absurd H (by simp)
          · rw [if_neg c46] at H
            have c46b0 : decide (0 < (t164.length : Int)) = false := decide_eq_false c46
            have c46b1 : decide (0 < t164.length) = false := decide_eq_false (by omega)
            clear c46
            (first | rw [c46b0] | (simp only [i64_w, i32_w]; rw [c46b0]) | skip)
            replace H := Option.bind_eq_some_iff.mp H
            obtain ⟨t182, A510, H⟩ := H
            replace H : (place_Round.j0 k a2 t164 t182 a1_0 a1_1 a1_2) = some (r1, r2, r3, r4) := H
            have A51 := Aside0.mk A510
            clear A510
            have H' := Aside0.mk H
            clear H
            try go_wp2
            (try (rw [drewN_self w43]; generalize hq_ : World.drewN w43 _ = w43; have n0_ : Aside0 (Kd.R (Kd.int .u32) 50 w43 w.heap.size (fun k_ => some k_ ≠ (.slice Ao36 t167.length co36 : Value).ownBlock ∧ some k_ ≠ (.slice Ao44 t170.length co44 : Value).ownBlock ∧ some k_ ≠ (.slice Ao42 y173.length co42 : Value).ownBlock ∧ some k_ ≠ (.slice Ao45 t176.length co45 : Value).ownBlock) v165 t164) := ⟨by rw [← hq_]; exact (by (with_reducible repeat (first | apply Kd.R_alloc | apply Kd.R_drewN | apply Kd.R_drew)); exact Kd.R_mono HO166.out (fun _ hk => ⟨hk.1.1, ⟨hk.1.2.1, ⟨hk.1.2.2, hk.2⟩⟩⟩))⟩; have n1_ : Aside0 (Kd.R (Kd.int .u32) 50 w43 w.heap.size (fun k_ => some k_ ≠ (v165 : Value).ownBlock ∧ some k_ ≠ (.slice Ao44 t170.length co44 : Value).ownBlock ∧ some k_ ≠ (.slice Ao42 y173.length co42 : Value).ownBlock ∧ some k_ ≠ (.slice Ao45 t176.length co45 : Value).ownBlock) (.slice Ao36 t167.length co36) t167) := ⟨by rw [← hq_]; exact (by (with_reducible repeat (first | apply Kd.R_alloc | apply Kd.R_drewN | apply Kd.R_drew)); exact Kd.R_mono HO169.out (fun _ hk => ⟨hk.1.1, ⟨hk.1.2.1, ⟨hk.1.2.2, hk.2⟩⟩⟩))⟩; have n2_ : Aside0 (Kd.R (Kd.int .u32) 50 w43 w.heap.size (fun k_ => some k_ ≠ (v165 : Value).ownBlock ∧ some k_ ≠ (.slice Ao36 t167.length co36 : Value).ownBlock ∧ some k_ ≠ (.slice Ao42 y173.length co42 : Value).ownBlock ∧ some k_ ≠ (.slice Ao45 t176.length co45 : Value).ownBlock) (.slice Ao44 t170.length co44) t170) := ⟨by rw [← hq_]; exact (by (with_reducible repeat (first | apply Kd.R_alloc | apply Kd.R_drewN | apply Kd.R_drew)); exact Kd.R_mono HO172.out (fun _ hk => ⟨hk.1.1, ⟨hk.1.2.1, ⟨hk.1.2.2, hk.2⟩⟩⟩))⟩; have n3_ : Aside0 (Kd.R (Kd.int .u32) 50 w43 w.heap.size (fun k_ => some k_ ≠ (v165 : Value).ownBlock ∧ some k_ ≠ (.slice Ao36 t167.length co36 : Value).ownBlock ∧ some k_ ≠ (.slice Ao44 t170.length co44 : Value).ownBlock ∧ some k_ ≠ (.slice Ao45 t176.length co45 : Value).ownBlock) (.slice Ao42 y173.length co42) y173) := ⟨by rw [← hq_]; exact (by (with_reducible repeat (first | apply Kd.R_alloc | apply Kd.R_drewN | apply Kd.R_drew)); exact Kd.R_mono HO175.out (fun _ hk => ⟨hk.1.1, ⟨hk.1.2.1, ⟨hk.1.2.2, hk.2⟩⟩⟩))⟩; have n4_ : Aside0 (Kd.R (Kd.int .u32) 50 w43 w.heap.size (fun k_ => some k_ ≠ (v165 : Value).ownBlock ∧ some k_ ≠ (.slice Ao36 t167.length co36 : Value).ownBlock ∧ some k_ ≠ (.slice Ao44 t170.length co44 : Value).ownBlock ∧ some k_ ≠ (.slice Ao42 y173.length co42 : Value).ownBlock) (.slice Ao45 t176.length co45) t176) := ⟨by rw [← hq_]; exact (by (with_reducible repeat (first | apply Kd.R_alloc | apply Kd.R_drewN | apply Kd.R_drew)); exact Kd.R_mono HO178.out (fun _ hk => ⟨hk.1.1.1.2, ⟨hk.1.1.2, ⟨hk.1.2, hk.2⟩⟩⟩))⟩; have n5_ : Aside0 (w43.heap[gb157]? = some (.cells #[.bool a1_0, .string a1_1, .int .i64 a1_2] 23 (0, 0))) := ⟨by rw [← hq_]; exact (by (with_reducible repeat (first | refine blk_drewN ?_ _ | refine blk_drew ?_ | refine blk_alloc ?_ _)); exact BK157.out)⟩; have n6_ : Aside0 (w43.heap[gb158]? = some (.cells #[.bool false, .string (⟨#[]⟩ : ByteArray), .int .i64 0] 23 (0, 0))) := ⟨by rw [← hq_]; exact (by (with_reducible repeat (first | refine blk_drewN ?_ _ | refine blk_drew ?_ | refine blk_alloc ?_ _)); exact BK158.out)⟩; have n7_ : Aside0 (Below w.heap.size w w43) := ⟨by rw [← hq_]; exact (by repeat (first | (with_reducible first | exact HB.out | apply below_alloc | apply pw_below_drewN | apply below_drew1 | refine below_set ?_ GE157.out | refine below_set ?_ GE158.out) | exact HB.out))⟩; clear HO166 HO169 HO172 HO175 HO178 BK157 BK158 HB hq_; have HO166 := n0_; have HO169 := n1_; have HO172 := n2_; have HO175 := n3_; have HO178 := n4_; have BK157 := n5_; have BK158 := n6_; have HB := n7_; clear n0_ n1_ n2_ n3_ n4_ n5_ n6_ n7_))
            have n0_ := Aside0.mk (Kd.R_drew HO166.out)
            have n1_ := Aside0.mk (Kd.R_drew HO169.out)
            have n2_ := Aside0.mk (Kd.R_drew HO172.out)
            have n3_ := Aside0.mk (Kd.R_drew HO175.out)
            have n4_ := Aside0.mk (Kd.R_drew HO178.out)
            have n5_ := Aside0.mk (blk_drew BK157.out)
            have n6_ := Aside0.mk (blk_drew BK158.out)
            have n7_ := Aside0.mk (below_drew1 HB.out)
            clear HO166
            clear HO169
            clear HO172
            clear HO175
            clear HO178
            clear BK157
            clear BK158
            clear HB
            have HO166 := n0_
            have HO169 := n1_
            have HO172 := n2_
            have HO175 := n3_
            have HO178 := n4_
            have BK157 := n5_
            have BK158 := n6_
            have HB := n7_
            clear n0_ n1_ n2_ n3_ n4_ n5_ n6_ n7_
            obtain ⟨Ao53, co53, eo53⟩ := Kd.R_slice HO166.out
            (first | subst eo53 | (injection eo53 with f1_ f2_ f3_; have f4_ := f1_.symm; have f5_ := f3_.symm; clear f1_ f2_ f3_; subst f4_; subst f5_))
            refine start_ (n := 15) (S := fun w' => w'.cell? ⟨gb157, 0, none⟩ = some (.bool a1_0) ∧ w'.cell? ⟨gb157, 1, none⟩ = some (.string a1_1) ∧ w'.cell? ⟨gb157, 2, none⟩ = some (.int .i64 a1_2)) (ds := []) #[false, false, false, false, false, false, false, false, false, false, false, false, false, false, false] (by kernel_rfl) rfl rfl ⟨(blk_cell BK157.out 0).trans rfl, (blk_cell BK157.out 1).trans rfl, (blk_cell BK157.out 2).trans rfl⟩ (fun hHeld => ?_); refine with_tabW place_Round.tab9 place_Round.bits9 (fun HT_ HW_ => ?_)
            generalize w43.drew = w52 at HO166 HO169 HO172 HO175 HO178 BK157 BK158 HB hHeld ⊢
            refine pure_ (i := 0) (N := some 42) (v := ?_) (a' := ?_) #[true, false, false, false, false, false, false, false, false, false, false, false, false, false, false] rfl rfl (any_of HT_.out (by kernel_rfl)) (fun _ _ _ h => h) (Or.inl ⟨by rfl, ?_⟩) ?_ ?_
            rotate_left
            · intro w'
              go_simp
              with_reducible rfl
            rotate_left
            · simp only [Act.put, List.setIfInBounds_toArray, List.set_cons_zero, List.set_cons_succ]; (try simp only [i64_w]); (try simp only [i32_w])
              rfl
            refine pure_ (i := 1) (N := some 43) (v := ?_) (a' := ?_) #[true, true, false, false, false, false, false, false, false, false, false, false, false, false, false] rfl rfl (any_of HT_.out (by kernel_rfl)) (fun _ _ _ h => h) (Or.inl ⟨by rfl, ?_⟩) ?_ ?_
            rotate_left
            · intro w'
              go_simp
              with_reducible rfl
            rotate_left
            · simp only [Act.put, List.setIfInBounds_toArray, List.set_cons_zero, List.set_cons_succ]; (try simp only [i64_w]); (try simp only [i32_w])
              rfl
            refine pure_ (i := 3) (N := some 45) (v := ?_) (a' := ?_) #[true, true, false, true, false, false, false, false, false, false, false, false, false, false, false] rfl rfl (any_of HT_.out (by kernel_rfl)) (fun _ _ _ h => h) (Or.inl ⟨by rfl, ?_⟩) ?_ ?_
            rotate_left
            · intro w'
              go_simp
              with_reducible rfl
            rotate_left
            · simp only [Act.put, List.setIfInBounds_toArray, List.set_cons_zero, List.set_cons_succ]; (try simp only [i64_w]); (try simp only [i32_w])
              rfl
            refine pure_ (i := 4) (N := some 46) (v := ?_) (a' := ?_) #[true, true, false, true, true, false, false, false, false, false, false, false, false, false, false] rfl rfl (any_of HT_.out (by kernel_rfl)) (fun _ _ _ h => h) (Or.inl ⟨by rfl, ?_⟩) ?_ ?_
            rotate_left
            · intro w'
              go_simp
              with_reducible rfl
            rotate_left
            · simp only [Act.put, List.setIfInBounds_toArray, List.set_cons_zero, List.set_cons_succ]; (try simp only [i64_w]); (try simp only [i32_w])
              rfl
            refine pure_ (i := 5) (N := some 47) (v := ?_) (a' := ?_) #[true, true, false, true, true, true, false, false, false, false, false, false, false, false, false] rfl rfl (any_of HT_.out (by kernel_rfl)) (fun _ _ _ h => h) (Or.inl ⟨by rfl, ?_⟩) ?_ ?_
            rotate_left
            · intro w'
              go_simp
              with_reducible rfl
            rotate_left
            · simp only [Act.put, List.setIfInBounds_toArray, List.set_cons_zero, List.set_cons_succ]; (try simp only [i64_w]); (try simp only [i32_w])
              rfl
            refine pure_ (i := 6) (N := some 48) (v := ?_) (a' := ?_) #[true, true, false, true, true, true, true, false, false, false, false, false, false, false, false] rfl rfl (any_of HT_.out (by kernel_rfl)) (fun _ _ _ h => h) (Or.inl ⟨by rfl, ?_⟩) ?_ ?_
            rotate_left
            · intro w'
              go_simp
              with_reducible rfl
            rotate_left
            · simp only [Act.put, List.setIfInBounds_toArray, List.set_cons_zero, List.set_cons_succ]; (try simp only [i64_w]); (try simp only [i32_w])
              rfl
            refine pure_ (i := 7) (N := some 49) (v := undef) (a' := ?_) #[true, true, false, true, true, true, true, true, false, false, false, false, false, false, false] rfl rfl (any_of HT_.out (by kernel_rfl)) (fun _ _ _ h => h) (Or.inr ⟨by rfl, rfl⟩) ?_ ?_
            rotate_left
            · simp only [Act.put, List.setIfInBounds_toArray, List.set_cons_zero, List.set_cons_succ]; (try simp only [i64_w]); (try simp only [i32_w])
              rfl
            refine pure_ (i := 8) (N := some 50) (v := undef) (a' := ?_) #[true, true, false, true, true, true, true, true, true, false, false, false, false, false, false] rfl rfl (any_of HT_.out (by kernel_rfl)) (fun _ _ _ h => h) (Or.inr ⟨by rfl, rfl⟩) ?_ ?_
            rotate_left
            · simp only [Act.put, List.setIfInBounds_toArray, List.set_cons_zero, List.set_cons_succ]; (try simp only [i64_w]); (try simp only [i32_w])
              rfl
            refine pure_ (i := 9) (N := some 51) (v := undef) (a' := ?_) #[true, true, false, true, true, true, true, true, true, true, false, false, false, false, false] rfl rfl (any_of HT_.out (by kernel_rfl)) (fun _ _ _ h => h) (Or.inr ⟨by rfl, rfl⟩) ?_ ?_
            rotate_left
            · simp only [Act.put, List.setIfInBounds_toArray, List.set_cons_zero, List.set_cons_succ]; (try simp only [i64_w]); (try simp only [i32_w])
              rfl
            refine pure_ (i := 10) (N := some 52) (v := undef) (a' := ?_) #[true, true, false, true, true, true, true, true, true, true, true, false, false, false, false] rfl rfl (any_of HT_.out (by kernel_rfl)) (fun _ _ _ h => h) (Or.inr ⟨by rfl, rfl⟩) ?_ ?_
            rotate_left
            · simp only [Act.put, List.setIfInBounds_toArray, List.set_cons_zero, List.set_cons_succ]; (try simp only [i64_w]); (try simp only [i32_w])
              rfl
            refine pure_ (i := 11) (N := some 53) (v := undef) (a' := ?_) #[true, true, false, true, true, true, true, true, true, true, true, true, false, false, false] rfl rfl (any_of HT_.out (by kernel_rfl)) (fun _ _ _ h => h) (Or.inr ⟨by rfl, rfl⟩) ?_ ?_
            rotate_left
            · simp only [Act.put, List.setIfInBounds_toArray, List.set_cons_zero, List.set_cons_succ]; (try simp only [i64_w]); (try simp only [i32_w])
              rfl
            refine pure_ (i := 12) (N := some 54) (v := ?_) (a' := ?_) #[true, true, false, true, true, true, true, true, true, true, true, true, true, false, false] rfl rfl (any_of HT_.out (by kernel_rfl)) (fun _ _ _ h => h) (Or.inl ⟨by rfl, ?_⟩) ?_ ?_
            rotate_left
            · intro w'
              go_simp
              with_reducible rfl
            rotate_left
            · simp only [Act.put, List.setIfInBounds_toArray, List.set_cons_zero, List.set_cons_succ]; (try simp only [i64_w]); (try simp only [i32_w])
              rfl
            refine pure_ (i := 13) (N := some 55) (v := ?_) (a' := ?_) #[true, true, false, true, true, true, true, true, true, true, true, true, true, true, false] rfl rfl (any_of HT_.out (by kernel_rfl)) (fun _ _ _ h => h) (Or.inl ⟨by rfl, ?_⟩) ?_ ?_
            rotate_left
            · intro w'
              go_simp
              with_reducible rfl
            rotate_left
            · simp only [Act.put, List.setIfInBounds_toArray, List.set_cons_zero, List.set_cons_succ]; (try simp only [i64_w]); (try simp only [i32_w])
              rfl
            refine take_ (i := 2) (N := some 44) (v := ?_) (a' := ?_) #[true, true, true, true, true, true, true, true, true, true, true, true, true, true, false] rfl rfl (take_ofW HT_.out HW_.out (by kernel_rfl)) (fun _ _ _ h => h) (Or.inl ⟨by rfl, ?_⟩) hHeld ?_ ?_
            rotate_left
            · rintro w' ⟨s0, s1, s2⟩
              go_simp
              with_reducible rfl
            rotate_left
            · simp only [Act.put, List.setIfInBounds_toArray, List.set_cons_zero, List.set_cons_succ]; (try simp only [i64_w]); (try simp only [i32_w])
              rfl
            refine one_ (i := 14) (N := some 56) #[true, true, true, true, true, true, true, true, true, true, true, true, true, true, true] rfl rfl (one_of HT_.out (by kernel_rfl)) (by decide) (fun K hK => ?_)
            refine goes_ Tryd.func36 (by kernel_rfl) rfl #[.int .i64 a0, .bool a1_0, .bool false, .int .i64 t179] (by rfl) rfl rfl (by (try simp only [List.map_toArray]); (try simp only [List.map_cons]); (try simp only [List.map_nil]); first | done | rfl | (simp only [List.length_drop, List.length_take]; rfl)) ?_
            with_reducible refine (mode_Away.calls a0 a1_0 false t179 t182 _ ?side1 A51.out).mono ?_
            (case side1 => exact Fig.Glob.below HG.out (by repeat (first | (with_reducible first | exact HB.out | apply below_alloc | apply pw_below_drewN | apply below_drew1 | refine below_set ?_ GE157.out | refine below_set ?_ GE158.out) | exact HB.out)))
            rintro e w' ⟨rfl, ⟨nd, rfl⟩⟩
            refine ⟨_, rfl, ?_⟩
            refine hK.out _ _ ⟨(blk_cell BK157.out 0).trans rfl, (blk_cell BK157.out 1).trans rfl, (blk_cell BK157.out 2).trans rfl⟩ (fun hHeld => ?_)
            clear hK K
            refine norm_ (a' := ?_) ?_ ?_
            rotate_left
            · show Act.put _ (some 56) _ = _
              simp only [Act.put, List.setIfInBounds_toArray, List.set_cons_zero, List.set_cons_succ]; (try simp only [i64_w]); (try simp only [i32_w])
              rfl
            refine done_ (done_of HT_.out (by kernel_rfl)) ?_
            try go_wp2
            go_meet
            case rel => exact ⟨_, (t182), (by first | rfl | (simp; done) | (simp [*]; done) | (simp [*, Fig.bne_nil]; done)), H', ⟨by first | omega | exact Nat.le_refl _⟩, ⟨by (with_reducible repeat (first | apply Kd.R_alloc | apply Kd.R_drewN | apply Kd.R_drew)); exact Kd.R_mono HO166.out (fun _ hk => trivial)⟩, ⟨by (with_reducible repeat (first | refine blk_drewN ?_ _ | refine blk_drew ?_ | refine blk_alloc ?_ _)); exact BK157.out⟩, ⟨by (with_reducible repeat (first | refine blk_drewN ?_ _ | refine blk_drew ?_ | refine blk_alloc ?_ _)); exact BK158.out⟩, ⟨by repeat (first | (with_reducible first | exact HB.out | apply below_alloc | apply pw_below_drewN | apply below_drew1 | refine below_set ?_ GE157.out | refine below_set ?_ GE158.out) | exact HB.out)⟩⟩
        case rest =>
          clear HC28
          try clear p1
          try clear q1
          try clear hx1
          try clear qi1
          try clear p2
          try clear c3
          try clear c4
          try clear p6
          try clear p18
          try clear q18
          try clear hx18
          try clear qi18
          try clear c33
          try clear c34
          try clear c35
          try clear c36
          try clear c46
          try clear c46b0
          try clear c46b1
          try clear c47
          try clear c47b0
          try clear c47b1
          try clear hx180_0
          try clear p180
          try clear q180
          obtain ⟨kq, x56_27, rfl, HA, HJ27, HO_8, BK157, BK158, HB⟩ := hcut
          cases kq with
          | zero => exact absurd HA.out (by simp [place_Round.j0])
          | succ kj27 =>
            have H := HA.out
            clear HA
            simp only [place_Round.j0] at H
            by_cases c54 : x56_27 = true
            · subst c54
              have H1 : ((nat_Add.f t164 (([1] : List Int))).bind fun t186 => ((ten_Digits.f t186).bind fun t189 => ((dec_Norm.f a1_0 t189 a2).bind fun bt190 => (some (bt190.1, bt190.2.1, bt190.2.2, 0))))) = some (r1, r2, r3, r4) := by rw [if_pos rfl] at H; exact H
              clear H
              have H := H1
              clear H1
              obtain ⟨y183, hy183⟩ : ∃ y_ : List Int, y_ = (([1] : List Int)) := ⟨_, rfl⟩
              replace H : ((nat_Add.f t164 y183).bind fun t186 => ((ten_Digits.f t186).bind fun t189 => ((dec_Norm.f a1_0 t189 a2).bind fun bt190 => (some (bt190.1, bt190.2.1, bt190.2.2, 0))))) = some (r1, r2, r3, r4) := by first | (rw [hy183]; with_reducible exact H) | (have H2_ := (Option.bind_some _ _).symm.trans H; rw [hy183]; with_reducible exact H2_) | (have H2_ := (Option.bind_some _ _).symm.trans H; with_reducible exact H2_) | with_reducible exact H | (rw [hy183]; exact H) | exact H
              have Ny183 := Aside0.mk hy183
              clear hy183
              replace H := Option.bind_eq_some_iff.mp H
              obtain ⟨t186, A550, H⟩ := H
              replace H : ((ten_Digits.f t186).bind fun t189 => ((dec_Norm.f a1_0 t189 a2).bind fun bt190 => (some (bt190.1, bt190.2.1, bt190.2.2, 0)))) = some (r1, r2, r3, r4) := H
              have A55 := Aside0.mk A550
              clear A550
              replace H := Option.bind_eq_some_iff.mp H
              obtain ⟨t189, A560, H⟩ := H
              replace H : ((dec_Norm.f a1_0 t189 a2).bind fun bt190 => (some (bt190.1, bt190.2.1, bt190.2.2, 0))) = some (r1, r2, r3, r4) := H
              have A56 := Aside0.mk A560
              clear A560
              replace H := Option.bind_eq_some_iff.mp H
              obtain ⟨⟨t190, t191, t192⟩, A570, H⟩ := H
              replace H : (some (t190, t191, t192, 0)) = some (r1, r2, r3, r4) := H
              have A57 := Aside0.mk A570
              clear A570
              simp only [Option.some.injEq, Prod.mk.injEq] at H
              obtain ⟨rfl, rfl, rfl, rfl⟩ := H
              try go_wp2_with (first | ((with_reducible refine gate_dst (N := 58) rfl ?_); refine Kd.R_lit (Kd.int .u32) _ 50 ?hg (N := 58) ?hd (xs := ([1] : List Int)) (inner := [.int .u32 1]) (ok := fun _ => True) (okp := fun _ => True) ?hr ?hp (fun _ hk => hk) trivial (Below.refl _ _) (Nat.le_refl _) (by simp) ?_; (case hd => rfl); (case hg => rfl); (case hr => first | (go_simp; done) | (go_simp; rfl)); (case hp => exact (Reps.one (show Kd.M (Kd.int .u32) _ _ _ 1 [.int .u32 1] from rfl) (Reps.none _ _))); intro v184 w58 ho59 hb hg_ hnew_; clear hg_ hnew_; (first | rw [← Ny183.out] at ho59 | (simp only [Int.reduceToNat] at ho59; rw [← Ny183.out] at ho59)); have n0_ := Aside0.mk (Kd.R_elder' (by (with_reducible repeat (first | apply Kd.R_alloc | apply Kd.R_drewN | apply Kd.R_drew)); exact HO_8.out) (Kd.R_base ho59) hb); have n1_ := Aside0.mk (Kd.R_lower (Kd.R_new' ho59 (Kd.R_lt (by (with_reducible repeat (first | apply Kd.R_alloc | apply Kd.R_drewN | apply Kd.R_drew)); exact HO_8.out))) (below_size (by repeat (first | (with_reducible first | exact HB.out | apply below_alloc | apply pw_below_drewN | apply below_drew1 | refine below_set ?_ GE157.out | refine below_set ?_ GE158.out) | exact HB.out)))); have n2_ := Aside0.mk (blk_below (g := gb157) (o := .cells #[.bool a1_0, .string a1_1, .int .i64 a1_2] 23 (0, 0)) (by (with_reducible repeat (first | refine blk_drewN ?_ _ | refine blk_drew ?_ | refine blk_alloc ?_ _)); exact BK157.out) hb); have n3_ := Aside0.mk (blk_below (g := gb158) (o := .cells #[.bool false, .string (⟨#[]⟩ : ByteArray), .int .i64 0] 23 (0, 0)) (by (with_reducible repeat (first | refine blk_drewN ?_ _ | refine blk_drew ?_ | refine blk_alloc ?_ _)); exact BK158.out) hb); have n4_ := Aside0.mk (below_step (by repeat (first | (with_reducible first | exact HB.out | apply below_alloc | apply pw_below_drewN | apply below_drew1 | refine below_set ?_ GE157.out | refine below_set ?_ GE158.out) | exact HB.out)) hb); clear HO_8; clear BK157; clear BK158; clear HB; have HO_8 := n0_; have HO185 := n1_; have BK157 := n2_; have BK158 := n3_; have HB := n4_; clear n0_ n1_ n2_ n3_ n4_; clear hb ho59; obtain ⟨Ao60, co60, eo60⟩ := Kd.R_slice HO_8.out; subst eo60; obtain ⟨Ao61, co61, eo61⟩ := Kd.R_slice HO185.out; subst eo61) | ((with_reducible refine gate_callee (f := 34) rfl ?_); refine goesL_ (some 59) rfl rfl Tryd.func34 (by kernel_rfl) rfl #[.slice Ao60 t164.length co60, .slice Ao61 y183.length co61] rfl (by (try simp only [List.map_toArray]); (try simp only [List.map_cons]); (try simp only [List.map_nil]); first | done | rfl | (simp only [List.length_drop, List.length_take]; rfl)) ?_; (with_reducible refine (nat_Add.calls _ _ t164 _ _ y183 t186 _ ?side1 ?side2 ?side3 ?side4 A55.out).mono ?_); (case side1 => repeat (first | exact (Kd.R_reads' HO_8.out).2.2 | (with_reducible refine Kd.C_alloc ?_ _) | (with_reducible refine Kd.C_drewN ?_ _) | (with_reducible refine Kd.C_drew ?_))); (case side2 => exact (Kd.R_reads' HO_8.out).2.1); (case side3 => repeat (first | exact (Kd.R_reads' HO185.out).2.2 | (with_reducible refine Kd.C_alloc ?_ _) | (with_reducible refine Kd.C_drewN ?_ _) | (with_reducible refine Kd.C_drew ?_))); (case side4 => exact (Kd.R_reads' HO185.out).2.1); rintro e w62 ⟨v187, rfl, ho0, hb⟩; refine ⟨_, rfl, ?_⟩; have n0_ := Aside0.mk (Kd.R_elder' (by (with_reducible repeat (first | apply Kd.R_alloc | apply Kd.R_drewN | apply Kd.R_drew)); exact HO_8.out) (Kd.R_base ho0) hb); have n1_ := Aside0.mk (Kd.R_elder' (by (with_reducible repeat (first | apply Kd.R_alloc | apply Kd.R_drewN | apply Kd.R_drew)); exact HO185.out) (Kd.R_base ho0) hb); have n2_ := Aside0.mk (Kd.R_lower (Kd.R_new' (Kd.R_new' ho0 (Kd.R_lt (by (with_reducible repeat (first | apply Kd.R_alloc | apply Kd.R_drewN | apply Kd.R_drew)); exact HO_8.out))) (Kd.R_lt (by (with_reducible repeat (first | apply Kd.R_alloc | apply Kd.R_drewN | apply Kd.R_drew)); exact HO185.out))) (below_size (by repeat (first | (with_reducible first | exact HB.out | apply below_alloc | apply pw_below_drewN | apply below_drew1 | refine below_set ?_ GE157.out | refine below_set ?_ GE158.out) | exact HB.out)))); have n3_ := Aside0.mk (blk_below (g := gb157) (o := .cells #[.bool a1_0, .string a1_1, .int .i64 a1_2] 23 (0, 0)) (by (with_reducible repeat (first | refine blk_drewN ?_ _ | refine blk_drew ?_ | refine blk_alloc ?_ _)); exact BK157.out) hb); have n4_ := Aside0.mk (blk_below (g := gb158) (o := .cells #[.bool false, .string (⟨#[]⟩ : ByteArray), .int .i64 0] 23 (0, 0)) (by (with_reducible repeat (first | refine blk_drewN ?_ _ | refine blk_drew ?_ | refine blk_alloc ?_ _)); exact BK158.out) hb); have n5_ := Aside0.mk (below_step (by repeat (first | (with_reducible first | exact HB.out | apply below_alloc | apply pw_below_drewN | apply below_drew1 | refine below_set ?_ GE157.out | refine below_set ?_ GE158.out) | exact HB.out)) hb); clear HO_8; clear HO185; clear BK157; clear BK158; clear HB; have HO_8 := n0_; have HO185 := n1_; have HO188 := n2_; have BK157 := n3_; have BK158 := n4_; have HB := n5_; clear n0_ n1_ n2_ n3_ n4_ n5_; (try clear hb); (try clear hb2); (try clear hk); (try clear hi); (try clear ho0)))
              (try (rw [drewN_self w62]; generalize hq_ : World.drewN w62 _ = w62; have n0_ : Aside0 (Kd.R (Kd.int .u32) 50 w62 w.heap.size (fun k_ => some k_ ≠ (v187 : Value).ownBlock ∧ some k_ ≠ (.slice Ao60 t164.length co60 : Value).ownBlock) (.slice Ao61 y183.length co61) y183) := ⟨by rw [← hq_]; exact (by (with_reducible repeat (first | apply Kd.R_alloc | apply Kd.R_drewN | apply Kd.R_drew)); exact Kd.R_mono HO185.out (fun _ hk => ⟨hk.2, hk.1.2⟩))⟩; have n1_ : Aside0 (Kd.R (Kd.int .u32) 50 w62 w.heap.size (fun k_ => some k_ ≠ (.slice Ao61 y183.length co61 : Value).ownBlock ∧ some k_ ≠ (.slice Ao60 t164.length co60 : Value).ownBlock) v187 t186) := ⟨by rw [← hq_]; exact (by (with_reducible repeat (first | apply Kd.R_alloc | apply Kd.R_drewN | apply Kd.R_drew)); exact Kd.R_mono HO188.out (fun _ hk => ⟨hk.2, hk.1.2⟩))⟩; have n2_ : Aside0 (Kd.R (Kd.int .u32) 50 w62 w.heap.size (fun k_ => some k_ ≠ (.slice Ao61 y183.length co61 : Value).ownBlock ∧ some k_ ≠ (v187 : Value).ownBlock) (.slice Ao60 t164.length co60) t164) := ⟨by rw [← hq_]; exact (by (with_reducible repeat (first | apply Kd.R_alloc | apply Kd.R_drewN | apply Kd.R_drew)); exact Kd.R_mono HO_8.out (fun _ hk => ⟨hk.1.2, hk.2⟩))⟩; have n3_ : Aside0 (w62.heap[gb157]? = some (.cells #[.bool a1_0, .string a1_1, .int .i64 a1_2] 23 (0, 0))) := ⟨by rw [← hq_]; exact (by (with_reducible repeat (first | refine blk_drewN ?_ _ | refine blk_drew ?_ | refine blk_alloc ?_ _)); exact BK157.out)⟩; have n4_ : Aside0 (w62.heap[gb158]? = some (.cells #[.bool false, .string (⟨#[]⟩ : ByteArray), .int .i64 0] 23 (0, 0))) := ⟨by rw [← hq_]; exact (by (with_reducible repeat (first | refine blk_drewN ?_ _ | refine blk_drew ?_ | refine blk_alloc ?_ _)); exact BK158.out)⟩; have n5_ : Aside0 (Below w.heap.size w w62) := ⟨by rw [← hq_]; exact (by repeat (first | (with_reducible first | exact HB.out | apply below_alloc | apply pw_below_drewN | apply below_drew1 | refine below_set ?_ GE157.out | refine below_set ?_ GE158.out) | exact HB.out))⟩; clear HO185 HO188 HO_8 BK157 BK158 HB hq_; have HO185 := n0_; have HO188 := n1_; have HO_8 := n2_; have BK157 := n3_; have BK158 := n4_; have HB := n5_; clear n0_ n1_ n2_ n3_ n4_ n5_))
              have n0_ := Aside0.mk (Kd.R_drew HO_8.out)
              have n1_ := Aside0.mk (Kd.R_drew HO185.out)
              have n2_ := Aside0.mk (Kd.R_drew HO188.out)
              have n3_ := Aside0.mk (blk_drew BK157.out)
              have n4_ := Aside0.mk (blk_drew BK158.out)
              have n5_ := Aside0.mk (below_drew1 HB.out)
              clear HO_8
              clear HO185
              clear HO188
              clear BK157
              clear BK158
              clear HB
              have HO_8 := n0_
              have HO185 := n1_
              have HO188 := n2_
              have BK157 := n3_
              have BK158 := n4_
              have HB := n5_
              clear n0_ n1_ n2_ n3_ n4_ n5_
              obtain ⟨Ao64, co64, eo64⟩ := Kd.R_slice HO188.out
              (first | subst eo64 | (injection eo64 with f1_ f2_ f3_; have f4_ := f1_.symm; have f5_ := f3_.symm; clear f1_ f2_ f3_; subst f4_; subst f5_))
              refine start_ (n := 9) (S := fun w' => w'.cell? ⟨gb157, 0, none⟩ = some (.bool a1_0) ∧ w'.cell? ⟨gb157, 1, none⟩ = some (.string a1_1) ∧ w'.cell? ⟨gb157, 2, none⟩ = some (.int .i64 a1_2)) (ds := []) #[false, false, false, false, false, false, false, false, false] (by kernel_rfl) rfl rfl ⟨(blk_cell BK157.out 0).trans rfl, (blk_cell BK157.out 1).trans rfl, (blk_cell BK157.out 2).trans rfl⟩ (fun hHeld => ?_); refine with_tabW place_Round.tab11 place_Round.bits11 (fun HT_ HW_ => ?_)
              generalize w62.drew = w63 at HO_8 HO185 HO188 BK157 BK158 HB hHeld ⊢
              refine pure_ (i := 0) (N := some 60) (v := ?_) (a' := ?_) #[true, false, false, false, false, false, false, false, false] rfl rfl (any_of HT_.out (by kernel_rfl)) (fun _ _ _ h => h) (Or.inl ⟨by rfl, ?_⟩) ?_ ?_
              rotate_left
              · intro w'
                go_simp
                with_reducible rfl
              rotate_left
              · simp only [Act.put, List.setIfInBounds_toArray, List.set_cons_zero, List.set_cons_succ]; (try simp only [i64_w]); (try simp only [i32_w])
                rfl
              refine pure_ (i := 2) (N := some 62) (v := ?_) (a' := ?_) #[true, false, true, false, false, false, false, false, false] rfl rfl (any_of HT_.out (by kernel_rfl)) (fun _ _ _ h => h) (Or.inl ⟨by rfl, ?_⟩) ?_ ?_
              rotate_left
              · intro w'
                go_simp
                with_reducible rfl
              rotate_left
              · simp only [Act.put, List.setIfInBounds_toArray, List.set_cons_zero, List.set_cons_succ]; (try simp only [i64_w]); (try simp only [i32_w])
                rfl
              refine pure_ (i := 4) (N := some 64) (v := ?_) (a' := ?_) #[true, false, true, false, true, false, false, false, false] rfl rfl (any_of HT_.out (by kernel_rfl)) (fun _ _ _ h => h) (Or.inl ⟨by rfl, ?_⟩) ?_ ?_
              rotate_left
              · intro w'
                go_simp
                with_reducible rfl
              rotate_left
              · simp only [Act.put, List.setIfInBounds_toArray, List.set_cons_zero, List.set_cons_succ]; (try simp only [i64_w]); (try simp only [i32_w])
                rfl
              refine take_ (i := 1) (N := some 61) (v := ?_) (a' := ?_) #[true, true, true, false, true, false, false, false, false] rfl rfl (take_ofW HT_.out HW_.out (by kernel_rfl)) (fun _ _ _ h => h) (Or.inl ⟨by rfl, ?_⟩) hHeld ?_ ?_
              rotate_left
              · rintro w' ⟨s0, s1, s2⟩
                go_simp
                with_reducible rfl
              rotate_left
              · simp only [Act.put, List.setIfInBounds_toArray, List.set_cons_zero, List.set_cons_succ]; (try simp only [i64_w]); (try simp only [i32_w])
                rfl
              refine one_ (i := 3) (N := some 63) #[true, true, true, true, true, false, false, false, false] rfl rfl (one_of HT_.out (by kernel_rfl)) (by decide) (fun K hK => ?_)
              refine goes_ Tryd.func37 (by kernel_rfl) rfl #[.slice Ao64 t186.length co64] (by rfl) rfl rfl (by (try simp only [List.map_toArray]); (try simp only [List.map_cons]); (try simp only [List.map_nil]); first | done | rfl | (simp only [List.length_drop, List.length_take]; rfl)) ?_
              with_reducible refine (ten_Digits.calls _ _ t186 t189 _ ?side1 ?side2 A56.out).mono ?_
              (case side1 => repeat (first | exact (Kd.R_reads' HO188.out).2.2 | (with_reducible refine Kd.C_alloc ?_ _) | (with_reducible refine Kd.C_drewN ?_ _) | (with_reducible refine Kd.C_drew ?_)))
              (case side2 => exact (Kd.R_reads' HO188.out).2.1)
              rintro e w65 ⟨rfl, hb⟩
              refine ⟨_, rfl, ?_⟩
              have n0_ := Aside0.mk (Kd.R_below (by (with_reducible repeat (first | apply Kd.R_alloc | apply Kd.R_drewN | apply Kd.R_drew)); exact HO_8.out) hb)
              have n1_ := Aside0.mk (Kd.R_below (by (with_reducible repeat (first | apply Kd.R_alloc | apply Kd.R_drewN | apply Kd.R_drew)); exact HO185.out) hb)
              have n2_ := Aside0.mk (Kd.R_below (by (with_reducible repeat (first | apply Kd.R_alloc | apply Kd.R_drewN | apply Kd.R_drew)); exact HO188.out) hb)
              have n3_ := Aside0.mk (blk_below (g := gb157) (o := .cells #[.bool a1_0, .string a1_1, .int .i64 a1_2] 23 (0, 0)) (by (with_reducible repeat (first | refine blk_drewN ?_ _ | refine blk_drew ?_ | refine blk_alloc ?_ _)); exact BK157.out) hb)
              have n4_ := Aside0.mk (blk_below (g := gb158) (o := .cells #[.bool false, .string (⟨#[]⟩ : ByteArray), .int .i64 0] 23 (0, 0)) (by (with_reducible repeat (first | refine blk_drewN ?_ _ | refine blk_drew ?_ | refine blk_alloc ?_ _)); exact BK158.out) hb)
              have n5_ := Aside0.mk (below_step (by repeat (first | (with_reducible first | exact HB.out | apply below_alloc | apply pw_below_drewN | apply below_drew1 | refine below_set ?_ GE157.out | refine below_set ?_ GE158.out) | exact HB.out)) hb)
              clear HO_8
              clear HO185
              clear HO188
              clear BK157
              clear BK158
              clear HB
              have HO_8 := n0_
              have HO185 := n1_
              have HO188 := n2_
              have BK157 := n3_
              have BK158 := n4_
              have HB := n5_
              clear n0_ n1_ n2_ n3_ n4_ n5_
              (try clear hb)
              (try clear hb2)
              (try clear hk)
              (try clear hi)
              refine hK.out _ _ ⟨(blk_cell BK157.out 0).trans rfl, (blk_cell BK157.out 1).trans rfl, (blk_cell BK157.out 2).trans rfl⟩ (fun hHeld => ?_)
              clear hK K
              refine norm_ (a' := ?_) ?_ ?_
              rotate_left
              · show Act.put _ (some 63) _ = _
                simp only [Act.put, List.setIfInBounds_toArray, List.set_cons_zero, List.set_cons_succ]; (try simp only [i64_w]); (try simp only [i32_w])
                rfl
              refine pure_ (i := 5) (N := some 65) (v := ?_) (a' := ?_) #[true, true, true, true, true, true, false, false, false] rfl rfl (any_of HT_.out (by kernel_rfl)) (fun _ _ _ h => h) (Or.inl ⟨by rfl, ?_⟩) ?_ ?_
              rotate_left
              · intro w'
                go_simp
                with_reducible rfl
              rotate_left
              · simp only [Act.put, List.setIfInBounds_toArray, List.set_cons_zero, List.set_cons_succ]; (try simp only [i64_w]); (try simp only [i32_w])
                rfl
              refine one_ (i := 6) (N := some 66) #[true, true, true, true, true, true, true, false, false] rfl rfl (one_of HT_.out (by kernel_rfl)) (by decide) (fun K hK => ?_)
              refine goes_ Tryd.func31 (by kernel_rfl) rfl #[.agg #[.bool a1_0, .string t189, .int .i64 a2]] (by rfl) rfl rfl (by (try simp only [List.map_toArray]); (try simp only [List.map_cons]); (try simp only [List.map_nil]); first | done | rfl | (simp only [List.length_drop, List.length_take]; rfl)) ?_
              with_reducible refine (dec_Norm.calls a1_0 t189 a2 t190 t191 t192 _ A57.out).mono ?_
              rintro e w66 ⟨rfl, hb⟩
              refine ⟨_, rfl, ?_⟩
              have n0_ := Aside0.mk (Kd.R_below (by (with_reducible repeat (first | apply Kd.R_alloc | apply Kd.R_drewN | apply Kd.R_drew)); exact HO_8.out) hb)
              have n1_ := Aside0.mk (Kd.R_below (by (with_reducible repeat (first | apply Kd.R_alloc | apply Kd.R_drewN | apply Kd.R_drew)); exact HO185.out) hb)
              have n2_ := Aside0.mk (Kd.R_below (by (with_reducible repeat (first | apply Kd.R_alloc | apply Kd.R_drewN | apply Kd.R_drew)); exact HO188.out) hb)
              have n3_ := Aside0.mk (blk_below (g := gb157) (o := .cells #[.bool a1_0, .string a1_1, .int .i64 a1_2] 23 (0, 0)) (by (with_reducible repeat (first | refine blk_drewN ?_ _ | refine blk_drew ?_ | refine blk_alloc ?_ _)); exact BK157.out) hb)
              have n4_ := Aside0.mk (blk_below (g := gb158) (o := .cells #[.bool false, .string (⟨#[]⟩ : ByteArray), .int .i64 0] 23 (0, 0)) (by (with_reducible repeat (first | refine blk_drewN ?_ _ | refine blk_drew ?_ | refine blk_alloc ?_ _)); exact BK158.out) hb)
              have n5_ := Aside0.mk (below_step (by repeat (first | (with_reducible first | exact HB.out | apply below_alloc | apply pw_below_drewN | apply below_drew1 | refine below_set ?_ GE157.out | refine below_set ?_ GE158.out) | exact HB.out)) hb)
              clear HO_8
              clear HO185
              clear HO188
              clear BK157
              clear BK158
              clear HB
              have HO_8 := n0_
              have HO185 := n1_
              have HO188 := n2_
              have BK157 := n3_
              have BK158 := n4_
              have HB := n5_
              clear n0_ n1_ n2_ n3_ n4_ n5_
              (try clear hb)
              (try clear hb2)
              (try clear hk)
              (try clear hi)
              refine hK.out _ _ ⟨(blk_cell BK157.out 0).trans rfl, (blk_cell BK157.out 1).trans rfl, (blk_cell BK157.out 2).trans rfl⟩ (fun hHeld => ?_)
              clear hK K
              refine norm_ (a' := ?_) ?_ ?_
              rotate_left
              · show Act.put _ (some 66) _ = _
                simp only [Act.put, List.setIfInBounds_toArray, List.set_cons_zero, List.set_cons_succ]; (try simp only [i64_w]); (try simp only [i32_w])
                rfl
              refine one_ (i := 7) (N := none) #[true, true, true, true, true, true, true, true, false] rfl rfl (one_of HT_.out (by kernel_rfl)) (by decide) (fun K hK => ?_)
              have hs67 : w66.cell? ⟨gb158, 0, none⟩ = some (.bool false) := (blk_cell BK158.out 0).trans rfl
              have hfs67 := blk_frozen BK158.out 0
              have hns67_0 := NB157_158.out
              have hms67_0 := NB158_157.out
              have hs68 : w66.cell? ⟨gb158, 1, none⟩ = some (.string (⟨#[]⟩ : ByteArray)) := (blk_cell BK158.out 1).trans rfl
              have hfs68 := blk_frozen BK158.out 1
              have hns68_0 := NB157_158.out
              have hms68_0 := NB158_157.out
              have hs69 : w66.cell? ⟨gb158, 2, none⟩ = some (.int .i64 0) := (blk_cell BK158.out 2).trans rfl
              have hfs69 := blk_frozen BK158.out 2
              have hns69_0 := NB157_158.out
              have hms69_0 := NB158_157.out
              refine skip_ (w1 := ?_) (by rfl) rfl ?_ ?_
              rotate_left
              · go_simp
                rfl
              refine hK.out _ _ ⟨((cell_far (p := ⟨gb158, _, none⟩) NB157_158.out _).trans (((cell_far (p := ⟨gb158, _, none⟩) NB157_158.out _).trans (((cell_far (p := ⟨gb158, _, none⟩) NB157_158.out _).trans (hHeld.1)))))), ((cell_far (p := ⟨gb158, _, none⟩) NB157_158.out _).trans (((cell_far (p := ⟨gb158, _, none⟩) NB157_158.out _).trans (((cell_far (p := ⟨gb158, _, none⟩) NB157_158.out _).trans (hHeld.2.1)))))), ((cell_far (p := ⟨gb158, _, none⟩) NB157_158.out _).trans (((cell_far (p := ⟨gb158, _, none⟩) NB157_158.out _).trans (((cell_far (p := ⟨gb158, _, none⟩) NB157_158.out _).trans (hHeld.2.2))))))⟩ (fun hHeld => ?_)
              clear hK K
              refine pure_ (i := 8) (N := some 7) (v := ?_) (a' := ?_) #[true, true, true, true, true, true, true, true, true] rfl rfl (any_of HT_.out (by kernel_rfl)) (fun _ _ _ h => h) (Or.inl ⟨by rfl, ?_⟩) ?_ ?_
              rotate_left
              · intro w'
                go_simp
                with_reducible rfl
              rotate_left
              · simp only [Act.put, List.setIfInBounds_toArray, List.set_cons_zero, List.set_cons_succ]; (try simp only [i64_w]); (try simp only [i32_w])
                rfl
              refine done_ (done_of HT_.out (by kernel_rfl)) ?_
              try go_wp2
              refine bodyPost_ret (results_ct rfl _ _ gb158 23 #[.bool t190, .string t191, .int .i64 t192] (0, 0) _ rfl (by (with_reducible repeat (first | refine blk_drewN ?_ _ | refine blk_drew ?_ | refine blk_alloc ?_ _)); refine blk_put (cs := #[.bool t190, .string t191, .int .i64 0]) ?_ 2 _ rfl; (with_reducible repeat (first | refine blk_drewN ?_ _ | refine blk_drew ?_ | refine blk_alloc ?_ _)); refine blk_put (cs := #[.bool t190, .string (⟨#[]⟩ : ByteArray), .int .i64 0]) ?_ 1 _ rfl; (with_reducible repeat (first | refine blk_drewN ?_ _ | refine blk_drew ?_ | refine blk_alloc ?_ _)); refine blk_put (cs := #[.bool false, .string (⟨#[]⟩ : ByteArray), .int .i64 0]) ?_ 0 _ rfl; (with_reducible repeat (first | refine blk_drewN ?_ _ | refine blk_drew ?_ | refine blk_alloc ?_ _)); exact BK158.out) Tryd.underlying23 rfl (by kernel_rfl)) rfl ?_
              exact ⟨by first | rfl | (simp [errW_none, errW_some] <;> rfl) | (simp [*, errW_none, errW_some] <;> rfl), by repeat (first | (with_reducible first | exact HB.out | apply below_alloc | apply pw_below_drewN | apply below_drew1 | refine below_set ?_ GE157.out | refine below_set ?_ GE158.out) | exact HB.out)⟩
            · replace c54 := Bool.eq_false_iff.mpr c54
              subst c54
              have H1 : ((ten_Digits.f t164).bind fun t193 => ((dec_Norm.f a1_0 t193 a2).bind fun bt194 => (some (bt194.1, bt194.2.1, bt194.2.2, 0)))) = some (r1, r2, r3, r4) := by rw [if_neg (show ¬ (false = true) by decide)] at H; exact H
              clear H
              have H := H1
              clear H1
              replace H := Option.bind_eq_some_iff.mp H
              obtain ⟨t193, A700, H⟩ := H
              replace H : ((dec_Norm.f a1_0 t193 a2).bind fun bt194 => (some (bt194.1, bt194.2.1, bt194.2.2, 0))) = some (r1, r2, r3, r4) := H
              have A70 := Aside0.mk A700
              clear A700
              replace H := Option.bind_eq_some_iff.mp H
              obtain ⟨⟨t194, t195, t196⟩, A710, H⟩ := H
              replace H : (some (t194, t195, t196, 0)) = some (r1, r2, r3, r4) := H
              have A71 := Aside0.mk A710
              clear A710
              simp only [Option.some.injEq, Prod.mk.injEq] at H
              obtain ⟨rfl, rfl, rfl, rfl⟩ := H
              try go_wp2
              (try (rw [drewN_self wc]; generalize hq_ : World.drewN wc _ = wc; have n0_ : Aside0 (Kd.R (Kd.int .u32) 50 wc w.heap.size (fun _ => True) v165 t164) := ⟨by rw [← hq_]; exact (by (with_reducible repeat (first | apply Kd.R_alloc | apply Kd.R_drewN | apply Kd.R_drew)); exact HO_8.out)⟩; have n1_ : Aside0 (wc.heap[gb157]? = some (.cells #[.bool a1_0, .string a1_1, .int .i64 a1_2] 23 (0, 0))) := ⟨by rw [← hq_]; exact (by (with_reducible repeat (first | refine blk_drewN ?_ _ | refine blk_drew ?_ | refine blk_alloc ?_ _)); exact BK157.out)⟩; have n2_ : Aside0 (wc.heap[gb158]? = some (.cells #[.bool false, .string (⟨#[]⟩ : ByteArray), .int .i64 0] 23 (0, 0))) := ⟨by rw [← hq_]; exact (by (with_reducible repeat (first | refine blk_drewN ?_ _ | refine blk_drew ?_ | refine blk_alloc ?_ _)); exact BK158.out)⟩; have n3_ : Aside0 (Below w.heap.size w wc) := ⟨by rw [← hq_]; exact (by repeat (first | (with_reducible first | exact HB.out | apply below_alloc | apply pw_below_drewN | apply below_drew1 | refine below_set ?_ GE157.out | refine below_set ?_ GE158.out) | exact HB.out))⟩; clear HO_8 BK157 BK158 HB hq_; have HO_8 := n0_; have BK157 := n1_; have BK158 := n2_; have HB := n3_; clear n0_ n1_ n2_ n3_))
              have n0_ := Aside0.mk (Kd.R_drew HO_8.out)
              have n1_ := Aside0.mk (blk_drew BK157.out)
              have n2_ := Aside0.mk (blk_drew BK158.out)
              have n3_ := Aside0.mk (below_drew1 HB.out)
              clear HO_8
              clear BK157
              clear BK158
              clear HB
              have HO_8 := n0_
              have BK157 := n1_
              have BK158 := n2_
              have HB := n3_
              clear n0_ n1_ n2_ n3_
              obtain ⟨Ao73, co73, eo73⟩ := Kd.R_slice HO_8.out
              (first | subst eo73 | (injection eo73 with f1_ f2_ f3_; have f4_ := f1_.symm; have f5_ := f3_.symm; clear f1_ f2_ f3_; subst f4_; subst f5_))
              refine start_ (n := 9) (S := fun w' => w'.cell? ⟨gb157, 0, none⟩ = some (.bool a1_0) ∧ w'.cell? ⟨gb157, 1, none⟩ = some (.string a1_1) ∧ w'.cell? ⟨gb157, 2, none⟩ = some (.int .i64 a1_2)) (ds := []) #[false, false, false, false, false, false, false, false, false] (by kernel_rfl) rfl rfl ⟨(blk_cell BK157.out 0).trans rfl, (blk_cell BK157.out 1).trans rfl, (blk_cell BK157.out 2).trans rfl⟩ (fun hHeld => ?_); refine with_tabW place_Round.tab11 place_Round.bits11 (fun HT_ HW_ => ?_)
              generalize wc.drew = w72 at HO_8 BK157 BK158 HB hHeld ⊢
              refine pure_ (i := 0) (N := some 60) (v := ?_) (a' := ?_) #[true, false, false, false, false, false, false, false, false] rfl rfl (any_of HT_.out (by kernel_rfl)) (fun _ _ _ h => h) (Or.inl ⟨by rfl, ?_⟩) ?_ ?_
              rotate_left
              · intro w'
                go_simp
                with_reducible rfl
              rotate_left
              · simp only [Act.put, List.setIfInBounds_toArray, List.set_cons_zero, List.set_cons_succ]; (try simp only [i64_w]); (try simp only [i32_w])
                rfl
              refine pure_ (i := 2) (N := some 62) (v := ?_) (a' := ?_) #[true, false, true, false, false, false, false, false, false] rfl rfl (any_of HT_.out (by kernel_rfl)) (fun _ _ _ h => h) (Or.inl ⟨by rfl, ?_⟩) ?_ ?_
              rotate_left
              · intro w'
                go_simp
                with_reducible rfl
              rotate_left
              · simp only [Act.put, List.setIfInBounds_toArray, List.set_cons_zero, List.set_cons_succ]; (try simp only [i64_w]); (try simp only [i32_w])
                rfl
              refine pure_ (i := 4) (N := some 64) (v := ?_) (a' := ?_) #[true, false, true, false, true, false, false, false, false] rfl rfl (any_of HT_.out (by kernel_rfl)) (fun _ _ _ h => h) (Or.inl ⟨by rfl, ?_⟩) ?_ ?_
              rotate_left
              · intro w'
                go_simp
                with_reducible rfl
              rotate_left
              · simp only [Act.put, List.setIfInBounds_toArray, List.set_cons_zero, List.set_cons_succ]; (try simp only [i64_w]); (try simp only [i32_w])
                rfl
              refine take_ (i := 1) (N := some 61) (v := ?_) (a' := ?_) #[true, true, true, false, true, false, false, false, false] rfl rfl (take_ofW HT_.out HW_.out (by kernel_rfl)) (fun _ _ _ h => h) (Or.inl ⟨by rfl, ?_⟩) hHeld ?_ ?_
              rotate_left
              · rintro w' ⟨s0, s1, s2⟩
                go_simp
                with_reducible rfl
              rotate_left
              · simp only [Act.put, List.setIfInBounds_toArray, List.set_cons_zero, List.set_cons_succ]; (try simp only [i64_w]); (try simp only [i32_w])
                rfl
              refine one_ (i := 3) (N := some 63) #[true, true, true, true, true, false, false, false, false] rfl rfl (one_of HT_.out (by kernel_rfl)) (by decide) (fun K hK => ?_)
              refine goes_ Tryd.func37 (by kernel_rfl) rfl #[.slice Ao73 t164.length co73] (by rfl) rfl rfl (by (try simp only [List.map_toArray]); (try simp only [List.map_cons]); (try simp only [List.map_nil]); first | done | rfl | (simp only [List.length_drop, List.length_take]; rfl)) ?_
              with_reducible refine (ten_Digits.calls _ _ t164 t193 _ ?side1 ?side2 A70.out).mono ?_
              (case side1 => repeat (first | exact (Kd.R_reads' HO_8.out).2.2 | (with_reducible refine Kd.C_alloc ?_ _) | (with_reducible refine Kd.C_drewN ?_ _) | (with_reducible refine Kd.C_drew ?_)))
              (case side2 => exact (Kd.R_reads' HO_8.out).2.1)
              rintro e w74 ⟨rfl, hb⟩
              refine ⟨_, rfl, ?_⟩
              have n0_ := Aside0.mk (Kd.R_below (by (with_reducible repeat (first | apply Kd.R_alloc | apply Kd.R_drewN | apply Kd.R_drew)); exact HO_8.out) hb)
              have n1_ := Aside0.mk (blk_below (g := gb157) (o := .cells #[.bool a1_0, .string a1_1, .int .i64 a1_2] 23 (0, 0)) (by (with_reducible repeat (first | refine blk_drewN ?_ _ | refine blk_drew ?_ | refine blk_alloc ?_ _)); exact BK157.out) hb)
              have n2_ := Aside0.mk (blk_below (g := gb158) (o := .cells #[.bool false, .string (⟨#[]⟩ : ByteArray), .int .i64 0] 23 (0, 0)) (by (with_reducible repeat (first | refine blk_drewN ?_ _ | refine blk_drew ?_ | refine blk_alloc ?_ _)); exact BK158.out) hb)
              have n3_ := Aside0.mk (below_step (by repeat (first | (with_reducible first | exact HB.out | apply below_alloc | apply pw_below_drewN | apply below_drew1 | refine below_set ?_ GE157.out | refine below_set ?_ GE158.out) | exact HB.out)) hb)
              clear HO_8
              clear BK157
              clear BK158
              clear HB
              have HO_8 := n0_
              have BK157 := n1_
              have BK158 := n2_
              have HB := n3_
              clear n0_ n1_ n2_ n3_
              (try clear hb)
              (try clear hb2)
              (try clear hk)
              (try clear hi)
              refine hK.out _ _ ⟨(blk_cell BK157.out 0).trans rfl, (blk_cell BK157.out 1).trans rfl, (blk_cell BK157.out 2).trans rfl⟩ (fun hHeld => ?_)
              clear hK K
              refine norm_ (a' := ?_) ?_ ?_
              rotate_left
              · show Act.put _ (some 63) _ = _
                simp only [Act.put, List.setIfInBounds_toArray, List.set_cons_zero, List.set_cons_succ]; (try simp only [i64_w]); (try simp only [i32_w])
                rfl
              refine pure_ (i := 5) (N := some 65) (v := ?_) (a' := ?_) #[true, true, true, true, true, true, false, false, false] rfl rfl (any_of HT_.out (by kernel_rfl)) (fun _ _ _ h => h) (Or.inl ⟨by rfl, ?_⟩) ?_ ?_
              rotate_left
              · intro w'
                go_simp
                with_reducible rfl
              rotate_left
              · simp only [Act.put, List.setIfInBounds_toArray, List.set_cons_zero, List.set_cons_succ]; (try simp only [i64_w]); (try simp only [i32_w])
                rfl
              refine one_ (i := 6) (N := some 66) #[true, true, true, true, true, true, true, false, false] rfl rfl (one_of HT_.out (by kernel_rfl)) (by decide) (fun K hK => ?_)
              refine goes_ Tryd.func31 (by kernel_rfl) rfl #[.agg #[.bool a1_0, .string t193, .int .i64 a2]] (by rfl) rfl rfl (by (try simp only [List.map_toArray]); (try simp only [List.map_cons]); (try simp only [List.map_nil]); first | done | rfl | (simp only [List.length_drop, List.length_take]; rfl)) ?_
              with_reducible refine (dec_Norm.calls a1_0 t193 a2 t194 t195 t196 _ A71.out).mono ?_
              rintro e w75 ⟨rfl, hb⟩
              refine ⟨_, rfl, ?_⟩
              have n0_ := Aside0.mk (Kd.R_below (by (with_reducible repeat (first | apply Kd.R_alloc | apply Kd.R_drewN | apply Kd.R_drew)); exact HO_8.out) hb)
              have n1_ := Aside0.mk (blk_below (g := gb157) (o := .cells #[.bool a1_0, .string a1_1, .int .i64 a1_2] 23 (0, 0)) (by (with_reducible repeat (first | refine blk_drewN ?_ _ | refine blk_drew ?_ | refine blk_alloc ?_ _)); exact BK157.out) hb)
              have n2_ := Aside0.mk (blk_below (g := gb158) (o := .cells #[.bool false, .string (⟨#[]⟩ : ByteArray), .int .i64 0] 23 (0, 0)) (by (with_reducible repeat (first | refine blk_drewN ?_ _ | refine blk_drew ?_ | refine blk_alloc ?_ _)); exact BK158.out) hb)
              have n3_ := Aside0.mk (below_step (by repeat (first | (with_reducible first | exact HB.out | apply below_alloc | apply pw_below_drewN | apply below_drew1 | refine below_set ?_ GE157.out | refine below_set ?_ GE158.out) | exact HB.out)) hb)
              clear HO_8
              clear BK157
              clear BK158
              clear HB
              have HO_8 := n0_
              have BK157 := n1_
              have BK158 := n2_
              have HB := n3_
              clear n0_ n1_ n2_ n3_
              (try clear hb)
              (try clear hb2)
              (try clear hk)
              (try clear hi)
              refine hK.out _ _ ⟨(blk_cell BK157.out 0).trans rfl, (blk_cell BK157.out 1).trans rfl, (blk_cell BK157.out 2).trans rfl⟩ (fun hHeld => ?_)
              clear hK K
              refine norm_ (a' := ?_) ?_ ?_
              rotate_left
              · show Act.put _ (some 66) _ = _
                simp only [Act.put, List.setIfInBounds_toArray, List.set_cons_zero, List.set_cons_succ]; (try simp only [i64_w]); (try simp only [i32_w])
                rfl
              refine one_ (i := 7) (N := none) #[true, true, true, true, true, true, true, true, false] rfl rfl (one_of HT_.out (by kernel_rfl)) (by decide) (fun K hK => ?_)
              have hs76 : w75.cell? ⟨gb158, 0, none⟩ = some (.bool false) := (blk_cell BK158.out 0).trans rfl
              have hfs76 := blk_frozen BK158.out 0
              have hns76_0 := NB157_158.out
              have hms76_0 := NB158_157.out
              have hs77 : w75.cell? ⟨gb158, 1, none⟩ = some (.string (⟨#[]⟩ : ByteArray)) := (blk_cell BK158.out 1).trans rfl
              have hfs77 := blk_frozen BK158.out 1
              have hns77_0 := NB157_158.out
              have hms77_0 := NB158_157.out
              have hs78 : w75.cell? ⟨gb158, 2, none⟩ = some (.int .i64 0) := (blk_cell BK158.out 2).trans rfl
              have hfs78 := blk_frozen BK158.out 2
              have hns78_0 := NB157_158.out
              have hms78_0 := NB158_157.out
              refine skip_ (w1 := ?_) (by rfl) rfl ?_ ?_
              rotate_left
              · go_simp
                rfl
              refine hK.out _ _ ⟨((cell_far (p := ⟨gb158, _, none⟩) NB157_158.out _).trans (((cell_far (p := ⟨gb158, _, none⟩) NB157_158.out _).trans (((cell_far (p := ⟨gb158, _, none⟩) NB157_158.out _).trans (hHeld.1)))))), ((cell_far (p := ⟨gb158, _, none⟩) NB157_158.out _).trans (((cell_far (p := ⟨gb158, _, none⟩) NB157_158.out _).trans (((cell_far (p := ⟨gb158, _, none⟩) NB157_158.out _).trans (hHeld.2.1)))))), ((cell_far (p := ⟨gb158, _, none⟩) NB157_158.out _).trans (((cell_far (p := ⟨gb158, _, none⟩) NB157_158.out _).trans (((cell_far (p := ⟨gb158, _, none⟩) NB157_158.out _).trans (hHeld.2.2))))))⟩ (fun hHeld => ?_)
              clear hK K
              refine pure_ (i := 8) (N := some 7) (v := ?_) (a' := ?_) #[true, true, true, true, true, true, true, true, true] rfl rfl (any_of HT_.out (by kernel_rfl)) (fun _ _ _ h => h) (Or.inl ⟨by rfl, ?_⟩) ?_ ?_
              rotate_left
              · intro w'
                go_simp
                with_reducible rfl
              rotate_left
              · simp only [Act.put, List.setIfInBounds_toArray, List.set_cons_zero, List.set_cons_succ]; (try simp only [i64_w]); (try simp only [i32_w])
                rfl
              refine done_ (done_of HT_.out (by kernel_rfl)) ?_
              try go_wp2
              refine bodyPost_ret (results_ct rfl _ _ gb158 23 #[.bool t194, .string t195, .int .i64 t196] (0, 0) _ rfl (by (with_reducible repeat (first | refine blk_drewN ?_ _ | refine blk_drew ?_ | refine blk_alloc ?_ _)); refine blk_put (cs := #[.bool t194, .string t195, .int .i64 0]) ?_ 2 _ rfl; (with_reducible repeat (first | refine blk_drewN ?_ _ | refine blk_drew ?_ | refine blk_alloc ?_ _)); refine blk_put (cs := #[.bool t194, .string (⟨#[]⟩ : ByteArray), .int .i64 0]) ?_ 1 _ rfl; (with_reducible repeat (first | refine blk_drewN ?_ _ | refine blk_drew ?_ | refine blk_alloc ?_ _)); refine blk_put (cs := #[.bool false, .string (⟨#[]⟩ : ByteArray), .int .i64 0]) ?_ 0 _ rfl; (with_reducible repeat (first | refine blk_drewN ?_ _ | refine blk_drew ?_ | refine blk_alloc ?_ _)); exact BK158.out) Tryd.underlying23 rfl (by kernel_rfl)) rfl ?_
              exact ⟨by first | rfl | (simp [errW_none, errW_some] <;> rfl) | (simp [*, errW_none, errW_some] <;> rfl), by repeat (first | (with_reducible first | exact HB.out | apply below_alloc | apply pw_below_drewN | apply below_drew1 | refine below_set ?_ GE157.out | refine below_set ?_ GE158.out) | exact HB.out)⟩
  · replace c5 := Bool.eq_false_iff.mpr c5
    subst c5
    have H1 : (some (false, (⟨#[]⟩ : ByteArray), 0, 1)) = some (r1, r2, r3, r4) := by rw [if_neg (show ¬ (false = true) by decide)] at H; exact H
    clear H
    have H := H1
    clear H1
    simp only [Option.some.injEq, Prod.mk.injEq] at H
    obtain ⟨rfl, rfl, rfl, rfl⟩ := H
    go_enter Tryd.func16, Tryd.ntmps16
    go_wp2_with (first | ((with_reducible refine gate_dst (N := 4) rfl ?_); refine box_event ?hg (N := 4) ?hd (cs := #[.bool a1_0, .string a1_1, .int .i64 a1_2]) (t := 23) ?hr ?_; (case hd => rfl); (case hg => rfl); (case hr => first | (go_simp; done) | (go_simp; rfl)); intro gb157 hg w79 hbox hb; have n0_ := Aside0.mk (below_step (by repeat (first | (with_reducible first | exact HB.out | apply below_alloc | apply pw_below_drewN | apply below_drew1) | exact HB.out)) hb); have n1_ := Aside0.mk (hbox); have n2_ := Aside0.mk ((by rw [hg]; exact (below_size (by repeat (first | (with_reducible first | exact HB.out | apply below_alloc | apply pw_below_drewN | apply below_drew1) | exact HB.out))) : w.heap.size ≤ gb157)); have n3_ := Aside0.mk ((by rw [hg]; exact (below_size (by repeat (first | (with_reducible first | exact HB.out | apply below_alloc | apply pw_below_drewN | apply below_drew1) | exact HB.out))) : w.heap.size ≤ gb157)); clear HB; have HB := n0_; have BK157 := n1_; have GW157 := n2_; have GE157 := n3_; clear n0_ n1_ n2_ n3_; clear hb hbox hg) | ((with_reducible refine gate_dst (N := 6) rfl ?_); refine box_event ?hg (N := 6) ?hd (cs := #[.bool false, .string (⟨#[]⟩ : ByteArray), .int .i64 0]) (t := 23) ?hr ?_; (case hd => rfl); (case hg => rfl); (case hr => first | (go_simp; done) | (go_simp; rfl)); intro gb158 hg w80 hbox hb; have n0_ := Aside0.mk (blk_below (g := gb157) (o := .cells #[.bool a1_0, .string a1_1, .int .i64 a1_2] 23 (0, 0)) (by (with_reducible repeat (first | refine blk_drewN ?_ _ | refine blk_drew ?_ | refine blk_alloc ?_ _)); exact BK157.out) hb); have n1_ := Aside0.mk (below_step (by repeat (first | (with_reducible first | exact HB.out | apply below_alloc | apply pw_below_drewN | apply below_drew1 | refine below_set ?_ GE157.out) | exact HB.out)) hb); have n2_ := Aside0.mk (hbox); have n3_ := Aside0.mk ((by rw [hg]; exact (below_size (by repeat (first | (with_reducible first | exact HB.out | apply below_alloc | apply pw_below_drewN | apply below_drew1 | refine below_set ?_ GE157.out) | exact HB.out))) : w.heap.size ≤ gb158)); have n4_ := Aside0.mk ((by rw [hg]; exact (below_size (by repeat (first | (with_reducible first | exact HB.out | apply below_alloc | apply pw_below_drewN | apply below_drew1 | refine below_set ?_ GE157.out) | exact HB.out))) : w.heap.size ≤ gb158)); have n5_ := Aside0.mk ((by rw [hg]; exact Nat.ne_of_lt (blk_lt (g := gb157) (o := .cells #[.bool a1_0, .string a1_1, .int .i64 a1_2] 23 (0, 0)) (by (with_reducible repeat (first | refine blk_drewN ?_ _ | refine blk_drew ?_ | refine blk_alloc ?_ _)); exact BK157.out)) : gb157 ≠ gb158)); have n6_ := Aside0.mk ((by rw [hg]; exact Nat.ne_of_gt (blk_lt (g := gb157) (o := .cells #[.bool a1_0, .string a1_1, .int .i64 a1_2] 23 (0, 0)) (by (with_reducible repeat (first | refine blk_drewN ?_ _ | refine blk_drew ?_ | refine blk_alloc ?_ _)); exact BK157.out)) : gb158 ≠ gb157)); clear BK157; clear HB; have BK157 := n0_; have HB := n1_; have BK158 := n2_; have GW158 := n3_; have GE158 := n4_; have NB157_158 := n5_; have NB158_157 := n6_; clear n0_ n1_ n2_ n3_ n4_ n5_ n6_; clear hb hbox hg) | ((with_reducible refine gate_callee (f := 30) rfl ?_); refine goesL_ (some 13) rfl rfl Tryd.func30 (by kernel_rfl) rfl #[.int .i64 a0] rfl (by (try simp only [List.map_toArray]); (try simp only [List.map_cons]); (try simp only [List.map_nil]); first | done | rfl | (simp only [List.length_drop, List.length_take]; rfl)) ?_; (with_reducible refine (mode_Good.calls a0 false _ A4.out).mono ?_); rintro e w' ⟨rfl, ⟨nd, rfl⟩⟩; refine ⟨_, rfl, ?_⟩; (try (rw [drewN_self w80]; generalize hq_ : World.drewN w80 _ = w80; have n0_ : Aside0 (w80.heap[gb157]? = some (.cells #[.bool a1_0, .string a1_1, .int .i64 a1_2] 23 (0, 0))) := ⟨by rw [← hq_]; exact (by (with_reducible repeat (first | refine blk_drewN ?_ _ | refine blk_drew ?_ | refine blk_alloc ?_ _)); exact BK157.out)⟩; have n1_ : Aside0 (w80.heap[gb158]? = some (.cells #[.bool false, .string (⟨#[]⟩ : ByteArray), .int .i64 0] 23 (0, 0))) := ⟨by rw [← hq_]; exact (by (with_reducible repeat (first | refine blk_drewN ?_ _ | refine blk_drew ?_ | refine blk_alloc ?_ _)); exact BK158.out)⟩; have n2_ : Aside0 (Below w.heap.size w w80) := ⟨by rw [← hq_]; exact (by repeat (first | (with_reducible first | exact HB.out | apply below_alloc | apply pw_below_drewN | apply below_drew1 | refine below_set ?_ GE157.out | refine below_set ?_ GE158.out) | exact HB.out))⟩; clear BK157 BK158 HB hq_; have BK157 := n0_; have BK158 := n1_; have HB := n2_; clear n0_ n1_ n2_)); (try (have hcz9009_0 : w80.cell? ⟨gb157, 0, none⟩ = some (.bool a1_0) := (blk_cell BK157.out 0).trans rfl)); (try (have hcz9009_1 : w80.cell? ⟨gb157, 1, none⟩ = some (.string a1_1) := (blk_cell BK157.out 1).trans rfl)); (try (have hcz9009_2 : w80.cell? ⟨gb157, 2, none⟩ = some (.int .i64 a1_2) := (blk_cell BK157.out 2).trans rfl)); (try (have hfz9009_0 := blk_frozen BK157.out 0)); (try (have hfz9009_1 := blk_frozen BK157.out 1)); (try (have hfz9009_2 := blk_frozen BK157.out 2)); (try (have hcz9010_0 : w80.cell? ⟨gb158, 0, none⟩ = some (.bool false) := (blk_cell BK158.out 0).trans rfl)); (try (have hcz9010_1 : w80.cell? ⟨gb158, 1, none⟩ = some (.string (⟨#[]⟩ : ByteArray)) := (blk_cell BK158.out 1).trans rfl)); (try (have hcz9010_2 : w80.cell? ⟨gb158, 2, none⟩ = some (.int .i64 0) := (blk_cell BK158.out 2).trans rfl)); (try (have hfz9010_0 := blk_frozen BK158.out 0)); (try (have hfz9010_1 := blk_frozen BK158.out 1)); (try (have hfz9010_2 := blk_frozen BK158.out 2)); have hnb81 := NB158_157.out; have hnc81 := NB157_158.out; have hcz82_0 : w80.cell? ⟨gb158, 0, none⟩ = some (.bool false) := (blk_cell BK158.out 0).trans rfl; have hcz82_1 : w80.cell? ⟨gb158, 1, none⟩ = some (.string (⟨#[]⟩ : ByteArray)) := (blk_cell BK158.out 1).trans rfl; have hcz82_2 : w80.cell? ⟨gb158, 2, none⟩ = some (.int .i64 0) := (blk_cell BK158.out 2).trans rfl; have hfz82_0 := blk_frozen BK158.out 0; have hfz82_1 := blk_frozen BK158.out 1; have hfz82_2 := blk_frozen BK158.out 2))
    refine bodyPost_ret (results_ct rfl _ _ gb158 23 #[.bool false, .string (⟨#[]⟩ : ByteArray), .int .i64 0] (0, 0) _ rfl (by (with_reducible repeat (first | refine blk_drewN ?_ _ | refine blk_drew ?_ | refine blk_alloc ?_ _)); refine blk_put (cs := #[.bool false, .string (⟨#[]⟩ : ByteArray), .int .i64 0]) ?_ 2 _ rfl; (with_reducible repeat (first | refine blk_drewN ?_ _ | refine blk_drew ?_ | refine blk_alloc ?_ _)); refine blk_put (cs := #[.bool false, .string (⟨#[]⟩ : ByteArray), .int .i64 0]) ?_ 1 _ rfl; (with_reducible repeat (first | refine blk_drewN ?_ _ | refine blk_drew ?_ | refine blk_alloc ?_ _)); refine blk_put (cs := #[.bool false, .string (⟨#[]⟩ : ByteArray), .int .i64 0]) ?_ 0 _ rfl; (with_reducible repeat (first | refine blk_drewN ?_ _ | refine blk_drew ?_ | refine blk_alloc ?_ _)); exact BK158.out) Tryd.underlying23 rfl (by kernel_rfl)) rfl ?_
    exact ⟨by first | rfl | (simp [errW_none, errW_some] <;> rfl) | (simp [*, errW_none, errW_some] <;> rfl), by repeat (first | (with_reducible first | exact HB.out | apply below_alloc | apply pw_below_drewN | apply below_drew1 | refine below_set ?_ GE157.out | refine below_set ?_ GE158.out) | exact HB.out)⟩
end Go.Proofs.YtjpokifkbclkiaaDoor.Px
end
section
namespace Go.Proofs.YtjpokifkbclkiaaDoor.Px
open Fig Go.RowKit Go.Proofs.YtjpokifkbclkiaaDoorW.PrintWords Go.Proofs.YtjpokifkbclkiaaDoorW.PrintLast Go.Proofs.YtjpokifkbclkiaaDoorW.PrintMore
attribute [local go_sem] max2_int min2_int max_two min_two max_three min_three max_four min_four   -- for this text's walks alone
attribute [local go_sem] fieldA23_0 fieldA23_1 fieldA23_2
def dec_Top.f (a0_0 : Bool) (a0_1 : ByteArray) (a0_2 : Int) : Option (Int) := (dec_Norm.f a0_0 a0_1 a0_2).bind fun bt440 => (if bt440.2.1.toList = ([48] : List UInt8) then (some 0) else (some (wrap64 ((wrap64 (bt440.2.2 + (bt440.2.1.size : Int))) - 1))))
set_option maxHeartbeats 8000000 in
set_option maxRecDepth 100000 in
theorem dec_Top.calls (a0_0 : Bool) (a0_1 : ByteArray) (a0_2 : Int) (r : Int) (w : World) (h : dec_Top.f a0_0 a0_1 a0_2 = some r) :
    Calls Tryd.prog 49 #[.agg #[.bool a0_0, .string a0_1, .int .i64 a0_2]] w fun e w' => e = .returned (.int .i64 r) ∧ Below w.heap.size w w' := by
  have hu23 := Tryd.underlying23
  have HB := Aside0.mk (Below.refl w.heap.size w)
  have H : ((dec_Norm.f a0_0 a0_1 a0_2).bind fun bt440 => (if bt440.2.1.toList = ([48] : List UInt8) then (some 0) else (some (wrap64 ((wrap64 (bt440.2.2 + (bt440.2.1.size : Int))) - 1))))) = some r := h
  clear h
  replace H := Option.bind_eq_some_iff.mp H
  obtain ⟨⟨t440, t441, t442⟩, A20, H⟩ := H
  replace H : (if t441.toList = ([48] : List UInt8) then (some 0) else (some (wrap64 ((wrap64 (t442 + (t441.size : Int))) - 1)))) = some r := H
  have A2 := Aside0.mk A20
  clear A20
  by_cases c3 : t441.toList = ([48] : List UInt8)
  · rw [if_pos c3] at H
    have c3b0 : (t441.toList == ([48] : List UInt8)) = true := beq_iff_eq.mpr c3
    have c3b1 : (t441.toList != ([48] : List UInt8)) = false := bne_eq_false_iff_eq.mpr c3
    clear c3
    obtain rfl := Option.some.inj H
    go_enter Tryd.func49, Tryd.ntmps49
    go_wp2_with (first | ((with_reducible refine gate_dst (N := 1) rfl ?_); refine box_event ?hg (N := 1) ?hd (cs := #[.bool a0_0, .string a0_1, .int .i64 a0_2]) (t := 23) ?hr ?_; (case hd => rfl); (case hg => rfl); (case hr => first | (go_simp; done) | (go_simp; rfl)); intro gb439 hg w4 hbox hb; have n0_ := Aside0.mk (below_step (by repeat (first | (with_reducible first | exact HB.out | apply below_alloc | apply pw_below_drewN | apply below_drew1) | exact HB.out)) hb); have n1_ := Aside0.mk (hbox); have n2_ := Aside0.mk ((by rw [hg]; exact (below_size (by repeat (first | (with_reducible first | exact HB.out | apply below_alloc | apply pw_below_drewN | apply below_drew1) | exact HB.out))) : w.heap.size ≤ gb439)); have n3_ := Aside0.mk ((by rw [hg]; exact (below_size (by repeat (first | (with_reducible first | exact HB.out | apply below_alloc | apply pw_below_drewN | apply below_drew1) | exact HB.out))) : w.heap.size ≤ gb439)); clear HB; have HB := n0_; have BK439 := n1_; have GW439 := n2_; have GE439 := n3_; clear n0_ n1_ n2_ n3_; clear hb hbox hg; have hcz5_0 : w4.cell? ⟨gb439, 0, none⟩ = some (.bool a0_0) := (blk_cell BK439.out 0).trans rfl; have hcz5_1 : w4.cell? ⟨gb439, 1, none⟩ = some (.string a0_1) := (blk_cell BK439.out 1).trans rfl; have hcz5_2 : w4.cell? ⟨gb439, 2, none⟩ = some (.int .i64 a0_2) := (blk_cell BK439.out 2).trans rfl; have hfz5_0 := blk_frozen BK439.out 0; have hfz5_1 := blk_frozen BK439.out 1; have hfz5_2 := blk_frozen BK439.out 2) | ((with_reducible refine gate_callee (f := 31) rfl ?_); refine goesL_ (some 4) rfl rfl Tryd.func31 (by kernel_rfl) rfl #[.agg #[.bool a0_0, .string a0_1, .int .i64 a0_2]] rfl (by (try simp only [List.map_toArray]); (try simp only [List.map_cons]); (try simp only [List.map_nil]); first | done | rfl | (simp only [List.length_drop, List.length_take]; rfl)) ?_; (with_reducible refine (dec_Norm.calls a0_0 a0_1 a0_2 t440 t441 t442 _ A2.out).mono ?_); rintro e w6 ⟨rfl, hb⟩; refine ⟨_, rfl, ?_⟩; have n0_ := Aside0.mk (blk_below (g := gb439) (o := .cells #[.bool a0_0, .string a0_1, .int .i64 a0_2] 23 (0, 0)) (by (with_reducible repeat (first | refine blk_drewN ?_ _ | refine blk_drew ?_ | refine blk_alloc ?_ _)); exact BK439.out) hb); have n1_ := Aside0.mk (below_step (by repeat (first | (with_reducible first | exact HB.out | apply below_alloc | apply pw_below_drewN | apply below_drew1 | refine below_set ?_ GE439.out) | exact HB.out)) hb); clear BK439; clear HB; have BK439 := n0_; have HB := n1_; clear n0_ n1_; (try clear hb); (try clear hb2); (try clear hk); (try clear hi); have hcz7_0 : w6.cell? ⟨gb439, 0, none⟩ = some (.bool a0_0) := (blk_cell BK439.out 0).trans rfl; have hcz7_1 : w6.cell? ⟨gb439, 1, none⟩ = some (.string a0_1) := (blk_cell BK439.out 1).trans rfl; have hcz7_2 : w6.cell? ⟨gb439, 2, none⟩ = some (.int .i64 a0_2) := (blk_cell BK439.out 2).trans rfl; have hfz7_0 := blk_frozen BK439.out 0; have hfz7_1 := blk_frozen BK439.out 1; have hfz7_2 := blk_frozen BK439.out 2))
    go_ret
    exact ⟨by first | rfl | (simp [errW_none, errW_some] <;> rfl) | (simp [*, errW_none, errW_some] <;> rfl), by repeat (first | (with_reducible first | exact HB.out | apply below_alloc | apply pw_below_drewN | apply below_drew1 | refine below_set ?_ GE439.out) | exact HB.out)⟩
  · rw [if_neg c3] at H
    have c3b0 : (t441.toList == ([48] : List UInt8)) = false := beq_eq_false_iff_ne.mpr c3
    have c3b1 : (t441.toList != ([48] : List UInt8)) = true := bne_iff_ne.mpr c3
    obtain rfl := Option.some.inj H
    go_enter Tryd.func49, Tryd.ntmps49
    go_wp2_with (first | ((with_reducible refine gate_dst (N := 1) rfl ?_); refine box_event ?hg (N := 1) ?hd (cs := #[.bool a0_0, .string a0_1, .int .i64 a0_2]) (t := 23) ?hr ?_; (case hd => rfl); (case hg => rfl); (case hr => first | (go_simp; done) | (go_simp; rfl)); intro gb439 hg w8 hbox hb; have n0_ := Aside0.mk (below_step (by repeat (first | (with_reducible first | exact HB.out | apply below_alloc | apply pw_below_drewN | apply below_drew1) | exact HB.out)) hb); have n1_ := Aside0.mk (hbox); have n2_ := Aside0.mk ((by rw [hg]; exact (below_size (by repeat (first | (with_reducible first | exact HB.out | apply below_alloc | apply pw_below_drewN | apply below_drew1) | exact HB.out))) : w.heap.size ≤ gb439)); have n3_ := Aside0.mk ((by rw [hg]; exact (below_size (by repeat (first | (with_reducible first | exact HB.out | apply below_alloc | apply pw_below_drewN | apply below_drew1) | exact HB.out))) : w.heap.size ≤ gb439)); clear HB; have HB := n0_; have BK439 := n1_; have GW439 := n2_; have GE439 := n3_; clear n0_ n1_ n2_ n3_; clear hb hbox hg; have hcz9_0 : w8.cell? ⟨gb439, 0, none⟩ = some (.bool a0_0) := (blk_cell BK439.out 0).trans rfl; have hcz9_1 : w8.cell? ⟨gb439, 1, none⟩ = some (.string a0_1) := (blk_cell BK439.out 1).trans rfl; have hcz9_2 : w8.cell? ⟨gb439, 2, none⟩ = some (.int .i64 a0_2) := (blk_cell BK439.out 2).trans rfl; have hfz9_0 := blk_frozen BK439.out 0; have hfz9_1 := blk_frozen BK439.out 1; have hfz9_2 := blk_frozen BK439.out 2) | ((with_reducible refine gate_callee (f := 31) rfl ?_); refine goesL_ (some 4) rfl rfl Tryd.func31 (by kernel_rfl) rfl #[.agg #[.bool a0_0, .string a0_1, .int .i64 a0_2]] rfl (by (try simp only [List.map_toArray]); (try simp only [List.map_cons]); (try simp only [List.map_nil]); first | done | rfl | (simp only [List.length_drop, List.length_take]; rfl)) ?_; (with_reducible refine (dec_Norm.calls a0_0 a0_1 a0_2 t440 t441 t442 _ A2.out).mono ?_); rintro e w10 ⟨rfl, hb⟩; refine ⟨_, rfl, ?_⟩; have n0_ := Aside0.mk (blk_below (g := gb439) (o := .cells #[.bool a0_0, .string a0_1, .int .i64 a0_2] 23 (0, 0)) (by (with_reducible repeat (first | refine blk_drewN ?_ _ | refine blk_drew ?_ | refine blk_alloc ?_ _)); exact BK439.out) hb); have n1_ := Aside0.mk (below_step (by repeat (first | (with_reducible first | exact HB.out | apply below_alloc | apply pw_below_drewN | apply below_drew1 | refine below_set ?_ GE439.out) | exact HB.out)) hb); clear BK439; clear HB; have BK439 := n0_; have HB := n1_; clear n0_ n1_; (try clear hb); (try clear hb2); (try clear hk); (try clear hi); have hcz11_0 : w10.cell? ⟨gb439, 0, none⟩ = some (.bool a0_0) := (blk_cell BK439.out 0).trans rfl; have hcz11_1 : w10.cell? ⟨gb439, 1, none⟩ = some (.string a0_1) := (blk_cell BK439.out 1).trans rfl; have hcz11_2 : w10.cell? ⟨gb439, 2, none⟩ = some (.int .i64 a0_2) := (blk_cell BK439.out 2).trans rfl; have hfz11_0 := blk_frozen BK439.out 0; have hfz11_1 := blk_frozen BK439.out 1; have hfz11_2 := blk_frozen BK439.out 2))
    go_ret
    exact ⟨by first | rfl | (simp [errW_none, errW_some] <;> rfl) | (simp [*, errW_none, errW_some] <;> rfl), by repeat (first | (with_reducible first | exact HB.out | apply below_alloc | apply pw_below_drewN | apply below_drew1 | refine below_set ?_ GE439.out) | exact HB.out)⟩
end Go.Proofs.YtjpokifkbclkiaaDoor.Px
end
section
namespace Go.Proofs.YtjpokifkbclkiaaDoor.Px
open Fig Go.RowKit Go.Proofs.YtjpokifkbclkiaaDoorW.PrintWords Go.Proofs.YtjpokifkbclkiaaDoorW.PrintLast Go.Proofs.YtjpokifkbclkiaaDoorW.PrintMore
attribute [local go_sem] max2_int min2_int max_two min_two max_three min_three max_four min_four   -- for this text's walks alone
attribute [local go_sem] fieldA23_0 fieldA23_1 fieldA23_2
def sig_Place.f (a0_0 : Bool) (a0_1 : ByteArray) (a0_2 : Int) (a1 : Int) : Option (Int) := (dec_Top.f a0_0 a0_1 a0_2).bind fun t444 => (some (wrap64 ((wrap64 (t444 - (mx a1 1))) + 1)))
set_option maxHeartbeats 8000000 in
set_option maxRecDepth 100000 in
theorem sig_Place.calls (a0_0 : Bool) (a0_1 : ByteArray) (a0_2 : Int) (a1 : Int) (r : Int) (w : World) (h : sig_Place.f a0_0 a0_1 a0_2 a1 = some r) :
    Calls Tryd.prog 28 #[.agg #[.bool a0_0, .string a0_1, .int .i64 a0_2], .int .i64 a1] w fun e w' => e = .returned (.int .i64 r) ∧ Below w.heap.size w w' := by
  have hu23 := Tryd.underlying23
  have HB := Aside0.mk (Below.refl w.heap.size w)
  have H : ((dec_Top.f a0_0 a0_1 a0_2).bind fun t444 => (some (wrap64 ((wrap64 (t444 - (mx a1 1))) + 1)))) = some r := h
  clear h
  replace H := Option.bind_eq_some_iff.mp H
  obtain ⟨t444, A30, H⟩ := H
  replace H : (some (wrap64 ((wrap64 (t444 - (mx a1 1))) + 1))) = some r := H
  have A3 := Aside0.mk A30
  clear A30
  obtain ⟨ji4, hji4⟩ : ∃ j_ : Int, (mx a1 1) = j_ := ⟨_, rfl⟩
  replace H : (some (wrap64 ((wrap64 (t444 - (ji4))) + 1))) = some r := by first | (rw [hji4] at H; exact H) | (simp only [hji4] at H ⊢; exact H)
  (try rw [hji4] at A3)
  (try (have hji4l : 1 ≤ ji4 := by (rw [← hji4]; unfold mx; (repeat' split) <;> omega)))
  (try (have hji4m : 0 ≤ ji4 := by omega))
  have hji4_ : (if a1 < 1 then 1 else a1) = ji4 := hji4
  obtain rfl := Option.some.inj H
  go_enter Tryd.func28, Tryd.ntmps28
  go_wp2_with (first | ((with_reducible refine gate_dst (N := 2) rfl ?_); refine box_event ?hg (N := 2) ?hd (cs := #[.bool a0_0, .string a0_1, .int .i64 a0_2]) (t := 23) ?hr ?_; (case hd => rfl); (case hg => rfl); (case hr => first | (go_simp; done) | (go_simp; rfl)); intro gb443 hg w5 hbox hb; have n0_ := Aside0.mk (below_step (by repeat (first | (with_reducible first | exact HB.out | apply below_alloc | apply pw_below_drewN | apply below_drew1) | exact HB.out)) hb); have n1_ := Aside0.mk (hbox); have n2_ := Aside0.mk ((by rw [hg]; exact (below_size (by repeat (first | (with_reducible first | exact HB.out | apply below_alloc | apply pw_below_drewN | apply below_drew1) | exact HB.out))) : w.heap.size ≤ gb443)); have n3_ := Aside0.mk ((by rw [hg]; exact (below_size (by repeat (first | (with_reducible first | exact HB.out | apply below_alloc | apply pw_below_drewN | apply below_drew1) | exact HB.out))) : w.heap.size ≤ gb443)); clear HB; have HB := n0_; have BK443 := n1_; have GW443 := n2_; have GE443 := n3_; clear n0_ n1_ n2_ n3_; clear hb hbox hg; have hcz6_0 : w5.cell? ⟨gb443, 0, none⟩ = some (.bool a0_0) := (blk_cell BK443.out 0).trans rfl; have hcz6_1 : w5.cell? ⟨gb443, 1, none⟩ = some (.string a0_1) := (blk_cell BK443.out 1).trans rfl; have hcz6_2 : w5.cell? ⟨gb443, 2, none⟩ = some (.int .i64 a0_2) := (blk_cell BK443.out 2).trans rfl; have hfz6_0 := blk_frozen BK443.out 0; have hfz6_1 := blk_frozen BK443.out 1; have hfz6_2 := blk_frozen BK443.out 2) | ((with_reducible refine gate_callee (f := 49) rfl ?_); refine goesL_ (some 6) rfl rfl Tryd.func49 (by kernel_rfl) rfl #[.agg #[.bool a0_0, .string a0_1, .int .i64 a0_2]] rfl (by (try simp only [List.map_toArray]); (try simp only [List.map_cons]); (try simp only [List.map_nil]); first | done | rfl | (simp only [List.length_drop, List.length_take]; rfl)) ?_; (with_reducible refine (dec_Top.calls a0_0 a0_1 a0_2 t444 _ A3.out).mono ?_); rintro e w7 ⟨rfl, hb⟩; refine ⟨_, rfl, ?_⟩; have n0_ := Aside0.mk (blk_below (g := gb443) (o := .cells #[.bool a0_0, .string a0_1, .int .i64 a0_2] 23 (0, 0)) (by (with_reducible repeat (first | refine blk_drewN ?_ _ | refine blk_drew ?_ | refine blk_alloc ?_ _)); exact BK443.out) hb); have n1_ := Aside0.mk (below_step (by repeat (first | (with_reducible first | exact HB.out | apply below_alloc | apply pw_below_drewN | apply below_drew1 | refine below_set ?_ GE443.out) | exact HB.out)) hb); clear BK443; clear HB; have BK443 := n0_; have HB := n1_; clear n0_ n1_; (try clear hb); (try clear hb2); (try clear hk); (try clear hi)))
  go_ret
  exact ⟨by first | rfl | (simp [errW_none, errW_some] <;> rfl) | (simp only [← hji4]; first | rfl | (simp [errW_none, errW_some] <;> rfl)) | (simp [*, errW_none, errW_some] <;> rfl), by repeat (first | (with_reducible first | exact HB.out | apply below_alloc | apply pw_below_drewN | apply below_drew1 | refine below_set ?_ GE443.out) | exact HB.out)⟩
end Go.Proofs.YtjpokifkbclkiaaDoor.Px
end
section
namespace Go.Proofs.YtjpokifkbclkiaaDoor.Px
open Fig Go.RowKit Go.Proofs.YtjpokifkbclkiaaDoorW.PrintWords Go.Proofs.YtjpokifkbclkiaaDoorW.PrintLast Go.Proofs.YtjpokifkbclkiaaDoorW.PrintMore
attribute [local go_sem] max2_int min2_int max_two min_two max_three min_three max_four min_four   -- for this text's walks alone
attribute [local go_sem] fieldA23_0 fieldA23_1 fieldA23_2
def sig_Round.j0 : Nat → Int → Int → Bool → Bool → ByteArray → Int → Option (Bool × ByteArray × Int × Int)
  | 0, _, _, _, _, _, _ => none
  | k + 1, x0, x2, x14, x446000, x446001, x446002 => if x14 = true then (some (false, (⟨#[]⟩ : ByteArray), 0, 1)) else ((sig_Place.f x446000 x446001 x446002 x2).bind fun t448 => ((place_Round.f k x0 x446000 x446001 x446002 t448).bind fun bt449 => (some (bt449.1, bt449.2.1, bt449.2.2.1, bt449.2.2.2))))
def sig_Round.f (k : Nat) (a0 : Int) (a1_0 : Bool) (a1_1 : ByteArray) (a1_2 : Int) (a2 : Int) : Option (Bool × ByteArray × Int × Int) := (mode_Good.f a0).bind fun t447 => (if t447 = true then (sig_Round.j0 k a0 a2 (decide (a2 < 1)) a1_0 a1_1 a1_2) else (sig_Round.j0 k a0 a2 true a1_0 a1_1 a1_2))
theorem sig_Round.mono_l : ∀ k, (∀ y0 y1 y2 y3 y4 y5, LeO (sig_Round.j0 k y0 y1 y2 y3 y4 y5) (sig_Round.j0 (k + 1) y0 y1 y2 y3 y4 y5))
  | 0 => fun _ _ _ _ _ _ r h => by simp [sig_Round.j0] at h
  | k + 1 => by
    have ih0 := sig_Round.mono_l k
    · intro y0 y1 y2 y3 y4 y5
      unfold sig_Round.j0
      repeat' first
      | (with_reducible exact ih0 _ _ _ _ _ _)
      | (with_reducible exact place_Round.mono _ _ _ _ _ _)
      | (with_reducible exact LeO.refl _)
      | (with_reducible exact LeO.none _)
      | (with_reducible refine LeO.ite ?_ ?_)
      | (with_reducible refine LeO.bind ?_ (fun _ => ?_))
      | exact ih0 _ _ _ _ _ _
      | exact place_Round.mono _ _ _ _ _ _
      | exact LeO.none _
      | refine LeO.ite ?_ ?_
      | refine LeO.bind ?_ (fun _ => ?_)
theorem sig_Round.mono : ∀ a0 a1 a2 a3 a4 k, LeO (sig_Round.f k a0 a1 a2 a3 a4) (sig_Round.f (k + 1) a0 a1 a2 a3 a4) := by
  intro a0 a1 a2 a3 a4 k
  have ih0 := sig_Round.mono_l k
  unfold sig_Round.f
  repeat' first
      | (with_reducible exact ih0 _ _ _ _ _ _)
      | (with_reducible exact place_Round.mono _ _ _ _ _ _)
      | (with_reducible exact LeO.refl _)
      | (with_reducible exact LeO.none _)
      | (with_reducible refine LeO.ite ?_ ?_)
      | (with_reducible refine LeO.bind ?_ (fun _ => ?_))
      | exact ih0 _ _ _ _ _ _
      | exact place_Round.mono _ _ _ _ _ _
      | exact LeO.none _
      | refine LeO.ite ?_ ?_
      | refine LeO.bind ?_ (fun _ => ?_)
def sig_Round.T3 : Bool × List (List Nat × List Nat) := (true, [([], []), ([], []), ([], []), ([], []), ([2, 3], [2, 3]), ([0, 1, 4, 4], [0, 1, 4]), ([5], [5]), ([5], [5]), ([6, 5, 0, 1, 2, 3, 4, 5, 6, 7], [6]), ([7, 8, 0, 1, 2, 3, 4, 5, 6, 7, 8], [7])])
def sig_Round.B3 : List Nat := [0, 0, 0, 0, 12, 31, 63, 63, 255, 511]
theorem sig_Round.tab3 : rtab .any (opsOf Tryd.f25 3) = sig_Round.T3 := by kernel_rfl
theorem sig_Round.bits3 : waitsOk sig_Round.T3.2 sig_Round.B3 = true := by kernel_rfl
set_option maxHeartbeats 8000000 in
set_option maxRecDepth 100000 in
theorem sig_Round.calls (k : Nat) (a0 : Int) (a1_0 : Bool) (a1_1 : ByteArray) (a1_2 : Int) (a2 : Int) (r1 : Bool) (r2 : ByteArray) (r3 : Int) (r4 : Int) (w : World) (hG : Fig.Glob w) (h : sig_Round.f k a0 a1_0 a1_1 a1_2 a2 = some (r1, r2, r3, r4)) :
    Calls Tryd.prog 25 #[.int .i64 a0, .agg #[.bool a1_0, .string a1_1, .int .i64 a1_2], .int .i64 a2] w fun e w' => e = .returned (.tuple #[.agg #[.bool r1, .string r2, .int .i64 r3], .int .i64 r4]) ∧ Below w.heap.size w w' := by
  have hu23 := Tryd.underlying23
  have HG := Aside0.mk hG
  clear hG
  have HB := Aside0.mk (Below.refl w.heap.size w)
  have H : ((mode_Good.f a0).bind fun t447 => (if t447 = true then (sig_Round.j0 k a0 a2 (decide (a2 < 1)) a1_0 a1_1 a1_2) else (sig_Round.j0 k a0 a2 true a1_0 a1_1 a1_2))) = some (r1, r2, r3, r4) := h
  clear h
  have HC4 := Aside0.mk H
  clear H
  go_enter Tryd.func25, Tryd.ntmps25
  go_upto_region 1 with (first | ((with_reducible refine gate_dst (N := 4) rfl ?_); refine box_event ?hg (N := 4) ?hd (cs := #[.bool a1_0, .string a1_1, .int .i64 a1_2]) (t := 23) ?hr ?_; (case hd => rfl); (case hg => rfl); (case hr => first | (go_simp; done) | (go_simp; rfl)); intro gb445 hg w5 hbox hb; have n0_ := Aside0.mk (below_step (by repeat (first | (with_reducible first | exact HB.out | apply below_alloc | apply pw_below_drewN | apply below_drew1) | exact HB.out)) hb); have n1_ := Aside0.mk (hbox); have n2_ := Aside0.mk ((by rw [hg]; exact (below_size (by repeat (first | (with_reducible first | exact HB.out | apply below_alloc | apply pw_below_drewN | apply below_drew1) | exact HB.out))) : w.heap.size ≤ gb445)); have n3_ := Aside0.mk ((by rw [hg]; exact (below_size (by repeat (first | (with_reducible first | exact HB.out | apply below_alloc | apply pw_below_drewN | apply below_drew1) | exact HB.out))) : w.heap.size ≤ gb445)); clear HB; have HB := n0_; have BK445 := n1_; have GW445 := n2_; have GE445 := n3_; clear n0_ n1_ n2_ n3_; clear hb hbox hg) | ((with_reducible refine gate_dst (N := 6) rfl ?_); refine box_event ?hg (N := 6) ?hd (cs := #[.bool false, .string (⟨#[]⟩ : ByteArray), .int .i64 0]) (t := 23) ?hr ?_; (case hd => rfl); (case hg => rfl); (case hr => first | (go_simp; done) | (go_simp; rfl)); intro gb446 hg w6 hbox hb; have n0_ := Aside0.mk (blk_below (g := gb445) (o := .cells #[.bool a1_0, .string a1_1, .int .i64 a1_2] 23 (0, 0)) (by (with_reducible repeat (first | refine blk_drewN ?_ _ | refine blk_drew ?_ | refine blk_alloc ?_ _)); exact BK445.out) hb); have n1_ := Aside0.mk (below_step (by repeat (first | (with_reducible first | exact HB.out | apply below_alloc | apply pw_below_drewN | apply below_drew1 | refine below_set ?_ GE445.out) | exact HB.out)) hb); have n2_ := Aside0.mk (hbox); have n3_ := Aside0.mk ((by rw [hg]; exact (below_size (by repeat (first | (with_reducible first | exact HB.out | apply below_alloc | apply pw_below_drewN | apply below_drew1 | refine below_set ?_ GE445.out) | exact HB.out))) : w.heap.size ≤ gb446)); have n4_ := Aside0.mk ((by rw [hg]; exact (below_size (by repeat (first | (with_reducible first | exact HB.out | apply below_alloc | apply pw_below_drewN | apply below_drew1 | refine below_set ?_ GE445.out) | exact HB.out))) : w.heap.size ≤ gb446)); have n5_ := Aside0.mk ((by rw [hg]; exact Nat.ne_of_lt (blk_lt (g := gb445) (o := .cells #[.bool a1_0, .string a1_1, .int .i64 a1_2] 23 (0, 0)) (by (with_reducible repeat (first | refine blk_drewN ?_ _ | refine blk_drew ?_ | refine blk_alloc ?_ _)); exact BK445.out)) : gb445 ≠ gb446)); have n6_ := Aside0.mk ((by rw [hg]; exact Nat.ne_of_gt (blk_lt (g := gb445) (o := .cells #[.bool a1_0, .string a1_1, .int .i64 a1_2] 23 (0, 0)) (by (with_reducible repeat (first | refine blk_drewN ?_ _ | refine blk_drew ?_ | refine blk_alloc ?_ _)); exact BK445.out)) : gb446 ≠ gb445)); clear BK445; clear HB; have BK445 := n0_; have HB := n1_; have BK446 := n2_; have GW446 := n3_; have GE446 := n4_; have NB445_446 := n5_; have NB446_445 := n6_; clear n0_ n1_ n2_ n3_ n4_ n5_ n6_; clear hb hbox hg))
  (try simp only [Act.put, List.setIfInBounds_toArray, List.set_cons_zero, List.set_cons_succ])
  go_cut [14] (fun v14 wc => ∃ (kq : Nat) (x14_3 : Bool), v14 = .bool x14_3 ∧ Aside0 (sig_Round.j0 kq a0 a2 x14_3 a1_0 a1_1 a1_2 = some (r1, r2, r3, r4)) ∧ Aside0 (kq ≤ k) ∧ Aside0 (wc.heap[gb445]? = some (.cells #[.bool a1_0, .string a1_1, .int .i64 a1_2] 23 (0, 0))) ∧ Aside0 (wc.heap[gb446]? = some (.cells #[.bool false, .string (⟨#[]⟩ : ByteArray), .int .i64 0] 23 (0, 0))) ∧ Aside0 (Below w.heap.size w wc))
  case first =>
    have H := HC4.out
    clear HC4
    replace H := Option.bind_eq_some_iff.mp H
    obtain ⟨t447, A70, H⟩ := H
    replace H : (if t447 = true then (sig_Round.j0 k a0 a2 (decide (a2 < 1)) a1_0 a1_1 a1_2) else (sig_Round.j0 k a0 a2 true a1_0 a1_1 a1_2)) = some (r1, r2, r3, r4) := H
    have A7 := Aside0.mk A70
    clear A70
    by_cases c8 : t447 = true
    · subst c8
      have H1 : (sig_Round.j0 k a0 a2 (decide (a2 < 1)) a1_0 a1_1 a1_2) = some (r1, r2, r3, r4) := by rw [if_pos rfl] at H; exact H
      clear H
      have H := H1
      clear H1
      have H' := Aside0.mk H
      clear H
      go_wp2_with (first | ((with_reducible refine gate_callee (f := 30) rfl ?_); refine goesL_ (some 9) rfl rfl Tryd.func30 (by kernel_rfl) rfl #[.int .i64 a0] rfl (by (try simp only [List.map_toArray]); (try simp only [List.map_cons]); (try simp only [List.map_nil]); first | done | rfl | (simp only [List.length_drop, List.length_take]; rfl)) ?_; (with_reducible refine (mode_Good.calls a0 true _ A7.out).mono ?_); rintro e w' ⟨rfl, ⟨nd, rfl⟩⟩; refine ⟨_, rfl, ?_⟩))
      go_meet
      case rel => exact ⟨_, (decide (a2 < 1)), (by first | rfl | (simp; done) | (simp [*]; done) | (simp [*, Fig.bne_nil]; done)), H', ⟨by first | omega | exact Nat.le_refl _⟩, ⟨by (with_reducible repeat (first | refine blk_drewN ?_ _ | refine blk_drew ?_ | refine blk_alloc ?_ _)); exact BK445.out⟩, ⟨by (with_reducible repeat (first | refine blk_drewN ?_ _ | refine blk_drew ?_ | refine blk_alloc ?_ _)); exact BK446.out⟩, ⟨by repeat (first | (with_reducible first | exact HB.out | apply below_alloc | apply pw_below_drewN | apply below_drew1 | refine below_set ?_ GE445.out | refine below_set ?_ GE446.out) | exact HB.out)⟩⟩
    · replace c8 := Bool.eq_false_iff.mpr c8
      subst c8
      have H1 : (sig_Round.j0 k a0 a2 true a1_0 a1_1 a1_2) = some (r1, r2, r3, r4) := by rw [if_neg (show ¬ (false = true) by decide)] at H; exact H
      clear H
      have H := H1
      clear H1
      have H' := Aside0.mk H
      clear H
      go_wp2_with (first | ((with_reducible refine gate_callee (f := 30) rfl ?_); refine goesL_ (some 9) rfl rfl Tryd.func30 (by kernel_rfl) rfl #[.int .i64 a0] rfl (by (try simp only [List.map_toArray]); (try simp only [List.map_cons]); (try simp only [List.map_nil]); first | done | rfl | (simp only [List.length_drop, List.length_take]; rfl)) ?_; (with_reducible refine (mode_Good.calls a0 false _ A7.out).mono ?_); rintro e w' ⟨rfl, ⟨nd, rfl⟩⟩; refine ⟨_, rfl, ?_⟩))
      go_meet
      case rel => exact ⟨_, (true), (by first | rfl | (simp; done) | (simp [*]; done) | (simp [*, Fig.bne_nil]; done)), H', ⟨by first | omega | exact Nat.le_refl _⟩, ⟨by (with_reducible repeat (first | refine blk_drewN ?_ _ | refine blk_drew ?_ | refine blk_alloc ?_ _)); exact BK445.out⟩, ⟨by (with_reducible repeat (first | refine blk_drewN ?_ _ | refine blk_drew ?_ | refine blk_alloc ?_ _)); exact BK446.out⟩, ⟨by repeat (first | (with_reducible first | exact HB.out | apply below_alloc | apply pw_below_drewN | apply below_drew1 | refine below_set ?_ GE445.out | refine below_set ?_ GE446.out) | exact HB.out)⟩⟩
  case rest =>
    clear HC4
    try clear c2
    try clear p2
    try clear c3
    try clear c8
    obtain ⟨kq, x14_3, rfl, HA, HJ3, BK445, BK446, HB⟩ := hcut
    cases kq with
    | zero => exact absurd HA.out (by simp [sig_Round.j0])
    | succ kj3 =>
      have H := HA.out
      clear HA
      simp only [sig_Round.j0] at H
      by_cases c9 : x14_3 = true
      · subst c9
        have H1 : (some (false, (⟨#[]⟩ : ByteArray), 0, 1)) = some (r1, r2, r3, r4) := by rw [if_pos rfl] at H; exact H
        clear H
        have H := H1
        clear H1
        simp only [Option.some.injEq, Prod.mk.injEq] at H
        obtain ⟨rfl, rfl, rfl, rfl⟩ := H
        have hnb10 := NB446_445.out
        have hnc10 := NB445_446.out
        have hcz11_0 : wc.cell? ⟨gb446, 0, none⟩ = some (.bool false) := (blk_cell BK446.out 0).trans rfl
        have hcz11_1 : wc.cell? ⟨gb446, 1, none⟩ = some (.string (⟨#[]⟩ : ByteArray)) := (blk_cell BK446.out 1).trans rfl
        have hcz11_2 : wc.cell? ⟨gb446, 2, none⟩ = some (.int .i64 0) := (blk_cell BK446.out 2).trans rfl
        have hfz11_0 := blk_frozen BK446.out 0
        have hfz11_1 := blk_frozen BK446.out 1
        have hfz11_2 := blk_frozen BK446.out 2
        go_wp2
        refine bodyPost_ret (results_ct rfl _ _ gb446 23 #[.bool false, .string (⟨#[]⟩ : ByteArray), .int .i64 0] (0, 0) _ rfl (by (with_reducible repeat (first | refine blk_drewN ?_ _ | refine blk_drew ?_ | refine blk_alloc ?_ _)); refine blk_put (cs := #[.bool false, .string (⟨#[]⟩ : ByteArray), .int .i64 0]) ?_ 2 _ rfl; (with_reducible repeat (first | refine blk_drewN ?_ _ | refine blk_drew ?_ | refine blk_alloc ?_ _)); refine blk_put (cs := #[.bool false, .string (⟨#[]⟩ : ByteArray), .int .i64 0]) ?_ 1 _ rfl; (with_reducible repeat (first | refine blk_drewN ?_ _ | refine blk_drew ?_ | refine blk_alloc ?_ _)); refine blk_put (cs := #[.bool false, .string (⟨#[]⟩ : ByteArray), .int .i64 0]) ?_ 0 _ rfl; (with_reducible repeat (first | refine blk_drewN ?_ _ | refine blk_drew ?_ | refine blk_alloc ?_ _)); exact BK446.out) Tryd.underlying23 rfl (by kernel_rfl)) rfl ?_
        exact ⟨by first | rfl | (simp [errW_none, errW_some] <;> rfl) | (simp [*, errW_none, errW_some] <;> rfl), by repeat (first | (with_reducible first | exact HB.out | apply below_alloc | apply pw_below_drewN | apply below_drew1 | refine below_set ?_ GE445.out | refine below_set ?_ GE446.out) | exact HB.out)⟩
      · replace c9 := Bool.eq_false_iff.mpr c9
        subst c9
        have H1 : ((sig_Place.f a1_0 a1_1 a1_2 a2).bind fun t448 => ((place_Round.f kj3 a0 a1_0 a1_1 a1_2 t448).bind fun bt449 => (some (bt449.1, bt449.2.1, bt449.2.2.1, bt449.2.2.2)))) = some (r1, r2, r3, r4) := by rw [if_neg (show ¬ (false = true) by decide)] at H; exact H
        clear H
        have H := H1
        clear H1
        replace H := Option.bind_eq_some_iff.mp H
        obtain ⟨t448, A120, H⟩ := H
        replace H : ((place_Round.f kj3 a0 a1_0 a1_1 a1_2 t448).bind fun bt449 => (some (bt449.1, bt449.2.1, bt449.2.2.1, bt449.2.2.2))) = some (r1, r2, r3, r4) := H
        have A12 := Aside0.mk A120
        clear A120
        replace H := Option.bind_eq_some_iff.mp H
        obtain ⟨⟨t449, t450, t451, t452⟩, A130, H⟩ := H
        replace H : (some (t449, t450, t451, t452)) = some (r1, r2, r3, r4) := H
        have A13 := Aside0.mk A130
        clear A130
        simp only [Option.some.injEq, Prod.mk.injEq] at H
        obtain ⟨rfl, rfl, rfl, rfl⟩ := H
        try go_wp2
        (try (rw [drewN_self wc]; generalize hq_ : World.drewN wc _ = wc; have n0_ : Aside0 (wc.heap[gb445]? = some (.cells #[.bool a1_0, .string a1_1, .int .i64 a1_2] 23 (0, 0))) := ⟨by rw [← hq_]; exact (by (with_reducible repeat (first | refine blk_drewN ?_ _ | refine blk_drew ?_ | refine blk_alloc ?_ _)); exact BK445.out)⟩; have n1_ : Aside0 (wc.heap[gb446]? = some (.cells #[.bool false, .string (⟨#[]⟩ : ByteArray), .int .i64 0] 23 (0, 0))) := ⟨by rw [← hq_]; exact (by (with_reducible repeat (first | refine blk_drewN ?_ _ | refine blk_drew ?_ | refine blk_alloc ?_ _)); exact BK446.out)⟩; have n2_ : Aside0 (Below w.heap.size w wc) := ⟨by rw [← hq_]; exact (by repeat (first | (with_reducible first | exact HB.out | apply below_alloc | apply pw_below_drewN | apply below_drew1 | refine below_set ?_ GE445.out | refine below_set ?_ GE446.out) | exact HB.out))⟩; clear BK445 BK446 HB hq_; have BK445 := n0_; have BK446 := n1_; have HB := n2_; clear n0_ n1_ n2_))
        have n0_ := Aside0.mk (blk_drew BK445.out)
        have n1_ := Aside0.mk (blk_drew BK446.out)
        have n2_ := Aside0.mk (below_drew1 HB.out)
        clear BK445
        clear BK446
        clear HB
        have BK445 := n0_
        have BK446 := n1_
        have HB := n2_
        clear n0_ n1_ n2_
        refine start_ (n := 10) (S := fun w' => w'.cell? ⟨gb445, 0, none⟩ = some (.bool a1_0) ∧ w'.cell? ⟨gb445, 1, none⟩ = some (.string a1_1) ∧ w'.cell? ⟨gb445, 2, none⟩ = some (.int .i64 a1_2)) (ds := []) #[false, false, false, false, false, false, false, false, false, false] (by kernel_rfl) rfl rfl ⟨(blk_cell BK445.out 0).trans rfl, (blk_cell BK445.out 1).trans rfl, (blk_cell BK445.out 2).trans rfl⟩ (fun hHeld => ?_); refine with_tabW sig_Round.tab3 sig_Round.bits3 (fun HT_ HW_ => ?_)
        generalize wc.drew = w14 at BK445 BK446 HB hHeld ⊢
        refine pure_ (i := 0) (N := some 16) (v := ?_) (a' := ?_) #[true, false, false, false, false, false, false, false, false, false] rfl rfl (any_of HT_.out (by kernel_rfl)) (fun _ _ _ h => h) (Or.inl ⟨by rfl, ?_⟩) ?_ ?_
        rotate_left
        · intro w'
          go_simp
          with_reducible rfl
        rotate_left
        · simp only [Act.put, List.setIfInBounds_toArray, List.set_cons_zero, List.set_cons_succ]; (try simp only [i64_w]); (try simp only [i32_w])
          rfl
        refine pure_ (i := 3) (N := some 19) (v := ?_) (a' := ?_) #[true, false, false, true, false, false, false, false, false, false] rfl rfl (any_of HT_.out (by kernel_rfl)) (fun _ _ _ h => h) (Or.inl ⟨by rfl, ?_⟩) ?_ ?_
        rotate_left
        · intro w'
          go_simp
          with_reducible rfl
        rotate_left
        · simp only [Act.put, List.setIfInBounds_toArray, List.set_cons_zero, List.set_cons_succ]; (try simp only [i64_w]); (try simp only [i32_w])
          rfl
        refine take_ (i := 1) (N := some 17) (v := ?_) (a' := ?_) #[true, true, false, true, false, false, false, false, false, false] rfl rfl (take_ofW HT_.out HW_.out (by kernel_rfl)) (fun _ _ _ h => h) (Or.inl ⟨by rfl, ?_⟩) hHeld ?_ ?_
        rotate_left
        · rintro w' ⟨s0, s1, s2⟩
          go_simp
          with_reducible rfl
        rotate_left
        · simp only [Act.put, List.setIfInBounds_toArray, List.set_cons_zero, List.set_cons_succ]; (try simp only [i64_w]); (try simp only [i32_w])
          rfl
        refine take_ (i := 2) (N := some 18) (v := ?_) (a' := ?_) #[true, true, true, true, false, false, false, false, false, false] rfl rfl (take_ofW HT_.out HW_.out (by kernel_rfl)) (fun _ _ _ h => h) (Or.inl ⟨by rfl, ?_⟩) hHeld ?_ ?_
        rotate_left
        · rintro w' ⟨s0, s1, s2⟩
          go_simp
          with_reducible rfl
        rotate_left
        · simp only [Act.put, List.setIfInBounds_toArray, List.set_cons_zero, List.set_cons_succ]; (try simp only [i64_w]); (try simp only [i32_w])
          rfl
        refine one_ (i := 4) (N := some 20) #[true, true, true, true, true, false, false, false, false, false] rfl rfl (one_of HT_.out (by kernel_rfl)) (by decide) (fun K hK => ?_)
        refine goes_ Tryd.func28 (by kernel_rfl) rfl #[.agg #[.bool a1_0, .string a1_1, .int .i64 a1_2], .int .i64 a2] (by rfl) rfl rfl (by (try simp only [List.map_toArray]); (try simp only [List.map_cons]); (try simp only [List.map_nil]); first | done | rfl | (simp only [List.length_drop, List.length_take]; rfl)) ?_
        with_reducible refine (sig_Place.calls a1_0 a1_1 a1_2 a2 t448 _ A12.out).mono ?_
        rintro e w15 ⟨rfl, hb⟩
        refine ⟨_, rfl, ?_⟩
        have n0_ := Aside0.mk (blk_below (g := gb445) (o := .cells #[.bool a1_0, .string a1_1, .int .i64 a1_2] 23 (0, 0)) (by (with_reducible repeat (first | refine blk_drewN ?_ _ | refine blk_drew ?_ | refine blk_alloc ?_ _)); exact BK445.out) hb)
        have n1_ := Aside0.mk (blk_below (g := gb446) (o := .cells #[.bool false, .string (⟨#[]⟩ : ByteArray), .int .i64 0] 23 (0, 0)) (by (with_reducible repeat (first | refine blk_drewN ?_ _ | refine blk_drew ?_ | refine blk_alloc ?_ _)); exact BK446.out) hb)
        have n2_ := Aside0.mk (below_step (by repeat (first | (with_reducible first | exact HB.out | apply below_alloc | apply pw_below_drewN | apply below_drew1 | refine below_set ?_ GE445.out | refine below_set ?_ GE446.out) | exact HB.out)) hb)
        clear BK445
        clear BK446
        clear HB
        have BK445 := n0_
        have BK446 := n1_
        have HB := n2_
        clear n0_ n1_ n2_
        (try clear hb)
        (try clear hb2)
        (try clear hk)
        (try clear hi)
        refine hK.out _ _ ⟨(blk_cell BK445.out 0).trans rfl, (blk_cell BK445.out 1).trans rfl, (blk_cell BK445.out 2).trans rfl⟩ (fun hHeld => ?_)
        clear hK K
        refine norm_ (a' := ?_) ?_ ?_
        rotate_left
        · show Act.put _ (some 20) _ = _
          simp only [Act.put, List.setIfInBounds_toArray, List.set_cons_zero, List.set_cons_succ]; (try simp only [i64_w]); (try simp only [i32_w])
          rfl
        refine one_ (i := 5) (N := some 21) #[true, true, true, true, true, true, false, false, false, false] rfl rfl (one_of HT_.out (by kernel_rfl)) (by decide) (fun K hK => ?_)
        refine goes_ Tryd.func16 (by kernel_rfl) rfl #[.int .i64 a0, .agg #[.bool a1_0, .string a1_1, .int .i64 a1_2], .int .i64 t448] (by rfl) rfl rfl (by (try simp only [List.map_toArray]); (try simp only [List.map_cons]); (try simp only [List.map_nil]); first | done | rfl | (simp only [List.length_drop, List.length_take]; rfl)) ?_
        with_reducible refine (place_Round.calls kj3 a0 a1_0 a1_1 a1_2 t448 t449 t450 t451 t452 _ ?side1 A13.out).mono ?_
        (case side1 => exact Fig.Glob.below HG.out (by repeat (first | (with_reducible first | exact HB.out | apply below_alloc | apply pw_below_drewN | apply below_drew1 | refine below_set ?_ GE445.out | refine below_set ?_ GE446.out) | exact HB.out)))
        rintro e w16 ⟨rfl, hb⟩
        refine ⟨_, rfl, ?_⟩
        have n0_ := Aside0.mk (blk_below (g := gb445) (o := .cells #[.bool a1_0, .string a1_1, .int .i64 a1_2] 23 (0, 0)) (by (with_reducible repeat (first | refine blk_drewN ?_ _ | refine blk_drew ?_ | refine blk_alloc ?_ _)); exact BK445.out) hb)
        have n1_ := Aside0.mk (blk_below (g := gb446) (o := .cells #[.bool false, .string (⟨#[]⟩ : ByteArray), .int .i64 0] 23 (0, 0)) (by (with_reducible repeat (first | refine blk_drewN ?_ _ | refine blk_drew ?_ | refine blk_alloc ?_ _)); exact BK446.out) hb)
        have n2_ := Aside0.mk (below_step (by repeat (first | (with_reducible first | exact HB.out | apply below_alloc | apply pw_below_drewN | apply below_drew1 | refine below_set ?_ GE445.out | refine below_set ?_ GE446.out) | exact HB.out)) hb)
        clear BK445
        clear BK446
        clear HB
        have BK445 := n0_
        have BK446 := n1_
        have HB := n2_
        clear n0_ n1_ n2_
        (try clear hb)
        (try clear hb2)
        (try clear hk)
        (try clear hi)
        refine hK.out _ _ ⟨(blk_cell BK445.out 0).trans rfl, (blk_cell BK445.out 1).trans rfl, (blk_cell BK445.out 2).trans rfl⟩ (fun hHeld => ?_)
        clear hK K
        refine norm_ (a' := ?_) ?_ ?_
        rotate_left
        · show Act.put _ (some 21) _ = _
          simp only [Act.put, List.setIfInBounds_toArray, List.set_cons_zero, List.set_cons_succ]; (try simp only [i64_w]); (try simp only [i32_w])
          rfl
        refine pure_ (i := 6) (N := some 22) (v := ?_) (a' := ?_) #[true, true, true, true, true, true, true, false, false, false] rfl rfl (any_of HT_.out (by kernel_rfl)) (fun _ _ _ h => h) (Or.inl ⟨by rfl, ?_⟩) ?_ ?_
        rotate_left
        · intro w'
          go_simp
          with_reducible rfl
        rotate_left
        · simp only [Act.put, List.setIfInBounds_toArray, List.set_cons_zero, List.set_cons_succ]; (try simp only [i64_w]); (try simp only [i32_w])
          rfl
        refine pure_ (i := 7) (N := some 23) (v := ?_) (a' := ?_) #[true, true, true, true, true, true, true, true, false, false] rfl rfl (any_of HT_.out (by kernel_rfl)) (fun _ _ _ h => h) (Or.inl ⟨by rfl, ?_⟩) ?_ ?_
        rotate_left
        · intro w'
          go_simp
          with_reducible rfl
        rotate_left
        · simp only [Act.put, List.setIfInBounds_toArray, List.set_cons_zero, List.set_cons_succ]; (try simp only [i64_w]); (try simp only [i32_w])
          rfl
        refine one_ (i := 8) (N := none) #[true, true, true, true, true, true, true, true, true, false] rfl rfl (one_of HT_.out (by kernel_rfl)) (by decide) (fun K hK => ?_)
        have hs17 : w16.cell? ⟨gb446, 0, none⟩ = some (.bool false) := (blk_cell BK446.out 0).trans rfl
        have hfs17 := blk_frozen BK446.out 0
        have hns17_0 := NB445_446.out
        have hms17_0 := NB446_445.out
        have hs18 : w16.cell? ⟨gb446, 1, none⟩ = some (.string (⟨#[]⟩ : ByteArray)) := (blk_cell BK446.out 1).trans rfl
        have hfs18 := blk_frozen BK446.out 1
        have hns18_0 := NB445_446.out
        have hms18_0 := NB446_445.out
        have hs19 : w16.cell? ⟨gb446, 2, none⟩ = some (.int .i64 0) := (blk_cell BK446.out 2).trans rfl
        have hfs19 := blk_frozen BK446.out 2
        have hns19_0 := NB445_446.out
        have hms19_0 := NB446_445.out
        refine skip_ (w1 := ?_) (by rfl) rfl ?_ ?_
        rotate_left
        · go_simp
          rfl
        refine hK.out _ _ ⟨((cell_far (p := ⟨gb446, _, none⟩) NB445_446.out _).trans (((cell_far (p := ⟨gb446, _, none⟩) NB445_446.out _).trans (((cell_far (p := ⟨gb446, _, none⟩) NB445_446.out _).trans (hHeld.1)))))), ((cell_far (p := ⟨gb446, _, none⟩) NB445_446.out _).trans (((cell_far (p := ⟨gb446, _, none⟩) NB445_446.out _).trans (((cell_far (p := ⟨gb446, _, none⟩) NB445_446.out _).trans (hHeld.2.1)))))), ((cell_far (p := ⟨gb446, _, none⟩) NB445_446.out _).trans (((cell_far (p := ⟨gb446, _, none⟩) NB445_446.out _).trans (((cell_far (p := ⟨gb446, _, none⟩) NB445_446.out _).trans (hHeld.2.2))))))⟩ (fun hHeld => ?_)
        clear hK K
        refine pure_ (i := 9) (N := some 7) (v := ?_) (a' := ?_) #[true, true, true, true, true, true, true, true, true, true] rfl rfl (any_of HT_.out (by kernel_rfl)) (fun _ _ _ h => h) (Or.inl ⟨by rfl, ?_⟩) ?_ ?_
        rotate_left
        · intro w'
          go_simp
          with_reducible rfl
        rotate_left
        · simp only [Act.put, List.setIfInBounds_toArray, List.set_cons_zero, List.set_cons_succ]; (try simp only [i64_w]); (try simp only [i32_w])
          rfl
        refine done_ (done_of HT_.out (by kernel_rfl)) ?_
        try go_wp2
        refine bodyPost_ret (results_ct rfl _ _ gb446 23 #[.bool t449, .string t450, .int .i64 t451] (0, 0) _ rfl (by (with_reducible repeat (first | refine blk_drewN ?_ _ | refine blk_drew ?_ | refine blk_alloc ?_ _)); refine blk_put (cs := #[.bool t449, .string t450, .int .i64 0]) ?_ 2 _ rfl; (with_reducible repeat (first | refine blk_drewN ?_ _ | refine blk_drew ?_ | refine blk_alloc ?_ _)); refine blk_put (cs := #[.bool t449, .string (⟨#[]⟩ : ByteArray), .int .i64 0]) ?_ 1 _ rfl; (with_reducible repeat (first | refine blk_drewN ?_ _ | refine blk_drew ?_ | refine blk_alloc ?_ _)); refine blk_put (cs := #[.bool false, .string (⟨#[]⟩ : ByteArray), .int .i64 0]) ?_ 0 _ rfl; (with_reducible repeat (first | refine blk_drewN ?_ _ | refine blk_drew ?_ | refine blk_alloc ?_ _)); exact BK446.out) Tryd.underlying23 rfl (by kernel_rfl)) rfl ?_
        exact ⟨by first | rfl | (simp [errW_none, errW_some] <;> rfl) | (simp [*, errW_none, errW_some] <;> rfl), by repeat (first | (with_reducible first | exact HB.out | apply below_alloc | apply pw_below_drewN | apply below_drew1 | refine below_set ?_ GE445.out | refine below_set ?_ GE446.out) | exact HB.out)⟩
end Go.Proofs.YtjpokifkbclkiaaDoor.Px
end
section
namespace Go.Proofs.YtjpokifkbclkiaaDoor.Px
open Fig Go.RowKit Go.Proofs.YtjpokifkbclkiaaDoorW.PrintWords Go.Proofs.YtjpokifkbclkiaaDoorW.PrintLast Go.Proofs.YtjpokifkbclkiaaDoorW.PrintMore
attribute [local go_sem] max2_int min2_int max_two min_two max_three min_three max_four min_four   -- for this text's walks alone
attribute [local go_sem] fieldA23_0 fieldA23_1 fieldA23_2
def sig_Count.f (a0_0 : Bool) (a0_1 : ByteArray) (a0_2 : Int) : Option (Int) := (dec_Norm.f a0_0 a0_1 a0_2).bind fun bt454 => (some (bt454.2.1.size : Int))
set_option maxHeartbeats 8000000 in
set_option maxRecDepth 100000 in
theorem sig_Count.calls (a0_0 : Bool) (a0_1 : ByteArray) (a0_2 : Int) (r : Int) (w : World) (h : sig_Count.f a0_0 a0_1 a0_2 = some r) :
    Calls Tryd.prog 27 #[.agg #[.bool a0_0, .string a0_1, .int .i64 a0_2]] w fun e w' => e = .returned (.int .i64 r) ∧ Below w.heap.size w w' := by
  have hu23 := Tryd.underlying23
  have HB := Aside0.mk (Below.refl w.heap.size w)
  have H : ((dec_Norm.f a0_0 a0_1 a0_2).bind fun bt454 => (some (bt454.2.1.size : Int))) = some r := h
  clear h
  replace H := Option.bind_eq_some_iff.mp H
  obtain ⟨⟨t454, t455, t456⟩, A20, H⟩ := H
  replace H : (some (t455.size : Int)) = some r := H
  have A2 := Aside0.mk A20
  clear A20
  obtain rfl := Option.some.inj H
  go_enter Tryd.func27, Tryd.ntmps27
  go_wp2_with (first | ((with_reducible refine gate_dst (N := 1) rfl ?_); refine box_event ?hg (N := 1) ?hd (cs := #[.bool a0_0, .string a0_1, .int .i64 a0_2]) (t := 23) ?hr ?_; (case hd => rfl); (case hg => rfl); (case hr => first | (go_simp; done) | (go_simp; rfl)); intro gb453 hg w3 hbox hb; have n0_ := Aside0.mk (below_step (by repeat (first | (with_reducible first | exact HB.out | apply below_alloc | apply pw_below_drewN | apply below_drew1) | exact HB.out)) hb); have n1_ := Aside0.mk (hbox); have n2_ := Aside0.mk ((by rw [hg]; exact (below_size (by repeat (first | (with_reducible first | exact HB.out | apply below_alloc | apply pw_below_drewN | apply below_drew1) | exact HB.out))) : w.heap.size ≤ gb453)); have n3_ := Aside0.mk ((by rw [hg]; exact (below_size (by repeat (first | (with_reducible first | exact HB.out | apply below_alloc | apply pw_below_drewN | apply below_drew1) | exact HB.out))) : w.heap.size ≤ gb453)); clear HB; have HB := n0_; have BK453 := n1_; have GW453 := n2_; have GE453 := n3_; clear n0_ n1_ n2_ n3_; clear hb hbox hg; have hcz4_0 : w3.cell? ⟨gb453, 0, none⟩ = some (.bool a0_0) := (blk_cell BK453.out 0).trans rfl; have hcz4_1 : w3.cell? ⟨gb453, 1, none⟩ = some (.string a0_1) := (blk_cell BK453.out 1).trans rfl; have hcz4_2 : w3.cell? ⟨gb453, 2, none⟩ = some (.int .i64 a0_2) := (blk_cell BK453.out 2).trans rfl; have hfz4_0 := blk_frozen BK453.out 0; have hfz4_1 := blk_frozen BK453.out 1; have hfz4_2 := blk_frozen BK453.out 2) | ((with_reducible refine gate_callee (f := 31) rfl ?_); refine goesL_ (some 4) rfl rfl Tryd.func31 (by kernel_rfl) rfl #[.agg #[.bool a0_0, .string a0_1, .int .i64 a0_2]] rfl (by (try simp only [List.map_toArray]); (try simp only [List.map_cons]); (try simp only [List.map_nil]); first | done | rfl | (simp only [List.length_drop, List.length_take]; rfl)) ?_; (with_reducible refine (dec_Norm.calls a0_0 a0_1 a0_2 t454 t455 t456 _ A2.out).mono ?_); rintro e w5 ⟨rfl, hb⟩; refine ⟨_, rfl, ?_⟩; have n0_ := Aside0.mk (blk_below (g := gb453) (o := .cells #[.bool a0_0, .string a0_1, .int .i64 a0_2] 23 (0, 0)) (by (with_reducible repeat (first | refine blk_drewN ?_ _ | refine blk_drew ?_ | refine blk_alloc ?_ _)); exact BK453.out) hb); have n1_ := Aside0.mk (below_step (by repeat (first | (with_reducible first | exact HB.out | apply below_alloc | apply pw_below_drewN | apply below_drew1 | refine below_set ?_ GE453.out) | exact HB.out)) hb); clear BK453; clear HB; have BK453 := n0_; have HB := n1_; clear n0_ n1_; (try clear hb); (try clear hb2); (try clear hk); (try clear hi)))
  go_ret
  exact ⟨by first | rfl | (simp [errW_none, errW_some] <;> rfl) | (simp [*, errW_none, errW_some] <;> rfl), by repeat (first | (with_reducible first | exact HB.out | apply below_alloc | apply pw_below_drewN | apply below_drew1 | refine below_set ?_ GE453.out) | exact HB.out)⟩
end Go.Proofs.YtjpokifkbclkiaaDoor.Px
end
section
namespace Go.Proofs.YtjpokifkbclkiaaDoor.Px
open Fig Go.RowKit Go.Proofs.YtjpokifkbclkiaaDoorW.PrintWords Go.Proofs.YtjpokifkbclkiaaDoorW.PrintLast Go.Proofs.YtjpokifkbclkiaaDoorW.PrintMore
attribute [local go_sem] max2_int min2_int max_two min_two max_three min_three max_four min_four   -- for this text's walks alone
attribute [local go_sem high] eqA23
attribute [local go_sem] fieldA23_0 fieldA23_1 fieldA23_2
def figureheadlaw09_answers.f (k : Nat)  : Option (Bool) := (sig_Round.f k 5 false (⟨#[49, 50, 51, 52, 53]⟩ : ByteArray) 0 3).bind fun bt457 => (if bt457.2.2.2 = 0 then (if (!bt457.1 && (bt457.2.1.toList == ([49, 50, 51] : List UInt8) && (bt457.2.2.1 == 2))) = true then ((sig_Place.f bt457.1 bt457.2.1 bt457.2.2.1 1).bind fun t462 => (if t462 = 4 then ((sig_Count.f bt457.1 bt457.2.1 bt457.2.2.1).bind fun t463 => (some (t463 == 3))) else (some false))) else (some false)) else (some false))
theorem figureheadlaw09_answers.mono : ∀ k, LeO (figureheadlaw09_answers.f k ) (figureheadlaw09_answers.f (k + 1) ) := by
  intro  k
  unfold figureheadlaw09_answers.f
  repeat' first
      | (with_reducible exact sig_Round.mono _ _ _ _ _ _)
      | (with_reducible exact LeO.refl _)
      | (with_reducible exact LeO.none _)
      | (with_reducible refine LeO.ite ?_ ?_)
      | (with_reducible refine LeO.bind ?_ (fun _ => ?_))
      | exact sig_Round.mono _ _ _ _ _ _
      | exact LeO.none _
      | refine LeO.ite ?_ ?_
      | refine LeO.bind ?_ (fun _ => ?_)
set_option maxHeartbeats 8000000 in
set_option maxRecDepth 100000 in
theorem figureheadlaw09_answers.calls (k : Nat)  (r : Bool) (w : World) (hG : Fig.Glob w) (HT : Aside0 (r = true)) (h : figureheadlaw09_answers.f k  = some r) :
    Calls Tryd.prog 24 #[] w fun e w' => e = .returned (.bool r) ∧ Below w.heap.size w w' := by
  have hu23 := Tryd.underlying23
  have HG := Aside0.mk hG
  clear hG
  have HB := Aside0.mk (Below.refl w.heap.size w)
  have H : ((sig_Round.f k 5 false (⟨#[49, 50, 51, 52, 53]⟩ : ByteArray) 0 3).bind fun bt457 => (if bt457.2.2.2 = 0 then (if (!bt457.1 && (bt457.2.1.toList == ([49, 50, 51] : List UInt8) && (bt457.2.2.1 == 2))) = true then ((sig_Place.f bt457.1 bt457.2.1 bt457.2.2.1 1).bind fun t462 => (if t462 = 4 then ((sig_Count.f bt457.1 bt457.2.1 bt457.2.2.1).bind fun t463 => (some (t463 == 3))) else (some false))) else (some false)) else (some false))) = some r := h
  clear h
  replace H := Option.bind_eq_some_iff.mp H
  obtain ⟨⟨t457, t458, t459, t460⟩, A10, H⟩ := H
  replace H : (if t460 = 0 then (if (!t457 && (t458.toList == ([49, 50, 51] : List UInt8) && (t459 == 2))) = true then ((sig_Place.f t457 t458 t459 1).bind fun t462 => (if t462 = 4 then ((sig_Count.f t457 t458 t459).bind fun t463 => (some (t463 == 3))) else (some false))) else (some false)) else (some false)) = some r := H
  have A1 := Aside0.mk A10
  clear A10
  by_cases c2 : t460 = 0
  · rw [if_pos c2] at H
    have c2b0 : (t460 == 0) = true := beq_iff_eq.mpr c2
    have c2b1 : (t460 != 0) = false := bne_eq_false_iff_eq.mpr c2
    clear c2
    by_cases c3 : (!t457 && (t458.toList == ([49, 50, 51] : List UInt8) && (t459 == 2))) = true
    · rw [if_pos c3] at H
      have c3b0 : (!t457 && (t458.toList == ([49, 50, 51] : List UInt8) && (t459 == 2))) = true := c3
      clear c3
      replace H := Option.bind_eq_some_iff.mp H
      obtain ⟨t462, A40, H⟩ := H
      replace H : (if t462 = 4 then ((sig_Count.f t457 t458 t459).bind fun t463 => (some (t463 == 3))) else (some false)) = some r := H
      have A4 := Aside0.mk A40
      clear A40
      by_cases c5 : t462 = 4
      · rw [if_pos c5] at H
        have c5b0 : (t462 == 4) = true := beq_iff_eq.mpr c5
        have c5b1 : (t462 != 4) = false := bne_eq_false_iff_eq.mpr c5
        clear c5
        replace H := Option.bind_eq_some_iff.mp H
        obtain ⟨t463, A60, H⟩ := H
        replace H : (some (t463 == 3)) = some r := H
        have A6 := Aside0.mk A60
        clear A60
        obtain rfl := Option.some.inj H
        go_enter Tryd.func24, Tryd.ntmps24
        go_wp2_with (first | ((with_reducible refine gate_callee (f := 25) rfl ?_); refine goesL_ (some 5) rfl rfl Tryd.func25 (by kernel_rfl) rfl #[.int .i64 5, .agg #[.bool false, .string (⟨#[49, 50, 51, 52, 53]⟩ : ByteArray), .int .i64 0], .int .i64 3] rfl (by (try simp only [List.map_toArray]); (try simp only [List.map_cons]); (try simp only [List.map_nil]); first | done | rfl | (simp only [List.length_drop, List.length_take]; rfl)) ?_; (with_reducible refine (sig_Round.calls k 5 false (⟨#[49, 50, 51, 52, 53]⟩ : ByteArray) 0 3 t457 t458 t459 t460 _ ?side1 A1.out).mono ?_); (case side1 => exact Fig.Glob.below HG.out (by repeat (first | (with_reducible first | exact HB.out | apply below_alloc | apply pw_below_drewN | apply below_drew1) | exact HB.out))); rintro e w7 ⟨rfl, hb⟩; refine ⟨_, rfl, ?_⟩; have n0_ := Aside0.mk (below_step (by repeat (first | (with_reducible first | exact HB.out | apply below_alloc | apply pw_below_drewN | apply below_drew1) | exact HB.out)) hb); clear HB; have HB := n0_; clear n0_; (try clear hb); (try clear hb2); (try clear hk); (try clear hi)) | ((with_reducible refine gate_dst (N := 1) rfl ?_); refine box_event ?hg (N := 1) ?hd (cs := #[.bool false, .string (⟨#[]⟩ : ByteArray), .int .i64 0]) (t := 23) ?hr ?_; (case hd => rfl); (case hg => rfl); (case hr => first | (go_simp; done) | (go_simp; rfl)); intro gb461 hg w8 hbox hb; have n0_ := Aside0.mk (below_step (by repeat (first | (with_reducible first | exact HB.out | apply below_alloc | apply pw_below_drewN | apply below_drew1) | exact HB.out)) hb); have n1_ := Aside0.mk (hbox); have n2_ := Aside0.mk ((by rw [hg]; exact (below_size (by repeat (first | (with_reducible first | exact HB.out | apply below_alloc | apply pw_below_drewN | apply below_drew1) | exact HB.out))) : w.heap.size ≤ gb461)); have n3_ := Aside0.mk ((by rw [hg]; exact (below_size (by repeat (first | (with_reducible first | exact HB.out | apply below_alloc | apply pw_below_drewN | apply below_drew1) | exact HB.out))) : w.heap.size ≤ gb461)); clear HB; have HB := n0_; have BK461 := n1_; have GW461 := n2_; have GE461 := n3_; clear n0_ n1_ n2_ n3_; clear hb hbox hg; have hcz9_0 : w8.cell? ⟨gb461, 0, none⟩ = some (.bool false) := (blk_cell BK461.out 0).trans rfl; have hcz9_1 : w8.cell? ⟨gb461, 1, none⟩ = some (.string (⟨#[]⟩ : ByteArray)) := (blk_cell BK461.out 1).trans rfl; have hcz9_2 : w8.cell? ⟨gb461, 2, none⟩ = some (.int .i64 0) := (blk_cell BK461.out 2).trans rfl; have hfz9_0 := blk_frozen BK461.out 0; have hfz9_1 := blk_frozen BK461.out 1; have hfz9_2 := blk_frozen BK461.out 2) | ((with_reducible refine gate_dst (N := 17) rfl ?_); (refine gate_guard (by rfl) ?_; dsimp only); (with_reducible refine gate_callee (f := 28) rfl ?_); refine goesL_ (some 17) rfl rfl Tryd.func28 (by kernel_rfl) rfl #[.agg #[.bool t457, .string t458, .int .i64 t459], .int .i64 1] rfl (by (try simp only [List.map_toArray]); (try simp only [List.map_cons]); (try simp only [List.map_nil]); first | done | rfl | (simp only [List.length_drop, List.length_take]; rfl)) ?_; (with_reducible refine (sig_Place.calls t457 t458 t459 1 t462 _ A4.out).mono ?_); rintro e w10 ⟨rfl, hb⟩; refine ⟨_, rfl, ?_⟩; have n0_ := Aside0.mk (blk_below (g := gb461) (o := .cells #[.bool t457, .string t458, .int .i64 t459] 23 (0, 0)) (by (with_reducible repeat (first | refine blk_drewN ?_ _ | refine blk_drew ?_ | refine blk_alloc ?_ _)); refine blk_put (cs := #[.bool t457, .string t458, .int .i64 0]) ?_ 2 _ rfl; (with_reducible repeat (first | refine blk_drewN ?_ _ | refine blk_drew ?_ | refine blk_alloc ?_ _)); refine blk_put (cs := #[.bool t457, .string (⟨#[]⟩ : ByteArray), .int .i64 0]) ?_ 1 _ rfl; (with_reducible repeat (first | refine blk_drewN ?_ _ | refine blk_drew ?_ | refine blk_alloc ?_ _)); refine blk_put (cs := #[.bool false, .string (⟨#[]⟩ : ByteArray), .int .i64 0]) ?_ 0 _ rfl; (with_reducible repeat (first | refine blk_drewN ?_ _ | refine blk_drew ?_ | refine blk_alloc ?_ _)); exact BK461.out) hb); have n1_ := Aside0.mk (below_step (by repeat (first | (with_reducible first | exact HB.out | apply below_alloc | apply pw_below_drewN | apply below_drew1 | refine below_set ?_ GE461.out) | exact HB.out)) hb); clear BK461; clear HB; have BK461 := n0_; have HB := n1_; clear n0_ n1_; (try clear hb); (try clear hb2); (try clear hk); (try clear hi); have hcz11_0 : w10.cell? ⟨gb461, 0, none⟩ = some (.bool t457) := (blk_cell BK461.out 0).trans rfl; have hcz11_1 : w10.cell? ⟨gb461, 1, none⟩ = some (.string t458) := (blk_cell BK461.out 1).trans rfl; have hcz11_2 : w10.cell? ⟨gb461, 2, none⟩ = some (.int .i64 t459) := (blk_cell BK461.out 2).trans rfl; have hfz11_0 := blk_frozen BK461.out 0; have hfz11_1 := blk_frozen BK461.out 1; have hfz11_2 := blk_frozen BK461.out 2) | ((with_reducible refine gate_dst (N := 22) rfl ?_); (refine gate_guard (by rfl) ?_; dsimp only); (with_reducible refine gate_callee (f := 27) rfl ?_); refine goesL_ (some 22) rfl rfl Tryd.func27 (by kernel_rfl) rfl #[.agg #[.bool t457, .string t458, .int .i64 t459]] rfl (by (try simp only [List.map_toArray]); (try simp only [List.map_cons]); (try simp only [List.map_nil]); first | done | rfl | (simp only [List.length_drop, List.length_take]; rfl)) ?_; (with_reducible refine (sig_Count.calls t457 t458 t459 t463 _ A6.out).mono ?_); rintro e w12 ⟨rfl, hb⟩; refine ⟨_, rfl, ?_⟩; have n0_ := Aside0.mk (blk_below (g := gb461) (o := .cells #[.bool t457, .string t458, .int .i64 t459] 23 (0, 0)) (by (with_reducible repeat (first | refine blk_drewN ?_ _ | refine blk_drew ?_ | refine blk_alloc ?_ _)); exact BK461.out) hb); have n1_ := Aside0.mk (below_step (by repeat (first | (with_reducible first | exact HB.out | apply below_alloc | apply pw_below_drewN | apply below_drew1 | refine below_set ?_ GE461.out) | exact HB.out)) hb); clear BK461; clear HB; have BK461 := n0_; have HB := n1_; clear n0_ n1_; (try clear hb); (try clear hb2); (try clear hk); (try clear hi)))
        go_ret
        exact ⟨by first | rfl | (simp [errW_none, errW_some] <;> rfl) | (simp [*, errW_none, errW_some] <;> rfl), by repeat (first | (with_reducible first | exact HB.out | apply below_alloc | apply pw_below_drewN | apply below_drew1 | refine below_set ?_ GE461.out) | exact HB.out)⟩
      · rw [if_neg c5] at H
        have c5b0 : (t462 == 4) = false := beq_eq_false_iff_ne.mpr c5
        have c5b1 : (t462 != 4) = true := bne_iff_ne.mpr c5
        exact absurd ((Option.some.inj H).trans HT.out) (by decide)
    · rw [if_neg c3] at H
      have c3b0 : (!t457 && (t458.toList == ([49, 50, 51] : List UInt8) && (t459 == 2))) = false := by simpa using c3
      clear c3
      exact absurd ((Option.some.inj H).trans HT.out) (by decide)
  · rw [if_neg c2] at H
    have c2b0 : (t460 == 0) = false := beq_eq_false_iff_ne.mpr c2
    have c2b1 : (t460 != 0) = true := bne_iff_ne.mpr c2
    exact absurd ((Option.some.inj H).trans HT.out) (by decide)
end Go.Proofs.YtjpokifkbclkiaaDoor.Px
end
