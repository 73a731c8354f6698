/- The functions that the law IncNear reaches, told as plain functions, with what is proved of them, and the words they need (part 3). -/
import Derived.Test.YtekkpmoppihlaaaDoorCIncNear0
import Derived.Test.YtekkpmoppihlaaaDoorCIncNear2
import Derived.Test.YtekkpmoppihlaaaDoorCIncNear1
set_option linter.unusedVariables false
set_option linter.unusedSimpArgs false
section
namespace Go.Proofs.YtekkpmoppihlaaaDoor.Px
open Fig Go.RowKit Go.Proofs.YtekkpmoppihlaaaDoorW.PrintWords Go.Proofs.YtekkpmoppihlaaaDoorW.PrintLast Go.Proofs.YtekkpmoppihlaaaDoorW.PrintMore
attribute [local go_sem] max2_int min2_int max_two min_two max_three min_three max_four min_four   -- for this text's walks alone
attribute [local go_sem] fieldA23_0 fieldA23_1 fieldA23_2
def figureheadref05_Sum.j0 : Nat → Int → Bool → ByteArray → Int → Bool → ByteArray → Int → Option (Bool × ByteArray × Int)
  | 0, _, _, _, _, _, _, _ => none
  | k + 1, x5, x341000, x341001, x341002, x342000, x342001, x342002 => (figureheadref05_At.f k x341000 x341001 x341002 x5).bind fun t343 => ((figureheadref05_At.f k x342000 x342001 x342002 x5).bind fun t344 => (if (x341000 == x342000) = true then ((figureheadref01_Plus.f k t343 t344).bind fun t345 => ((figureheadref05_Make.f k x341000 t345 x5).bind fun bt346 => ((figureheadref05_plain.f bt346.1 bt346.2.1 bt346.2.2).bind fun bt349 => (some (bt349.1, bt349.2.1, bt349.2.2))))) else ((figureheadref01_Less.f t343 t344).bind fun t352 => (if t352 = true then ((figureheadref01_Minus.f k t344 t343).bind fun t353 => ((figureheadref05_Make.f k x342000 t353 x5).bind fun bt354 => ((figureheadref05_plain.f bt354.1 bt354.2.1 bt354.2.2).bind fun bt357 => (some (bt357.1, bt357.2.1, bt357.2.2))))) else ((figureheadref01_Minus.f k t343 t344).bind fun t360 => ((figureheadref05_Make.f k x341000 t360 x5).bind fun bt361 => ((figureheadref05_plain.f bt361.1 bt361.2.1 bt361.2.2).bind fun bt364 => (some (bt364.1, bt364.2.1, bt364.2.2)))))))))
def figureheadref05_Sum.f (k : Nat) (a0_0 : Bool) (a0_1 : ByteArray) (a0_2 : Int) (a1_0 : Bool) (a1_1 : ByteArray) (a1_2 : Int) : Option (Bool × ByteArray × Int) := if a1_2 < a0_2 then (figureheadref05_Sum.j0 k a1_2 a0_0 a0_1 a0_2 a1_0 a1_1 a1_2) else (figureheadref05_Sum.j0 k a0_2 a0_0 a0_1 a0_2 a1_0 a1_1 a1_2)
theorem figureheadref05_Sum.mono_l : ∀ k, (∀ y0 y1 y2 y3 y4 y5 y6, LeO (figureheadref05_Sum.j0 k y0 y1 y2 y3 y4 y5 y6) (figureheadref05_Sum.j0 (k + 1) y0 y1 y2 y3 y4 y5 y6))
  | 0 => fun _ _ _ _ _ _ _ r h => by simp [figureheadref05_Sum.j0] at h
  | k + 1 => by
    have ih0 := figureheadref05_Sum.mono_l k
    · intro y0 y1 y2 y3 y4 y5 y6
      unfold figureheadref05_Sum.j0
      repeat' first
      | (with_reducible exact ih0 _ _ _ _ _ _ _)
      | (with_reducible exact figureheadref01_Minus.mono _ _ _)
      | (with_reducible exact figureheadref01_Plus.mono _ _ _)
      | (with_reducible exact figureheadref05_At.mono _ _ _ _ _)
      | (with_reducible exact figureheadref05_Make.mono _ _ _ _)
      | (with_reducible exact LeO.refl _)
      | (with_reducible exact LeO.none _)
      | (with_reducible refine LeO.ite ?_ ?_)
      | (with_reducible refine LeO.bind ?_ (fun _ => ?_))
      | exact ih0 _ _ _ _ _ _ _
      | exact figureheadref01_Minus.mono _ _ _
      | exact figureheadref01_Plus.mono _ _ _
      | exact figureheadref05_At.mono _ _ _ _ _
      | exact figureheadref05_Make.mono _ _ _ _
      | exact LeO.none _
      | refine LeO.ite ?_ ?_
      | refine LeO.bind ?_ (fun _ => ?_)
theorem figureheadref05_Sum.mono : ∀ a0 a1 a2 a3 a4 a5 k, LeO (figureheadref05_Sum.f k a0 a1 a2 a3 a4 a5) (figureheadref05_Sum.f (k + 1) a0 a1 a2 a3 a4 a5) := by
  intro a0 a1 a2 a3 a4 a5 k
  have ih0 := figureheadref05_Sum.mono_l k
  unfold figureheadref05_Sum.f
  repeat' first
      | (with_reducible exact ih0 _ _ _ _ _ _ _)
      | (with_reducible exact figureheadref01_Minus.mono _ _ _)
      | (with_reducible exact figureheadref01_Plus.mono _ _ _)
      | (with_reducible exact figureheadref05_At.mono _ _ _ _ _)
      | (with_reducible exact figureheadref05_Make.mono _ _ _ _)
      | (with_reducible exact LeO.refl _)
      | (with_reducible exact LeO.none _)
      | (with_reducible refine LeO.ite ?_ ?_)
      | (with_reducible refine LeO.bind ?_ (fun _ => ?_))
      | exact ih0 _ _ _ _ _ _ _
      | exact figureheadref01_Minus.mono _ _ _
      | exact figureheadref01_Plus.mono _ _ _
      | exact figureheadref05_At.mono _ _ _ _ _
      | exact figureheadref05_Make.mono _ _ _ _
      | exact LeO.none _
      | refine LeO.ite ?_ ?_
      | refine LeO.bind ?_ (fun _ => ?_)
def figureheadref05_Sum.T4 : Bool × List (List Nat × List Nat) := (true, [([], []), ([], []), ([0, 1], [0, 1]), ([], []), ([], []), ([3, 4, 2], [3, 4]), ([2, 5, 0, 1, 2], [2]), ([5, 6, 0, 1, 2, 3, 4, 5, 6], [5])])
def figureheadref05_Sum.B4 : List Nat := [0, 0, 3, 0, 0, 31, 63, 127]
theorem figureheadref05_Sum.tab4 : rtab .any (opsOf Tryd.f13 4) = figureheadref05_Sum.T4 := by kernel_rfl
theorem figureheadref05_Sum.bits4 : waitsOk figureheadref05_Sum.T4.2 figureheadref05_Sum.B4 = true := by kernel_rfl
def figureheadref05_Sum.T6 : Bool × List (List Nat × List Nat) := (true, [([], []), ([0], [0]), ([], []), ([], []), ([2, 3], [2, 3]), ([], []), ([1, 4, 5, 4], [1, 4, 5]), ([6, 6], [6]), ([7, 7, 0, 1, 2, 3, 4, 5, 6, 7], [7])])
def figureheadref05_Sum.B6 : List Nat := [0, 1, 0, 0, 12, 0, 63, 127, 255]
theorem figureheadref05_Sum.tab6 : rtab .any (opsOf Tryd.f13 6) = figureheadref05_Sum.T6 := by kernel_rfl
theorem figureheadref05_Sum.bits6 : waitsOk figureheadref05_Sum.T6.2 figureheadref05_Sum.B6 = true := by kernel_rfl
def figureheadref05_Sum.T8 : Bool × List (List Nat × List Nat) := (true, [([], []), ([0], [0]), ([], []), ([], []), ([2, 3], [2, 3]), ([], []), ([1, 4, 5, 4], [1, 4, 5]), ([6, 6], [6]), ([7, 7, 0, 1, 2, 3, 4, 5, 6, 7], [7])])
def figureheadref05_Sum.B8 : List Nat := [0, 1, 0, 0, 12, 0, 63, 127, 255]
theorem figureheadref05_Sum.tab8 : rtab .any (opsOf Tryd.f13 8) = figureheadref05_Sum.T8 := by kernel_rfl
theorem figureheadref05_Sum.bits8 : waitsOk figureheadref05_Sum.T8.2 figureheadref05_Sum.B8 = true := by kernel_rfl
def figureheadref05_Sum.T9 : Bool × List (List Nat × List Nat) := (true, [([], []), ([0], [0]), ([], []), ([], []), ([2, 3], [2, 3]), ([], []), ([1, 4, 5, 4], [1, 4, 5]), ([6, 6], [6]), ([7, 7, 0, 1, 2, 3, 4, 5, 6, 7], [7])])
def figureheadref05_Sum.B9 : List Nat := [0, 1, 0, 0, 12, 0, 63, 127, 255]
theorem figureheadref05_Sum.tab9 : rtab .any (opsOf Tryd.f13 9) = figureheadref05_Sum.T9 := by kernel_rfl
theorem figureheadref05_Sum.bits9 : waitsOk figureheadref05_Sum.T9.2 figureheadref05_Sum.B9 = true := by kernel_rfl
set_option maxHeartbeats 8000000 in
set_option maxRecDepth 100000 in
theorem figureheadref05_Sum.calls (k : Nat) (a0_0 : Bool) (a0_1 : ByteArray) (a0_2 : Int) (a1_0 : Bool) (a1_1 : ByteArray) (a1_2 : Int) (r1 : Bool) (r2 : ByteArray) (r3 : Int) (w : World) (h : figureheadref05_Sum.f k a0_0 a0_1 a0_2 a1_0 a1_1 a1_2 = some (r1, r2, r3)) :
    Calls Tryd.prog 13 #[.agg #[.bool a0_0, .string a0_1, .int .i64 a0_2], .agg #[.bool a1_0, .string a1_1, .int .i64 a1_2]] w fun e w' => e = .returned (.agg #[.bool r1, .string r2, .int .i64 r3]) ∧ Below w.heap.size w w' := by
  have hu23 := Tryd.underlying23
  have HB := Aside0.mk (Below.refl w.heap.size w)
  have H : (if a1_2 < a0_2 then (figureheadref05_Sum.j0 k a1_2 a0_0 a0_1 a0_2 a1_0 a1_1 a1_2) else (figureheadref05_Sum.j0 k a0_2 a0_0 a0_1 a0_2 a1_0 a1_1 a1_2)) = some (r1, r2, r3) := h
  clear h
  have HC3 := Aside0.mk H
  clear H
  go_enter Tryd.func13, Tryd.ntmps13
  go_upto_if 13 with (first | (refine be_ 2 #[.bool a0_0, .string a0_1, .int .i64 a0_2] 23 ?_; intro gb340 hg w4 hbox hb; have n0_ := hbs_ HB hb; have n1_ := Aside0.mk (hbox); have n2_ := Aside0.mk ((by rw [hg]; exact (below_size (BL HB)) : w.heap.size ≤ gb340)); have n3_ := Aside0.mk ((by rw [hg]; exact (below_size (BL HB)) : w.heap.size ≤ gb340)); clear HB; have HB := n0_; have BK340 := n1_; have GW340 := n2_; have GE340 := n3_; clear n0_ n1_ n2_ n3_; clear hb hbox hg) | (refine be_ 3 #[.bool a1_0, .string a1_1, .int .i64 a1_2] 23 ?_; intro gb341 hg w5 hbox hb; have n0_ := bkb_ BK340 hb; have n1_ := hbs_ HB hb; have n2_ := Aside0.mk (hbox); have n3_ := Aside0.mk ((by rw [hg]; exact (below_size (BL HB)) : w.heap.size ≤ gb341)); have n4_ := Aside0.mk ((by rw [hg]; exact (below_size (BL HB)) : w.heap.size ≤ gb341)); have n5_ := Aside0.mk ((by rw [hg]; exact Nat.ne_of_lt (blk_lt (g := gb340) (o := .cells #[.bool a0_0, .string a0_1, .int .i64 a0_2] 23 (0, 0)) (BK BK340)) : gb340 ≠ gb341)); have n6_ := Aside0.mk ((by rw [hg]; exact Nat.ne_of_gt (blk_lt (g := gb340) (o := .cells #[.bool a0_0, .string a0_1, .int .i64 a0_2] 23 (0, 0)) (BK BK340)) : gb341 ≠ gb340)); clear BK340; clear HB; have BK340 := n0_; have HB := n1_; have BK341 := n2_; have GW341 := n3_; have GE341 := n4_; have NB340_341 := n5_; have NB341_340 := n6_; clear n0_ n1_ n2_ n3_ n4_ n5_ n6_; clear hb hbox hg) | (refine be_ 4 #[.bool false, .string (⟨#[]⟩ : ByteArray), .int .i64 0] 23 ?_; intro gb342 hg w6 hbox hb; have n0_ := bkb_ BK340 hb; have n1_ := bkb_ BK341 hb; have n2_ := hbs_ HB hb; have n3_ := Aside0.mk (hbox); have n4_ := Aside0.mk ((by rw [hg]; exact (below_size (BL HB)) : w.heap.size ≤ gb342)); have n5_ := Aside0.mk ((by rw [hg]; exact (below_size (BL HB)) : w.heap.size ≤ gb342)); have n6_ := Aside0.mk ((by rw [hg]; exact Nat.ne_of_lt (blk_lt (g := gb340) (o := .cells #[.bool a0_0, .string a0_1, .int .i64 a0_2] 23 (0, 0)) (BK BK340)) : gb340 ≠ gb342)); have n7_ := Aside0.mk ((by rw [hg]; exact Nat.ne_of_gt (blk_lt (g := gb340) (o := .cells #[.bool a0_0, .string a0_1, .int .i64 a0_2] 23 (0, 0)) (BK BK340)) : gb342 ≠ gb340)); have n8_ := Aside0.mk ((by rw [hg]; exact Nat.ne_of_lt (blk_lt (g := gb341) (o := .cells #[.bool a1_0, .string a1_1, .int .i64 a1_2] 23 (0, 0)) (BK BK341)) : gb341 ≠ gb342)); have n9_ := Aside0.mk ((by rw [hg]; exact Nat.ne_of_gt (blk_lt (g := gb341) (o := .cells #[.bool a1_0, .string a1_1, .int .i64 a1_2] 23 (0, 0)) (BK BK341)) : gb342 ≠ gb341)); clear BK340; clear BK341; clear HB; have BK340 := n0_; have BK341 := n1_; have HB := n2_; have BK342 := n3_; have GW342 := n4_; have GE342 := n5_; have NB340_342 := n6_; have NB342_340 := n7_; have NB341_342 := n8_; have NB342_341 := n9_; clear n0_ n1_ n2_ n3_ n4_ n5_ n6_ n7_ n8_ n9_; clear hb hbox hg; have hnb7 := NB340_341.out; have hnc7 := NB341_340.out; have hnb8 := NB340_342.out; have hnc8 := NB342_340.out; obtain ⟨⟨hcz9_0, hcz9_1, hcz9_2⟩, hfz9_0, hfz9_1, hfz9_2⟩ := ce3 BK340; have hnb10 := NB341_342.out; have hnc10 := NB342_341.out; obtain ⟨⟨hcz11_0, hcz11_1, hcz11_2⟩, hfz11_0, hfz11_1, hfz11_2⟩ := ce3 BK341))
  (try simp only [Act.put, List.setIfInBounds_toArray, List.set_cons_zero, List.set_cons_succ])
  go_cut [5] (fun v5 wc => ∃ (kq : Nat) (x5_2 : Int), v5 = .int .i64 x5_2 ∧ Aside0 (figureheadref05_Sum.j0 kq x5_2 a0_0 a0_1 a0_2 a1_0 a1_1 a1_2 = some (r1, r2, r3)) ∧ Aside0 (kq ≤ k) ∧ Aside0 (wc.heap[gb340]? = some (.cells #[.bool a0_0, .string a0_1, .int .i64 a0_2] 23 (0, 0))) ∧ Aside0 (wc.heap[gb341]? = some (.cells #[.bool a1_0, .string a1_1, .int .i64 a1_2] 23 (0, 0))) ∧ Aside0 (wc.heap[gb342]? = some (.cells #[.bool false, .string (⟨#[]⟩ : ByteArray), .int .i64 0] 23 (0, 0))) ∧ Aside0 (Below w.heap.size w wc))
  case first =>
    have H := HC3.out
    clear HC3
    by_cases c12 : a1_2 < a0_2
    · rw [if_pos c12] at H
      have c12b0 : decide (a1_2 < a0_2) = true := decide_eq_true c12
      clear c12
      (first | rw [c12b0] | (simp only [i64_w, i32_w]; rw [c12b0]) | skip)
      have H' := Aside0.mk H
      clear H
      have hnb13 := NB341_340.out
      have hnc13 := NB340_341.out
      have hnb14 := NB341_342.out
      have hnc14 := NB342_341.out
      obtain ⟨⟨hcz15_0, hcz15_1, hcz15_2⟩, hfz15_0, hfz15_1, hfz15_2⟩ := ce3 BK341
      go_wp2
      go_meet
      case rel => exact ⟨_, (a1_2), (by first | rfl | (simp; done) | (simp [*]; done) | (simp [*, Fig.bne_nil]; done)), H', ⟨by first | omega | exact Nat.le_refl _⟩, ⟨by (with_reducible repeat (first | refine blk_drewN ?_ _ | refine blk_drew ?_ | refine blk_alloc ?_ _)); exact BK340.out⟩, ⟨by (with_reducible repeat (first | refine blk_drewN ?_ _ | refine blk_drew ?_ | refine blk_alloc ?_ _)); exact BK341.out⟩, ⟨by (with_reducible repeat (first | refine blk_drewN ?_ _ | refine blk_drew ?_ | refine blk_alloc ?_ _)); exact BK342.out⟩, ⟨BL HB⟩⟩
    rw [if_neg c12] at H
    have c12b0 : decide (a1_2 < a0_2) = false := decide_eq_false c12
    clear c12
    (first | rw [c12b0] | (simp only [i64_w, i32_w]; rw [c12b0]) | skip)
    have H' := Aside0.mk H
    clear H
    go_wp2
    go_meet
    case rel => exact ⟨_, (a0_2), (by first | rfl | (simp; done) | (simp [*]; done) | (simp [*, Fig.bne_nil]; done)), H', ⟨by first | omega | exact Nat.le_refl _⟩, ⟨by (with_reducible repeat (first | refine blk_drewN ?_ _ | refine blk_drew ?_ | refine blk_alloc ?_ _)); exact BK340.out⟩, ⟨by (with_reducible repeat (first | refine blk_drewN ?_ _ | refine blk_drew ?_ | refine blk_alloc ?_ _)); exact BK341.out⟩, ⟨by (with_reducible repeat (first | refine blk_drewN ?_ _ | refine blk_drew ?_ | refine blk_alloc ?_ _)); exact BK342.out⟩, ⟨BL HB⟩⟩
  clear HC3
  try clear hcz11_0
  try clear hcz11_1
  try clear hcz11_2
  try clear hcz9_0
  try clear hcz9_1
  try clear hcz9_2
  try clear hfz11_0
  try clear hfz11_1
  try clear hfz11_2
  try clear hfz9_0
  try clear hfz9_1
  try clear hfz9_2
  obtain ⟨kq, x5_2, rfl, HA, HJ2, BK340, BK341, BK342, HB⟩ := hcut
  obtain _ | kj2 := kq
  · exact absurd HA.out (by simp [figureheadref05_Sum.j0])
  have H := HA.out
  clear HA
  simp only [figureheadref05_Sum.j0] at H
  obtain ⟨t343, A160, H⟩ := Option.bind_eq_some_iff.mp H
  (try dsimp -simprocs only at H)
  have A16 := Aside0.mk A160
  clear A160
  obtain ⟨t344, A170, H⟩ := Option.bind_eq_some_iff.mp H
  (try dsimp -simprocs only at H)
  have A17 := Aside0.mk A170
  clear A170
  (try have HS3_ := Aside0.mk H)
  (try clear H)
  try go_wp2
  (try (rw [drewN_self wc]; generalize hq_ : World.drewN wc _ = wc; replace BK340 := bkq_ BK340 hq_; replace BK341 := bkq_ BK341 hq_; replace BK342 := bkq_ BK342 hq_; replace HB := hbq_ HB hq_; clear hq_))
  replace BK340 := Aside0.mk (blk_drew BK340.out)
  replace BK341 := Aside0.mk (blk_drew BK341.out)
  replace BK342 := Aside0.mk (blk_drew BK342.out)
  replace HB := Aside0.mk (below_drew1 HB.out)
  refine start_ (n := 8) (S := fun w' => w'.cell? ⟨gb340, 0, none⟩ = some (.bool a0_0) ∧ w'.cell? ⟨gb340, 1, none⟩ = some (.string a0_1) ∧ w'.cell? ⟨gb340, 2, none⟩ = some (.int .i64 a0_2) ∧ w'.cell? ⟨gb341, 0, none⟩ = some (.bool a1_0) ∧ w'.cell? ⟨gb341, 1, none⟩ = some (.string a1_1) ∧ w'.cell? ⟨gb341, 2, none⟩ = some (.int .i64 a1_2)) (ds := []) #[false, false, false, false, false, false, false, false] (by kernel_rfl) rfl rfl CE (fun hHeld => ?_); refine with_tabW figureheadref05_Sum.tab4 figureheadref05_Sum.bits4 (fun HT_ HW_ => ?_)
  generalize wc.drew = w22 at BK340 BK341 BK342 HB hHeld ⊢
  refine pu_ 1 (some 17) (bb 8 2) (any_of HT_.out (by kernel_rfl)) ?_
  refine pu_ 4 (some 20) (bb 8 18) (any_of HT_.out (by kernel_rfl)) ?_
  refine tk_ 0 (some 16) (bb 8 19) (take_ofW HT_.out HW_.out (by kernel_rfl)) hHeld ?_
  refine tk_ 3 (some 19) (bb 8 27) (take_ofW HT_.out HW_.out (by kernel_rfl)) hHeld ?_
  refine one_ (i := 2) (N := some 18) (bb 8 31) rfl rfl (one_of HT_.out (by kernel_rfl)) (by decide) (fun K hK => ?_)
  refine goes_ Tryd.func32 (by kernel_rfl) rfl #[.agg #[.bool a0_0, .string a0_1, .int .i64 a0_2], .int .i64 x5_2] (by rfl) rfl rfl MP ?_
  with_reducible refine (figureheadref05_At.calls kj2 a0_0 a0_1 a0_2 x5_2 t343 _ A16.out).mono ?_
  rintro e w23 ⟨rfl, hb⟩
  refine ⟨_, rfl, ?_⟩
  replace BK340 := bkb_ BK340 hb
  replace BK341 := bkb_ BK341 hb
  replace BK342 := bkb_ BK342 hb
  replace HB := hbs_ HB hb
  (try clear hb)
  (try clear hb2)
  (try clear hk)
  (try clear hi)
  refine hK.out _ _ CE (fun hHeld => ?_)
  clear hK K
  refine no_ ?_
  refine one_ (i := 5) (N := some 21) (bb 8 63) rfl rfl (one_of HT_.out (by kernel_rfl)) (by decide) (fun K hK => ?_)
  refine goes_ Tryd.func32 (by kernel_rfl) rfl #[.agg #[.bool a1_0, .string a1_1, .int .i64 a1_2], .int .i64 x5_2] (by rfl) rfl rfl MP ?_
  with_reducible refine (figureheadref05_At.calls kj2 a1_0 a1_1 a1_2 x5_2 t344 _ A17.out).mono ?_
  rintro e w24 ⟨rfl, hb⟩
  refine ⟨_, rfl, ?_⟩
  replace BK340 := bkb_ BK340 hb
  replace BK341 := bkb_ BK341 hb
  replace BK342 := bkb_ BK342 hb
  replace HB := hbs_ HB hb
  (try clear hb)
  (try clear hb2)
  (try clear hk)
  (try clear hi)
  refine hK.out _ _ CE (fun hHeld => ?_)
  clear hK K
  refine no_ ?_
  refine pu_ 6 (some 6) (bb 8 127) (any_of HT_.out (by kernel_rfl)) ?_
  refine pu_ 7 (some 7) (bb 8 255) (any_of HT_.out (by kernel_rfl)) ?_
  (try have H := HS3_.out)
  (try clear HS3_)
  by_cases c18 : (a0_0 == a1_0) = true
  · rw [if_pos c18] at H
    have c18b0 : (a0_0 == a1_0) = true := c18
    (try (have c18b1 : decide (a0_0 = a1_0) = true := by simpa using c18))
    (try (have c18b2 : (a0_0 == a1_0) = true := by simpa using c18))
    clear c18
    obtain ⟨t345, A190, H⟩ := Option.bind_eq_some_iff.mp H
    (try dsimp -simprocs only at H)
    have A19 := Aside0.mk A190
    clear A190
    obtain ⟨⟨t346, t347, t348⟩, A200, H⟩ := Option.bind_eq_some_iff.mp H
    (try dsimp -simprocs only at H)
    have A20 := Aside0.mk A200
    clear A200
    obtain ⟨⟨t349, t350, t351⟩, A210, H⟩ := Option.bind_eq_some_iff.mp H
    (try dsimp -simprocs only at H)
    have A21 := Aside0.mk A210
    clear A210
    simp only [Option.some.injEq, Prod.mk.injEq] at H
    obtain ⟨rfl, rfl, rfl⟩ := H
    refine done_ (done_of HT_.out (by kernel_rfl)) ?_
    have hnb25 := NB340_341.out
    have hnc25 := NB341_340.out
    have hnb26 := NB340_342.out
    have hnc26 := NB342_340.out
    obtain ⟨⟨hcz27_0, hcz27_1, hcz27_2⟩, hfz27_0, hfz27_1, hfz27_2⟩ := ce3 BK340
    have hnb28 := NB341_342.out
    have hnc28 := NB342_341.out
    obtain ⟨⟨hcz29_0, hcz29_1, hcz29_2⟩, hfz29_0, hfz29_1, hfz29_2⟩ := ce3 BK341
    try go_wp2
    (try (rw [drewN_self w24]; generalize hq_ : World.drewN w24 _ = w24; replace BK340 := bkq_ BK340 hq_; replace BK341 := bkq_ BK341 hq_; replace BK342 := bkq_ BK342 hq_; replace HB := hbq_ HB hq_; clear hq_))
    replace BK340 := Aside0.mk (blk_drew BK340.out)
    replace BK341 := Aside0.mk (blk_drew BK341.out)
    replace BK342 := Aside0.mk (blk_drew BK342.out)
    replace HB := Aside0.mk (below_drew1 HB.out)
    refine start_ (n := 9) (S := fun w' => w'.cell? ⟨gb340, 0, none⟩ = some (.bool a0_0) ∧ w'.cell? ⟨gb340, 1, none⟩ = some (.string a0_1) ∧ w'.cell? ⟨gb340, 2, none⟩ = some (.int .i64 a0_2)) (ds := []) #[false, false, false, false, false, false, false, false, false] (by kernel_rfl) rfl rfl CE (fun hHeld => ?_); refine with_tabW figureheadref05_Sum.tab6 figureheadref05_Sum.bits6 (fun HT_ HW_ => ?_)
    generalize w24.drew = w30 at BK340 BK341 BK342 HB hHeld ⊢
    refine pu_ 0 (some 27) (bb 9 1) (any_of HT_.out (by kernel_rfl)) ?_
    refine pu_ 2 (some 29) (bb 9 5) (any_of HT_.out (by kernel_rfl)) ?_
    refine pu_ 3 (some 30) (bb 9 13) (any_of HT_.out (by kernel_rfl)) ?_
    refine pu_ 5 (some 32) (bb 9 45) (any_of HT_.out (by kernel_rfl)) ?_
    refine tk_ 1 (some 28) (bb 9 47) (take_ofW HT_.out HW_.out (by kernel_rfl)) hHeld ?_
    refine one_ (i := 4) (N := some 31) (bb 9 63) rfl rfl (one_of HT_.out (by kernel_rfl)) (by decide) (fun K hK => ?_)
    refine goes_ Tryd.func34 (by kernel_rfl) rfl #[.string t343, .string t344] (by rfl) rfl rfl MP ?_
    with_reducible refine (figureheadref01_Plus.calls kj2 t343 t344 t345 _ A19.out).mono ?_
    rintro e w31 ⟨rfl, hb⟩
    refine ⟨_, rfl, ?_⟩
    replace BK340 := bkb_ BK340 hb
    replace BK341 := bkb_ BK341 hb
    replace BK342 := bkb_ BK342 hb
    replace HB := hbs_ HB hb
    (try clear hb)
    (try clear hb2)
    (try clear hk)
    (try clear hi)
    refine hK.out _ _ CE (fun hHeld => ?_)
    clear hK K
    refine no_ ?_
    refine one_ (i := 6) (N := some 33) (bb 9 127) rfl rfl (one_of HT_.out (by kernel_rfl)) (by decide) (fun K hK => ?_)
    refine goes_ Tryd.func37 (by kernel_rfl) rfl #[.bool a0_0, .string t345, .int .i64 x5_2] (by rfl) rfl rfl MP ?_
    with_reducible refine (figureheadref05_Make.calls kj2 a0_0 t345 x5_2 t346 t347 t348 _ A20.out).mono ?_
    rintro e w32 ⟨rfl, hb⟩
    refine ⟨_, rfl, ?_⟩
    replace BK340 := bkb_ BK340 hb
    replace BK341 := bkb_ BK341 hb
    replace BK342 := bkb_ BK342 hb
    replace HB := hbs_ HB hb
    (try clear hb)
    (try clear hb2)
    (try clear hk)
    (try clear hi)
    refine hK.out _ _ CE (fun hHeld => ?_)
    clear hK K
    refine no_ ?_
    refine one_ (i := 7) (N := some 34) (bb 9 255) rfl rfl (one_of HT_.out (by kernel_rfl)) (by decide) (fun K hK => ?_)
    refine goes_ Tryd.func39 (by kernel_rfl) rfl #[.agg #[.bool t346, .string t347, .int .i64 t348]] (by rfl) rfl rfl MP ?_
    with_reducible refine (figureheadref05_plain.calls t346 t347 t348 t349 t350 t351 _ A21.out).mono ?_
    rintro e w33 ⟨rfl, hb⟩
    refine ⟨_, rfl, ?_⟩
    replace BK340 := bkb_ BK340 hb
    replace BK341 := bkb_ BK341 hb
    replace BK342 := bkb_ BK342 hb
    replace HB := hbs_ HB hb
    (try clear hb)
    (try clear hb2)
    (try clear hk)
    (try clear hi)
    refine hK.out _ _ CE (fun hHeld => ?_)
    clear hK K
    refine no_ ?_
    refine one_ (i := 8) (N := none) (bb 9 511) rfl rfl (one_of HT_.out (by kernel_rfl)) (by decide) (fun K hK => ?_)
    have hs34 : w33.cell? ⟨gb342, 0, none⟩ = some (.bool false) := (blk_cell BK342.out 0).trans rfl
    have hfs34 := blk_frozen BK342.out 0
    have hns34_0 := NB340_342.out
    have hns34_1 := NB341_342.out
    have hms34_0 := NB342_340.out
    have hms34_1 := NB342_341.out
    have hs35 : w33.cell? ⟨gb342, 1, none⟩ = some (.string (⟨#[]⟩ : ByteArray)) := (blk_cell BK342.out 1).trans rfl
    have hfs35 := blk_frozen BK342.out 1
    have hns35_0 := NB340_342.out
    have hns35_1 := NB341_342.out
    have hms35_0 := NB342_340.out
    have hms35_1 := NB342_341.out
    have hs36 : w33.cell? ⟨gb342, 2, none⟩ = some (.int .i64 0) := (blk_cell BK342.out 2).trans rfl
    have hfs36 := blk_frozen BK342.out 2
    have hns36_0 := NB340_342.out
    have hns36_1 := NB341_342.out
    have hms36_0 := NB342_340.out
    have hms36_1 := NB342_341.out
    refine skip_ (w1 := ?_) (by rfl) rfl ?_ ?_
    rotate_left
    · go_simp
      rfl
    refine hK.out _ _ ⟨((cell_far (p := ⟨gb342, _, none⟩) NB340_342.out _).trans (((cell_far (p := ⟨gb342, _, none⟩) NB340_342.out _).trans (((cell_far (p := ⟨gb342, _, none⟩) NB340_342.out _).trans (hHeld.1)))))), ((cell_far (p := ⟨gb342, _, none⟩) NB340_342.out _).trans (((cell_far (p := ⟨gb342, _, none⟩) NB340_342.out _).trans (((cell_far (p := ⟨gb342, _, none⟩) NB340_342.out _).trans (hHeld.2.1)))))), ((cell_far (p := ⟨gb342, _, none⟩) NB340_342.out _).trans (((cell_far (p := ⟨gb342, _, none⟩) NB340_342.out _).trans (((cell_far (p := ⟨gb342, _, none⟩) NB340_342.out _).trans (hHeld.2.2))))))⟩ (fun hHeld => ?_)
    clear hK K
    refine done_ (done_of HT_.out (by kernel_rfl)) ?_
    try go_wp2
    refine bodyPost_ret (results_cell_row rfl _ _ gb342 23 #[.bool t349, .string t350, .int .i64 t351] (0, 0) _ rfl (by (with_reducible repeat (first | refine blk_drewN ?_ _ | refine blk_drew ?_ | refine blk_alloc ?_ _)); refine blk_put (cs := #[.bool t349, .string t350, .int .i64 0]) ?_ 2 _ rfl; (with_reducible repeat (first | refine blk_drewN ?_ _ | refine blk_drew ?_ | refine blk_alloc ?_ _)); refine blk_put (cs := #[.bool t349, .string (⟨#[]⟩ : ByteArray), .int .i64 0]) ?_ 1 _ rfl; (with_reducible repeat (first | refine blk_drewN ?_ _ | refine blk_drew ?_ | refine blk_alloc ?_ _)); refine blk_put (cs := #[.bool false, .string (⟨#[]⟩ : ByteArray), .int .i64 0]) ?_ 0 _ rfl; (with_reducible repeat (first | refine blk_drewN ?_ _ | refine blk_drew ?_ | refine blk_alloc ?_ _)); exact BK342.out) Tryd.underlying23 rfl (by kernel_rfl)) rfl ?_
    exact ⟨ER, BL HB⟩
  rw [if_neg c18] at H
  have c18b0 : (a0_0 == a1_0) = false := by simpa using c18
  (try (have c18b1 : decide (a0_0 = a1_0) = false := by simpa using c18))
  (try (have c18b2 : (a0_0 == a1_0) = false := by simpa using c18))
  (try (have c18b3 : ¬ (a0_0 = a1_0) := by simpa using c18))
  clear c18
  obtain ⟨t352, A370, H⟩ := Option.bind_eq_some_iff.mp H
  (try dsimp -simprocs only at H)
  have A37 := Aside0.mk A370
  clear A370
  (try have HS2_ := Aside0.mk H)
  (try clear H)
  (try have H := HS2_.out)
  (try clear HS2_)
  by_cases c38 : t352 = true
  · subst c38
    rw [if_pos rfl] at H
    obtain ⟨t353, A390, H⟩ := Option.bind_eq_some_iff.mp H
    (try dsimp -simprocs only at H)
    have A39 := Aside0.mk A390
    clear A390
    obtain ⟨⟨t354, t355, t356⟩, A400, H⟩ := Option.bind_eq_some_iff.mp H
    (try dsimp -simprocs only at H)
    have A40 := Aside0.mk A400
    clear A400
    obtain ⟨⟨t357, t358, t359⟩, A410, H⟩ := Option.bind_eq_some_iff.mp H
    (try dsimp -simprocs only at H)
    have A41 := Aside0.mk A410
    clear A410
    simp only [Option.some.injEq, Prod.mk.injEq] at H
    obtain ⟨rfl, rfl, rfl⟩ := H
    refine done_ (done_of HT_.out (by kernel_rfl)) ?_
    have hnb45 := NB340_341.out
    have hnc45 := NB341_340.out
    have hnb46 := NB340_342.out
    have hnc46 := NB342_340.out
    obtain ⟨⟨hcz47_0, hcz47_1, hcz47_2⟩, hfz47_0, hfz47_1, hfz47_2⟩ := ce3 BK340
    have hnb48 := NB341_342.out
    have hnc48 := NB342_341.out
    obtain ⟨⟨hcz49_0, hcz49_1, hcz49_2⟩, hfz49_0, hfz49_1, hfz49_2⟩ := ce3 BK341
    try go_wp2_with (first | ((with_reducible refine gate_callee (f := 35) rfl ?_); refine goesL_ (some 37) rfl rfl Tryd.func35 (by kernel_rfl) rfl #[.string t343, .string t344] rfl MP ?_; (with_reducible refine (figureheadref01_Less.calls t343 t344 true _ A37.out).mono ?_); rintro e w' ⟨rfl, ⟨nd, rfl⟩⟩; refine ⟨_, rfl, ?_⟩; (try (rw [drewN_self w24]; generalize hq_ : World.drewN w24 _ = w24; replace BK340 := bkq_ BK340 hq_; replace BK341 := bkq_ BK341 hq_; replace BK342 := bkq_ BK342 hq_; replace HB := hbq_ HB hq_; clear hq_)); (try (obtain ⟨⟨hcz9011_0, hcz9011_1, hcz9011_2⟩, hfz9011_0, hfz9011_1, hfz9011_2⟩ := ce3 BK340)); (try (obtain ⟨⟨hcz9012_0, hcz9012_1, hcz9012_2⟩, hfz9012_0, hfz9012_1, hfz9012_2⟩ := ce3 BK341)); (try (obtain ⟨⟨hcz9013_0, hcz9013_1, hcz9013_2⟩, hfz9013_0, hfz9013_1, hfz9013_2⟩ := ce3 BK342))))
    (try (rw [drewN_self w24]; generalize hq_ : World.drewN w24 _ = w24; replace BK340 := bkq_ BK340 hq_; replace BK341 := bkq_ BK341 hq_; replace BK342 := bkq_ BK342 hq_; replace HB := hbq_ HB hq_; clear hq_))
    replace BK340 := Aside0.mk (blk_drew BK340.out)
    replace BK341 := Aside0.mk (blk_drew BK341.out)
    replace BK342 := Aside0.mk (blk_drew BK342.out)
    replace HB := Aside0.mk (below_drew1 HB.out)
    refine start_ (n := 9) (S := fun w' => w'.cell? ⟨gb341, 0, none⟩ = some (.bool a1_0) ∧ w'.cell? ⟨gb341, 1, none⟩ = some (.string a1_1) ∧ w'.cell? ⟨gb341, 2, none⟩ = some (.int .i64 a1_2)) (ds := []) #[false, false, false, false, false, false, false, false, false] (by kernel_rfl) rfl rfl CE (fun hHeld => ?_); refine with_tabW figureheadref05_Sum.tab8 figureheadref05_Sum.bits8 (fun HT_ HW_ => ?_)
    generalize w24.drew = w50 at BK340 BK341 BK342 HB hHeld ⊢
    refine pu_ 0 (some 38) (bb 9 1) (any_of HT_.out (by kernel_rfl)) ?_
    refine pu_ 2 (some 40) (bb 9 5) (any_of HT_.out (by kernel_rfl)) ?_
    refine pu_ 3 (some 41) (bb 9 13) (any_of HT_.out (by kernel_rfl)) ?_
    refine pu_ 5 (some 43) (bb 9 45) (any_of HT_.out (by kernel_rfl)) ?_
    refine tk_ 1 (some 39) (bb 9 47) (take_ofW HT_.out HW_.out (by kernel_rfl)) hHeld ?_
    refine one_ (i := 4) (N := some 42) (bb 9 63) rfl rfl (one_of HT_.out (by kernel_rfl)) (by decide) (fun K hK => ?_)
    refine goes_ Tryd.func40 (by kernel_rfl) rfl #[.string t344, .string t343] (by rfl) rfl rfl MP ?_
    with_reducible refine (figureheadref01_Minus.calls kj2 t344 t343 t353 _ A39.out).mono ?_
    rintro e w51 ⟨rfl, hb⟩
    refine ⟨_, rfl, ?_⟩
    replace BK340 := bkb_ BK340 hb
    replace BK341 := bkb_ BK341 hb
    replace BK342 := bkb_ BK342 hb
    replace HB := hbs_ HB hb
    (try clear hb)
    (try clear hb2)
    (try clear hk)
    (try clear hi)
    refine hK.out _ _ CE (fun hHeld => ?_)
    clear hK K
    refine no_ ?_
    refine one_ (i := 6) (N := some 44) (bb 9 127) rfl rfl (one_of HT_.out (by kernel_rfl)) (by decide) (fun K hK => ?_)
    refine goes_ Tryd.func37 (by kernel_rfl) rfl #[.bool a1_0, .string t353, .int .i64 x5_2] (by rfl) rfl rfl MP ?_
    with_reducible refine (figureheadref05_Make.calls kj2 a1_0 t353 x5_2 t354 t355 t356 _ A40.out).mono ?_
    rintro e w52 ⟨rfl, hb⟩
    refine ⟨_, rfl, ?_⟩
    replace BK340 := bkb_ BK340 hb
    replace BK341 := bkb_ BK341 hb
    replace BK342 := bkb_ BK342 hb
    replace HB := hbs_ HB hb
    (try clear hb)
    (try clear hb2)
    (try clear hk)
    (try clear hi)
    refine hK.out _ _ CE (fun hHeld => ?_)
    clear hK K
    refine no_ ?_
    refine one_ (i := 7) (N := some 45) (bb 9 255) rfl rfl (one_of HT_.out (by kernel_rfl)) (by decide) (fun K hK => ?_)
    refine goes_ Tryd.func39 (by kernel_rfl) rfl #[.agg #[.bool t354, .string t355, .int .i64 t356]] (by rfl) rfl rfl MP ?_
    with_reducible refine (figureheadref05_plain.calls t354 t355 t356 t357 t358 t359 _ A41.out).mono ?_
    rintro e w53 ⟨rfl, hb⟩
    refine ⟨_, rfl, ?_⟩
    replace BK340 := bkb_ BK340 hb
    replace BK341 := bkb_ BK341 hb
    replace BK342 := bkb_ BK342 hb
    replace HB := hbs_ HB hb
    (try clear hb)
    (try clear hb2)
    (try clear hk)
    (try clear hi)
    refine hK.out _ _ CE (fun hHeld => ?_)
    clear hK K
    refine no_ ?_
    refine one_ (i := 8) (N := none) (bb 9 511) rfl rfl (one_of HT_.out (by kernel_rfl)) (by decide) (fun K hK => ?_)
    have hs54 : w53.cell? ⟨gb342, 0, none⟩ = some (.bool false) := (blk_cell BK342.out 0).trans rfl
    have hfs54 := blk_frozen BK342.out 0
    have hns54_0 := NB340_342.out
    have hns54_1 := NB341_342.out
    have hms54_0 := NB342_340.out
    have hms54_1 := NB342_341.out
    have hs55 : w53.cell? ⟨gb342, 1, none⟩ = some (.string (⟨#[]⟩ : ByteArray)) := (blk_cell BK342.out 1).trans rfl
    have hfs55 := blk_frozen BK342.out 1
    have hns55_0 := NB340_342.out
    have hns55_1 := NB341_342.out
    have hms55_0 := NB342_340.out
    have hms55_1 := NB342_341.out
    have hs56 : w53.cell? ⟨gb342, 2, none⟩ = some (.int .i64 0) := (blk_cell BK342.out 2).trans rfl
    have hfs56 := blk_frozen BK342.out 2
    have hns56_0 := NB340_342.out
    have hns56_1 := NB341_342.out
    have hms56_0 := NB342_340.out
    have hms56_1 := NB342_341.out
    refine skip_ (w1 := ?_) (by rfl) rfl ?_ ?_
    rotate_left
    · go_simp
      rfl
    refine hK.out _ _ ⟨((cell_far (p := ⟨gb342, _, none⟩) NB341_342.out _).trans (((cell_far (p := ⟨gb342, _, none⟩) NB341_342.out _).trans (((cell_far (p := ⟨gb342, _, none⟩) NB341_342.out _).trans (hHeld.1)))))), ((cell_far (p := ⟨gb342, _, none⟩) NB341_342.out _).trans (((cell_far (p := ⟨gb342, _, none⟩) NB341_342.out _).trans (((cell_far (p := ⟨gb342, _, none⟩) NB341_342.out _).trans (hHeld.2.1)))))), ((cell_far (p := ⟨gb342, _, none⟩) NB341_342.out _).trans (((cell_far (p := ⟨gb342, _, none⟩) NB341_342.out _).trans (((cell_far (p := ⟨gb342, _, none⟩) NB341_342.out _).trans (hHeld.2.2))))))⟩ (fun hHeld => ?_)
    clear hK K
    refine done_ (done_of HT_.out (by kernel_rfl)) ?_
    try go_wp2
    refine bodyPost_ret (results_cell_row rfl _ _ gb342 23 #[.bool t357, .string t358, .int .i64 t359] (0, 0) _ rfl (by (with_reducible repeat (first | refine blk_drewN ?_ _ | refine blk_drew ?_ | refine blk_alloc ?_ _)); refine blk_put (cs := #[.bool t357, .string t358, .int .i64 0]) ?_ 2 _ rfl; (with_reducible repeat (first | refine blk_drewN ?_ _ | refine blk_drew ?_ | refine blk_alloc ?_ _)); refine blk_put (cs := #[.bool t357, .string (⟨#[]⟩ : ByteArray), .int .i64 0]) ?_ 1 _ rfl; (with_reducible repeat (first | refine blk_drewN ?_ _ | refine blk_drew ?_ | refine blk_alloc ?_ _)); refine blk_put (cs := #[.bool false, .string (⟨#[]⟩ : ByteArray), .int .i64 0]) ?_ 0 _ rfl; (with_reducible repeat (first | refine blk_drewN ?_ _ | refine blk_drew ?_ | refine blk_alloc ?_ _)); exact BK342.out) Tryd.underlying23 rfl (by kernel_rfl)) rfl ?_
    exact ⟨ER, BL HB⟩
  replace c38 := Bool.eq_false_iff.mpr c38
  subst c38
  rw [if_neg (show ¬ (false = true) by decide)] at H
  obtain ⟨t360, A570, H⟩ := Option.bind_eq_some_iff.mp H
  (try dsimp -simprocs only at H)
  have A57 := Aside0.mk A570
  clear A570
  obtain ⟨⟨t361, t362, t363⟩, A580, H⟩ := Option.bind_eq_some_iff.mp H
  (try dsimp -simprocs only at H)
  have A58 := Aside0.mk A580
  clear A580
  obtain ⟨⟨t364, t365, t366⟩, A590, H⟩ := Option.bind_eq_some_iff.mp H
  (try dsimp -simprocs only at H)
  have A59 := Aside0.mk A590
  clear A590
  simp only [Option.some.injEq, Prod.mk.injEq] at H
  obtain ⟨rfl, rfl, rfl⟩ := H
  refine done_ (done_of HT_.out (by kernel_rfl)) ?_
  have hnb45 := NB340_341.out
  have hnc45 := NB341_340.out
  have hnb46 := NB340_342.out
  have hnc46 := NB342_340.out
  obtain ⟨⟨hcz47_0, hcz47_1, hcz47_2⟩, hfz47_0, hfz47_1, hfz47_2⟩ := ce3 BK340
  have hnb48 := NB341_342.out
  have hnc48 := NB342_341.out
  obtain ⟨⟨hcz49_0, hcz49_1, hcz49_2⟩, hfz49_0, hfz49_1, hfz49_2⟩ := ce3 BK341
  try go_wp2_with (first | ((with_reducible refine gate_callee (f := 35) rfl ?_); refine goesL_ (some 37) rfl rfl Tryd.func35 (by kernel_rfl) rfl #[.string t343, .string t344] rfl MP ?_; (with_reducible refine (figureheadref01_Less.calls t343 t344 false _ A37.out).mono ?_); rintro e w' ⟨rfl, ⟨nd, rfl⟩⟩; refine ⟨_, rfl, ?_⟩; (try (rw [drewN_self w24]; generalize hq_ : World.drewN w24 _ = w24; replace BK340 := bkq_ BK340 hq_; replace BK341 := bkq_ BK341 hq_; replace BK342 := bkq_ BK342 hq_; replace HB := hbq_ HB hq_; clear hq_)); (try (obtain ⟨⟨hcz9014_0, hcz9014_1, hcz9014_2⟩, hfz9014_0, hfz9014_1, hfz9014_2⟩ := ce3 BK340)); (try (obtain ⟨⟨hcz9015_0, hcz9015_1, hcz9015_2⟩, hfz9015_0, hfz9015_1, hfz9015_2⟩ := ce3 BK341)); (try (obtain ⟨⟨hcz9016_0, hcz9016_1, hcz9016_2⟩, hfz9016_0, hfz9016_1, hfz9016_2⟩ := ce3 BK342))))
  (try (rw [drewN_self w24]; generalize hq_ : World.drewN w24 _ = w24; replace BK340 := bkq_ BK340 hq_; replace BK341 := bkq_ BK341 hq_; replace BK342 := bkq_ BK342 hq_; replace HB := hbq_ HB hq_; clear hq_))
  replace BK340 := Aside0.mk (blk_drew BK340.out)
  replace BK341 := Aside0.mk (blk_drew BK341.out)
  replace BK342 := Aside0.mk (blk_drew BK342.out)
  replace HB := Aside0.mk (below_drew1 HB.out)
  refine start_ (n := 9) (S := fun w' => w'.cell? ⟨gb340, 0, none⟩ = some (.bool a0_0) ∧ w'.cell? ⟨gb340, 1, none⟩ = some (.string a0_1) ∧ w'.cell? ⟨gb340, 2, none⟩ = some (.int .i64 a0_2)) (ds := []) #[false, false, false, false, false, false, false, false, false] (by kernel_rfl) rfl rfl CE (fun hHeld => ?_); refine with_tabW figureheadref05_Sum.tab9 figureheadref05_Sum.bits9 (fun HT_ HW_ => ?_)
  generalize w24.drew = w68 at BK340 BK341 BK342 HB hHeld ⊢
  refine pu_ 0 (some 46) (bb 9 1) (any_of HT_.out (by kernel_rfl)) ?_
  refine pu_ 2 (some 48) (bb 9 5) (any_of HT_.out (by kernel_rfl)) ?_
  refine pu_ 3 (some 49) (bb 9 13) (any_of HT_.out (by kernel_rfl)) ?_
  refine pu_ 5 (some 51) (bb 9 45) (any_of HT_.out (by kernel_rfl)) ?_
  refine tk_ 1 (some 47) (bb 9 47) (take_ofW HT_.out HW_.out (by kernel_rfl)) hHeld ?_
  refine one_ (i := 4) (N := some 50) (bb 9 63) rfl rfl (one_of HT_.out (by kernel_rfl)) (by decide) (fun K hK => ?_)
  refine goes_ Tryd.func40 (by kernel_rfl) rfl #[.string t343, .string t344] (by rfl) rfl rfl MP ?_
  with_reducible refine (figureheadref01_Minus.calls kj2 t343 t344 t360 _ A57.out).mono ?_
  rintro e w69 ⟨rfl, hb⟩
  refine ⟨_, rfl, ?_⟩
  replace BK340 := bkb_ BK340 hb
  replace BK341 := bkb_ BK341 hb
  replace BK342 := bkb_ BK342 hb
  replace HB := hbs_ HB hb
  (try clear hb)
  (try clear hb2)
  (try clear hk)
  (try clear hi)
  refine hK.out _ _ CE (fun hHeld => ?_)
  clear hK K
  refine no_ ?_
  refine one_ (i := 6) (N := some 52) (bb 9 127) rfl rfl (one_of HT_.out (by kernel_rfl)) (by decide) (fun K hK => ?_)
  refine goes_ Tryd.func37 (by kernel_rfl) rfl #[.bool a0_0, .string t360, .int .i64 x5_2] (by rfl) rfl rfl MP ?_
  with_reducible refine (figureheadref05_Make.calls kj2 a0_0 t360 x5_2 t361 t362 t363 _ A58.out).mono ?_
  rintro e w70 ⟨rfl, hb⟩
  refine ⟨_, rfl, ?_⟩
  replace BK340 := bkb_ BK340 hb
  replace BK341 := bkb_ BK341 hb
  replace BK342 := bkb_ BK342 hb
  replace HB := hbs_ HB hb
  (try clear hb)
  (try clear hb2)
  (try clear hk)
  (try clear hi)
  refine hK.out _ _ CE (fun hHeld => ?_)
  clear hK K
  refine no_ ?_
  refine one_ (i := 7) (N := some 53) (bb 9 255) rfl rfl (one_of HT_.out (by kernel_rfl)) (by decide) (fun K hK => ?_)
  refine goes_ Tryd.func39 (by kernel_rfl) rfl #[.agg #[.bool t361, .string t362, .int .i64 t363]] (by rfl) rfl rfl MP ?_
  with_reducible refine (figureheadref05_plain.calls t361 t362 t363 t364 t365 t366 _ A59.out).mono ?_
  rintro e w71 ⟨rfl, hb⟩
  refine ⟨_, rfl, ?_⟩
  replace BK340 := bkb_ BK340 hb
  replace BK341 := bkb_ BK341 hb
  replace BK342 := bkb_ BK342 hb
  replace HB := hbs_ HB hb
  (try clear hb)
  (try clear hb2)
  (try clear hk)
  (try clear hi)
  refine hK.out _ _ CE (fun hHeld => ?_)
  clear hK K
  refine no_ ?_
  refine one_ (i := 8) (N := none) (bb 9 511) rfl rfl (one_of HT_.out (by kernel_rfl)) (by decide) (fun K hK => ?_)
  have hs72 : w71.cell? ⟨gb342, 0, none⟩ = some (.bool false) := (blk_cell BK342.out 0).trans rfl
  have hfs72 := blk_frozen BK342.out 0
  have hns72_0 := NB340_342.out
  have hns72_1 := NB341_342.out
  have hms72_0 := NB342_340.out
  have hms72_1 := NB342_341.out
  have hs73 : w71.cell? ⟨gb342, 1, none⟩ = some (.string (⟨#[]⟩ : ByteArray)) := (blk_cell BK342.out 1).trans rfl
  have hfs73 := blk_frozen BK342.out 1
  have hns73_0 := NB340_342.out
  have hns73_1 := NB341_342.out
  have hms73_0 := NB342_340.out
  have hms73_1 := NB342_341.out
  have hs74 : w71.cell? ⟨gb342, 2, none⟩ = some (.int .i64 0) := (blk_cell BK342.out 2).trans rfl
  have hfs74 := blk_frozen BK342.out 2
  have hns74_0 := NB340_342.out
  have hns74_1 := NB341_342.out
  have hms74_0 := NB342_340.out
  have hms74_1 := NB342_341.out
  refine skip_ (w1 := ?_) (by rfl) rfl ?_ ?_
  rotate_left
  · go_simp
    rfl
  refine hK.out _ _ ⟨((cell_far (p := ⟨gb342, _, none⟩) NB340_342.out _).trans (((cell_far (p := ⟨gb342, _, none⟩) NB340_342.out _).trans (((cell_far (p := ⟨gb342, _, none⟩) NB340_342.out _).trans (hHeld.1)))))), ((cell_far (p := ⟨gb342, _, none⟩) NB340_342.out _).trans (((cell_far (p := ⟨gb342, _, none⟩) NB340_342.out _).trans (((cell_far (p := ⟨gb342, _, none⟩) NB340_342.out _).trans (hHeld.2.1)))))), ((cell_far (p := ⟨gb342, _, none⟩) NB340_342.out _).trans (((cell_far (p := ⟨gb342, _, none⟩) NB340_342.out _).trans (((cell_far (p := ⟨gb342, _, none⟩) NB340_342.out _).trans (hHeld.2.2))))))⟩ (fun hHeld => ?_)
  clear hK K
  refine done_ (done_of HT_.out (by kernel_rfl)) ?_
  try go_wp2
  refine bodyPost_ret (results_cell_row rfl _ _ gb342 23 #[.bool t364, .string t365, .int .i64 t366] (0, 0) _ rfl (by (with_reducible repeat (first | refine blk_drewN ?_ _ | refine blk_drew ?_ | refine blk_alloc ?_ _)); refine blk_put (cs := #[.bool t364, .string t365, .int .i64 0]) ?_ 2 _ rfl; (with_reducible repeat (first | refine blk_drewN ?_ _ | refine blk_drew ?_ | refine blk_alloc ?_ _)); refine blk_put (cs := #[.bool t364, .string (⟨#[]⟩ : ByteArray), .int .i64 0]) ?_ 1 _ rfl; (with_reducible repeat (first | refine blk_drewN ?_ _ | refine blk_drew ?_ | refine blk_alloc ?_ _)); refine blk_put (cs := #[.bool false, .string (⟨#[]⟩ : ByteArray), .int .i64 0]) ?_ 0 _ rfl; (with_reducible repeat (first | refine blk_drewN ?_ _ | refine blk_drew ?_ | refine blk_alloc ?_ _)); exact BK342.out) Tryd.underlying23 rfl (by kernel_rfl)) rfl ?_
  exact ⟨ER, BL HB⟩
end Go.Proofs.YtekkpmoppihlaaaDoor.Px
end
section
namespace Go.Proofs.YtekkpmoppihlaaaDoor.Px
open Fig Go.RowKit Go.Proofs.YtekkpmoppihlaaaDoorW.PrintWords Go.Proofs.YtekkpmoppihlaaaDoorW.PrintLast Go.Proofs.YtekkpmoppihlaaaDoorW.PrintMore
attribute [local go_sem] max2_int min2_int max_two min_two max_three min_three max_four min_four   -- for this text's walks alone
attribute [local go_sem] fieldA23_0 fieldA23_1 fieldA23_2
def figureheadref05_Turn.f (a0_0 : Bool) (a0_1 : ByteArray) (a0_2 : Int) : Option (Bool × ByteArray × Int) := some (!a0_0, a0_1, a0_2)
set_option maxHeartbeats 8000000 in
set_option maxRecDepth 100000 in
theorem figureheadref05_Turn.calls (a0_0 : Bool) (a0_1 : ByteArray) (a0_2 : Int) (r1 : Bool) (r2 : ByteArray) (r3 : Int) (w : World) (h : figureheadref05_Turn.f a0_0 a0_1 a0_2 = some (r1, r2, r3)) :
    Calls Tryd.prog 14 #[.agg #[.bool a0_0, .string a0_1, .int .i64 a0_2]] w fun e w' => e = .returned (.agg #[.bool r1, .string r2, .int .i64 r3]) ∧ Below w.heap.size w w' := by
  have hu23 := Tryd.underlying23
  have HB := Aside0.mk (Below.refl w.heap.size w)
  have H : (some (!a0_0, a0_1, a0_2)) = some (r1, r2, r3) := h
  clear h
  simp only [Option.some.injEq, Prod.mk.injEq] at H
  obtain ⟨rfl, rfl, rfl⟩ := H
  go_enter Tryd.func14, Tryd.ntmps14
  go_wp2_with (first | (refine be_ 1 #[.bool a0_0, .string a0_1, .int .i64 a0_2] 23 ?_; intro gb367 hg w2 hbox hb; have n0_ := hbs_ HB hb; have n1_ := Aside0.mk (hbox); have n2_ := Aside0.mk ((by rw [hg]; exact (below_size (BL HB)) : w.heap.size ≤ gb367)); have n3_ := Aside0.mk ((by rw [hg]; exact (below_size (BL HB)) : w.heap.size ≤ gb367)); clear HB; have HB := n0_; have BK367 := n1_; have GW367 := n2_; have GE367 := n3_; clear n0_ n1_ n2_ n3_; clear hb hbox hg) | (refine be_ 2 #[.bool false, .string (⟨#[]⟩ : ByteArray), .int .i64 0] 23 ?_; intro gb368 hg w3 hbox hb; have n0_ := bkb_ BK367 hb; have n1_ := hbs_ HB hb; have n2_ := Aside0.mk (hbox); have n3_ := Aside0.mk ((by rw [hg]; exact (below_size (BL HB)) : w.heap.size ≤ gb368)); have n4_ := Aside0.mk ((by rw [hg]; exact (below_size (BL HB)) : w.heap.size ≤ gb368)); have n5_ := Aside0.mk ((by rw [hg]; exact Nat.ne_of_lt (blk_lt (g := gb367) (o := .cells #[.bool a0_0, .string a0_1, .int .i64 a0_2] 23 (0, 0)) (BK BK367)) : gb367 ≠ gb368)); have n6_ := Aside0.mk ((by rw [hg]; exact Nat.ne_of_gt (blk_lt (g := gb367) (o := .cells #[.bool a0_0, .string a0_1, .int .i64 a0_2] 23 (0, 0)) (BK BK367)) : gb368 ≠ gb367)); clear BK367; clear HB; have BK367 := n0_; have HB := n1_; have BK368 := n2_; have GW368 := n3_; have GE368 := n4_; have NB367_368 := n5_; have NB368_367 := n6_; clear n0_ n1_ n2_ n3_ n4_ n5_ n6_; clear hb hbox hg; have hnb4 := NB367_368.out; have hnc4 := NB368_367.out; obtain ⟨⟨hcz5_0, hcz5_1, hcz5_2⟩, hfz5_0, hfz5_1, hfz5_2⟩ := ce3 BK367; obtain ⟨⟨hcz6_0, hcz6_1, hcz6_2⟩, hfz6_0, hfz6_1, hfz6_2⟩ := ce3 BK368))
  refine bodyPost_ret (results_cell_row rfl _ _ gb368 23 #[.bool (!a0_0), .string a0_1, .int .i64 a0_2] (0, 0) _ rfl (by (with_reducible repeat (first | refine blk_drewN ?_ _ | refine blk_drew ?_ | refine blk_alloc ?_ _)); refine blk_put (cs := #[.bool (!a0_0), .string a0_1, .int .i64 0]) ?_ 2 _ rfl; (with_reducible repeat (first | refine blk_drewN ?_ _ | refine blk_drew ?_ | refine blk_alloc ?_ _)); refine blk_put (cs := #[.bool (!a0_0), .string (⟨#[]⟩ : ByteArray), .int .i64 0]) ?_ 1 _ rfl; (with_reducible repeat (first | refine blk_drewN ?_ _ | refine blk_drew ?_ | refine blk_alloc ?_ _)); refine blk_put (cs := #[.bool false, .string (⟨#[]⟩ : ByteArray), .int .i64 0]) ?_ 0 _ rfl; (with_reducible repeat (first | refine blk_drewN ?_ _ | refine blk_drew ?_ | refine blk_alloc ?_ _)); refine blk_far ?_ NB368_367.out _; (with_reducible repeat (first | refine blk_drewN ?_ _ | refine blk_drew ?_ | refine blk_alloc ?_ _)); exact BK368.out) Tryd.underlying23 rfl (by kernel_rfl)) rfl ?_
  exact ⟨ER, BL HB⟩
end Go.Proofs.YtekkpmoppihlaaaDoor.Px
end
section
namespace Go.Proofs.YtekkpmoppihlaaaDoor.Px
open Fig Go.RowKit Go.Proofs.YtekkpmoppihlaaaDoorW.PrintWords Go.Proofs.YtekkpmoppihlaaaDoorW.PrintLast Go.Proofs.YtekkpmoppihlaaaDoorW.PrintMore
attribute [local go_sem] max2_int min2_int max_two min_two max_three min_three max_four min_four   -- for this text's walks alone
attribute [local go_sem] fieldA23_0 fieldA23_1 fieldA23_2
mutual
def figureheadref05_Cmp.j0 : Nat → Int → Bool → ByteArray → Int → Bool → ByteArray → Int → Option (Int)
  | 0, _, _, _, _, _, _, _ => none
  | k + 1, x5, x370000, x370001, x370002, x371000, x371001, x371002 => (figureheadref05_At.f k x370000 x370001 x370002 x5).bind fun t371 => ((figureheadref05_At.f k x371000 x371001 x371002 x5).bind fun t372 => (if t371.toList = ([] : List UInt8) then (figureheadref05_Cmp.j1 k t371 t372 (t372.toList == ([] : List UInt8)) x370000 x370001 x370002 x371000 x371001 x371002) else (figureheadref05_Cmp.j1 k t371 t372 false x370000 x370001 x370002 x371000 x371001 x371002)))
def figureheadref05_Cmp.j1 : Nat → ByteArray → ByteArray → Bool → Bool → ByteArray → Int → Bool → ByteArray → Int → Option (Int)
  | 0, _, _, _, _, _, _, _, _, _ => none
  | k + 1, x6, x7, x27, x370000, x370001, x370002, x371000, x371001, x371002 => if x27 = true then (some 0) else (if (x370000 != x371000) = true then (if x370000 = true then (some (-1)) else (some 1)) else (if x6.toList = x7.toList then (some 0) else ((figureheadref01_Less.f x6 x7).bind fun t373 => (if (t373 != x370000) = true then (some (-1)) else (some 1)))))
end
def figureheadref05_Cmp.f (k : Nat) (a0_0 : Bool) (a0_1 : ByteArray) (a0_2 : Int) (a1_0 : Bool) (a1_1 : ByteArray) (a1_2 : Int) : Option (Int) := if a1_2 < a0_2 then (figureheadref05_Cmp.j0 k a1_2 a0_0 a0_1 a0_2 a1_0 a1_1 a1_2) else (figureheadref05_Cmp.j0 k a0_2 a0_0 a0_1 a0_2 a1_0 a1_1 a1_2)
theorem figureheadref05_Cmp.mono_l : ∀ k, (∀ y0 y1 y2 y3 y4 y5 y6, LeO (figureheadref05_Cmp.j0 k y0 y1 y2 y3 y4 y5 y6) (figureheadref05_Cmp.j0 (k + 1) y0 y1 y2 y3 y4 y5 y6)) ∧ (∀ y0 y1 y2 y3 y4 y5 y6 y7 y8, LeO (figureheadref05_Cmp.j1 k y0 y1 y2 y3 y4 y5 y6 y7 y8) (figureheadref05_Cmp.j1 (k + 1) y0 y1 y2 y3 y4 y5 y6 y7 y8))
  | 0 => ⟨fun _ _ _ _ _ _ _ r h => by simp [figureheadref05_Cmp.j0] at h, fun _ _ _ _ _ _ _ _ _ r h => by simp [figureheadref05_Cmp.j1] at h⟩
  | k + 1 => by
    obtain ⟨ih0, ih1⟩ := figureheadref05_Cmp.mono_l k
    refine ⟨?_, ?_⟩
    · intro y0 y1 y2 y3 y4 y5 y6
      unfold figureheadref05_Cmp.j0
      repeat' first
      | (with_reducible exact ih0 _ _ _ _ _ _ _)
      | (with_reducible exact ih1 _ _ _ _ _ _ _ _ _)
      | (with_reducible exact figureheadref05_At.mono _ _ _ _ _)
      | (with_reducible exact LeO.refl _)
      | (with_reducible exact LeO.none _)
      | (with_reducible refine LeO.ite ?_ ?_)
      | (with_reducible refine LeO.bind ?_ (fun _ => ?_))
      | exact ih0 _ _ _ _ _ _ _
      | exact ih1 _ _ _ _ _ _ _ _ _
      | exact figureheadref05_At.mono _ _ _ _ _
      | exact LeO.none _
      | refine LeO.ite ?_ ?_
      | refine LeO.bind ?_ (fun _ => ?_)
    · intro y0 y1 y2 y3 y4 y5 y6 y7 y8
      unfold figureheadref05_Cmp.j1
      repeat' first
      | (with_reducible exact ih0 _ _ _ _ _ _ _)
      | (with_reducible exact ih1 _ _ _ _ _ _ _ _ _)
      | (with_reducible exact figureheadref05_At.mono _ _ _ _ _)
      | (with_reducible exact LeO.refl _)
      | (with_reducible exact LeO.none _)
      | (with_reducible refine LeO.ite ?_ ?_)
      | (with_reducible refine LeO.bind ?_ (fun _ => ?_))
      | exact ih0 _ _ _ _ _ _ _
      | exact ih1 _ _ _ _ _ _ _ _ _
      | exact figureheadref05_At.mono _ _ _ _ _
      | exact LeO.none _
      | refine LeO.ite ?_ ?_
      | refine LeO.bind ?_ (fun _ => ?_)
theorem figureheadref05_Cmp.mono : ∀ a0 a1 a2 a3 a4 a5 k, LeO (figureheadref05_Cmp.f k a0 a1 a2 a3 a4 a5) (figureheadref05_Cmp.f (k + 1) a0 a1 a2 a3 a4 a5) := by
  intro a0 a1 a2 a3 a4 a5 k
  obtain ⟨ih0, ih1⟩ := figureheadref05_Cmp.mono_l k
  unfold figureheadref05_Cmp.f
  repeat' first
      | (with_reducible exact ih0 _ _ _ _ _ _ _)
      | (with_reducible exact ih1 _ _ _ _ _ _ _ _ _)
      | (with_reducible exact figureheadref05_At.mono _ _ _ _ _)
      | (with_reducible exact LeO.refl _)
      | (with_reducible exact LeO.none _)
      | (with_reducible refine LeO.ite ?_ ?_)
      | (with_reducible refine LeO.bind ?_ (fun _ => ?_))
      | exact ih0 _ _ _ _ _ _ _
      | exact ih1 _ _ _ _ _ _ _ _ _
      | exact figureheadref05_At.mono _ _ _ _ _
      | exact LeO.none _
      | refine LeO.ite ?_ ?_
      | refine LeO.bind ?_ (fun _ => ?_)
def figureheadref05_Cmp.T4 : Bool × List (List Nat × List Nat) := (true, [([], []), ([], []), ([0, 1], [0, 1]), ([], []), ([], []), ([3, 4, 2], [3, 4]), ([2, 5, 0, 1, 2], [2]), ([5, 6, 0, 1, 2, 3, 4, 5, 6], [5])])
def figureheadref05_Cmp.B4 : List Nat := [0, 0, 3, 0, 0, 31, 63, 127]
theorem figureheadref05_Cmp.tab4 : rtab .any (opsOf Tryd.f15 4) = figureheadref05_Cmp.T4 := by kernel_rfl
theorem figureheadref05_Cmp.bits4 : waitsOk figureheadref05_Cmp.T4.2 figureheadref05_Cmp.B4 = true := by kernel_rfl
set_option maxHeartbeats 8000000 in
set_option maxRecDepth 100000 in
theorem figureheadref05_Cmp.calls (k : Nat) (a0_0 : Bool) (a0_1 : ByteArray) (a0_2 : Int) (a1_0 : Bool) (a1_1 : ByteArray) (a1_2 : Int) (r : Int) (w : World) (h : figureheadref05_Cmp.f k a0_0 a0_1 a0_2 a1_0 a1_1 a1_2 = some r) :
    Calls Tryd.prog 15 #[.agg #[.bool a0_0, .string a0_1, .int .i64 a0_2], .agg #[.bool a1_0, .string a1_1, .int .i64 a1_2]] w fun e w' => e = .returned (.int .i64 r) ∧ Below w.heap.size w w' := by
  have hu23 := Tryd.underlying23
  have HB := Aside0.mk (Below.refl w.heap.size w)
  have H : (if a1_2 < a0_2 then (figureheadref05_Cmp.j0 k a1_2 a0_0 a0_1 a0_2 a1_0 a1_1 a1_2) else (figureheadref05_Cmp.j0 k a0_2 a0_0 a0_1 a0_2 a1_0 a1_1 a1_2)) = some r := h
  clear h
  have HC3 := Aside0.mk H
  clear H
  go_enter Tryd.func15, Tryd.ntmps15
  go_upto_if 13 with (first | (refine be_ 2 #[.bool a0_0, .string a0_1, .int .i64 a0_2] 23 ?_; intro gb369 hg w4 hbox hb; have n0_ := hbs_ HB hb; have n1_ := Aside0.mk (hbox); have n2_ := Aside0.mk ((by rw [hg]; exact (below_size (BL HB)) : w.heap.size ≤ gb369)); have n3_ := Aside0.mk ((by rw [hg]; exact (below_size (BL HB)) : w.heap.size ≤ gb369)); clear HB; have HB := n0_; have BK369 := n1_; have GW369 := n2_; have GE369 := n3_; clear n0_ n1_ n2_ n3_; clear hb hbox hg) | (refine be_ 3 #[.bool a1_0, .string a1_1, .int .i64 a1_2] 23 ?_; intro gb370 hg w5 hbox hb; have n0_ := bkb_ BK369 hb; have n1_ := hbs_ HB hb; have n2_ := Aside0.mk (hbox); have n3_ := Aside0.mk ((by rw [hg]; exact (below_size (BL HB)) : w.heap.size ≤ gb370)); have n4_ := Aside0.mk ((by rw [hg]; exact (below_size (BL HB)) : w.heap.size ≤ gb370)); have n5_ := Aside0.mk ((by rw [hg]; exact Nat.ne_of_lt (blk_lt (g := gb369) (o := .cells #[.bool a0_0, .string a0_1, .int .i64 a0_2] 23 (0, 0)) (BK BK369)) : gb369 ≠ gb370)); have n6_ := Aside0.mk ((by rw [hg]; exact Nat.ne_of_gt (blk_lt (g := gb369) (o := .cells #[.bool a0_0, .string a0_1, .int .i64 a0_2] 23 (0, 0)) (BK BK369)) : gb370 ≠ gb369)); clear BK369; clear HB; have BK369 := n0_; have HB := n1_; have BK370 := n2_; have GW370 := n3_; have GE370 := n4_; have NB369_370 := n5_; have NB370_369 := n6_; clear n0_ n1_ n2_ n3_ n4_ n5_ n6_; clear hb hbox hg; have hnb6 := NB369_370.out; have hnc6 := NB370_369.out; obtain ⟨⟨hcz7_0, hcz7_1, hcz7_2⟩, hfz7_0, hfz7_1, hfz7_2⟩ := ce3 BK369; obtain ⟨⟨hcz8_0, hcz8_1, hcz8_2⟩, hfz8_0, hfz8_1, hfz8_2⟩ := ce3 BK370))
  (try simp only [Act.put, List.setIfInBounds_toArray, List.set_cons_zero, List.set_cons_succ])
  go_cut [5] (fun v5 wc => ∃ (kq : Nat) (x5_2 : Int), v5 = .int .i64 x5_2 ∧ Aside0 (figureheadref05_Cmp.j0 kq x5_2 a0_0 a0_1 a0_2 a1_0 a1_1 a1_2 = some r) ∧ Aside0 (kq ≤ k) ∧ Aside0 (wc.heap[gb369]? = some (.cells #[.bool a0_0, .string a0_1, .int .i64 a0_2] 23 (0, 0))) ∧ Aside0 (wc.heap[gb370]? = some (.cells #[.bool a1_0, .string a1_1, .int .i64 a1_2] 23 (0, 0))) ∧ Aside0 (Below w.heap.size w wc))
  case first =>
    have H := HC3.out
    clear HC3
    by_cases c9 : a1_2 < a0_2
    · rw [if_pos c9] at H
      have c9b0 : decide (a1_2 < a0_2) = true := decide_eq_true c9
      clear c9
      (first | rw [c9b0] | (simp only [i64_w, i32_w]; rw [c9b0]) | skip)
      have H' := Aside0.mk H
      clear H
      have hnb10 := NB370_369.out
      have hnc10 := NB369_370.out
      obtain ⟨⟨hcz11_0, hcz11_1, hcz11_2⟩, hfz11_0, hfz11_1, hfz11_2⟩ := ce3 BK370
      go_wp2
      go_meet
      case rel => exact ⟨_, (a1_2), (by first | rfl | (simp; done) | (simp [*]; done) | (simp [*, Fig.bne_nil]; done)), H', ⟨by first | omega | exact Nat.le_refl _⟩, ⟨by (with_reducible repeat (first | refine blk_drewN ?_ _ | refine blk_drew ?_ | refine blk_alloc ?_ _)); exact BK369.out⟩, ⟨by (with_reducible repeat (first | refine blk_drewN ?_ _ | refine blk_drew ?_ | refine blk_alloc ?_ _)); exact BK370.out⟩, ⟨BL HB⟩⟩
    rw [if_neg c9] at H
    have c9b0 : decide (a1_2 < a0_2) = false := decide_eq_false c9
    clear c9
    (first | rw [c9b0] | (simp only [i64_w, i32_w]; rw [c9b0]) | skip)
    have H' := Aside0.mk H
    clear H
    go_wp2
    go_meet
    case rel => exact ⟨_, (a0_2), (by first | rfl | (simp; done) | (simp [*]; done) | (simp [*, Fig.bne_nil]; done)), H', ⟨by first | omega | exact Nat.le_refl _⟩, ⟨by (with_reducible repeat (first | refine blk_drewN ?_ _ | refine blk_drew ?_ | refine blk_alloc ?_ _)); exact BK369.out⟩, ⟨by (with_reducible repeat (first | refine blk_drewN ?_ _ | refine blk_drew ?_ | refine blk_alloc ?_ _)); exact BK370.out⟩, ⟨BL HB⟩⟩
  clear HC3
  try clear hcz7_0
  try clear hcz7_1
  try clear hcz7_2
  try clear hcz8_0
  try clear hcz8_1
  try clear hcz8_2
  try clear hfz7_0
  try clear hfz7_1
  try clear hfz7_2
  try clear hfz8_0
  try clear hfz8_1
  try clear hfz8_2
  obtain ⟨kq, x5_2, rfl, HA, HJ2, BK369, BK370, HB⟩ := hcut
  obtain _ | kj2 := kq
  · exact absurd HA.out (by simp [figureheadref05_Cmp.j0])
  have H := HA.out
  clear HA
  simp only [figureheadref05_Cmp.j0] at H
  obtain ⟨t371, A120, H⟩ := Option.bind_eq_some_iff.mp H
  (try dsimp -simprocs only at H)
  have A12 := Aside0.mk A120
  clear A120
  obtain ⟨t372, A130, H⟩ := Option.bind_eq_some_iff.mp H
  (try dsimp -simprocs only at H)
  have A13 := Aside0.mk A130
  clear A130
  have HC14 := Aside0.mk H
  clear H
  try go_wp2
  (try (rw [drewN_self wc]; generalize hq_ : World.drewN wc _ = wc; replace BK369 := bkq_ BK369 hq_; replace BK370 := bkq_ BK370 hq_; replace HB := hbq_ HB hq_; clear hq_))
  replace BK369 := Aside0.mk (blk_drew BK369.out)
  replace BK370 := Aside0.mk (blk_drew BK370.out)
  replace HB := Aside0.mk (below_drew1 HB.out)
  refine start_ (n := 8) (S := fun w' => w'.cell? ⟨gb369, 0, none⟩ = some (.bool a0_0) ∧ w'.cell? ⟨gb369, 1, none⟩ = some (.string a0_1) ∧ w'.cell? ⟨gb369, 2, none⟩ = some (.int .i64 a0_2) ∧ w'.cell? ⟨gb370, 0, none⟩ = some (.bool a1_0) ∧ w'.cell? ⟨gb370, 1, none⟩ = some (.string a1_1) ∧ w'.cell? ⟨gb370, 2, none⟩ = some (.int .i64 a1_2)) (ds := []) #[false, false, false, false, false, false, false, false] (by kernel_rfl) rfl rfl CE (fun hHeld => ?_); refine with_tabW figureheadref05_Cmp.tab4 figureheadref05_Cmp.bits4 (fun HT_ HW_ => ?_)
  generalize wc.drew = w15 at BK369 BK370 HB hHeld ⊢
  refine pu_ 1 (some 17) (bb 8 2) (any_of HT_.out (by kernel_rfl)) ?_
  refine pu_ 4 (some 20) (bb 8 18) (any_of HT_.out (by kernel_rfl)) ?_
  refine tk_ 0 (some 16) (bb 8 19) (take_ofW HT_.out HW_.out (by kernel_rfl)) hHeld ?_
  refine tk_ 3 (some 19) (bb 8 27) (take_ofW HT_.out HW_.out (by kernel_rfl)) hHeld ?_
  refine one_ (i := 2) (N := some 18) (bb 8 31) rfl rfl (one_of HT_.out (by kernel_rfl)) (by decide) (fun K hK => ?_)
  refine goes_ Tryd.func32 (by kernel_rfl) rfl #[.agg #[.bool a0_0, .string a0_1, .int .i64 a0_2], .int .i64 x5_2] (by rfl) rfl rfl MP ?_
  with_reducible refine (figureheadref05_At.calls kj2 a0_0 a0_1 a0_2 x5_2 t371 _ A12.out).mono ?_
  rintro e w16 ⟨rfl, hb⟩
  refine ⟨_, rfl, ?_⟩
  replace BK369 := bkb_ BK369 hb
  replace BK370 := bkb_ BK370 hb
  replace HB := hbs_ HB hb
  (try clear hb)
  (try clear hb2)
  (try clear hk)
  (try clear hi)
  refine hK.out _ _ CE (fun hHeld => ?_)
  clear hK K
  refine no_ ?_
  refine one_ (i := 5) (N := some 21) (bb 8 63) rfl rfl (one_of HT_.out (by kernel_rfl)) (by decide) (fun K hK => ?_)
  refine goes_ Tryd.func32 (by kernel_rfl) rfl #[.agg #[.bool a1_0, .string a1_1, .int .i64 a1_2], .int .i64 x5_2] (by rfl) rfl rfl MP ?_
  with_reducible refine (figureheadref05_At.calls kj2 a1_0 a1_1 a1_2 x5_2 t372 _ A13.out).mono ?_
  rintro e w17 ⟨rfl, hb⟩
  refine ⟨_, rfl, ?_⟩
  replace BK369 := bkb_ BK369 hb
  replace BK370 := bkb_ BK370 hb
  replace HB := hbs_ HB hb
  (try clear hb)
  (try clear hb2)
  (try clear hk)
  (try clear hi)
  refine hK.out _ _ CE (fun hHeld => ?_)
  clear hK K
  refine no_ ?_
  refine pu_ 6 (some 6) (bb 8 127) (any_of HT_.out (by kernel_rfl)) ?_
  refine pu_ 7 (some 7) (bb 8 255) (any_of HT_.out (by kernel_rfl)) ?_
  refine done_ (done_of HT_.out (by kernel_rfl)) ?_
  go_upto_region 5 with (fail)
  go_cut [27] (fun v27 wc => ∃ (kq : Nat) (x27_13 : Bool), v27 = .bool x27_13 ∧ Aside0 (figureheadref05_Cmp.j1 kq t371 t372 x27_13 a0_0 a0_1 a0_2 a1_0 a1_1 a1_2 = some r) ∧ Aside0 (kq ≤ kj2) ∧ Aside0 (wc.heap[gb369]? = some (.cells #[.bool a0_0, .string a0_1, .int .i64 a0_2] 23 (0, 0))) ∧ Aside0 (wc.heap[gb370]? = some (.cells #[.bool a1_0, .string a1_1, .int .i64 a1_2] 23 (0, 0))) ∧ Aside0 (Below w.heap.size w wc))
  case first =>
    have H := HC14.out
    clear HC14
    by_cases c18 : t371.toList = ([] : List UInt8)
    · rw [if_pos c18] at H
      have c18b0 : (t371.toList == ([] : List UInt8)) = true := beq_iff_eq.mpr c18
      have c18b1 : (t371.toList != ([] : List UInt8)) = false := bne_eq_false_iff_eq.mpr c18
      clear c18
      (first | rw [c18b0] | (simp only [i64_w, i32_w]; rw [c18b0]) | skip)
      have H' := Aside0.mk H
      clear H
      go_wp2
      go_meet
      case rel => exact ⟨_, ((t372.toList == ([] : List UInt8))), (by first | rfl | (simp; done) | (simp [*]; done) | (simp [*, Fig.bne_nil]; done)), H', ⟨by have := HJ2.out; first | omega | exact Nat.le_refl _⟩, ⟨by (with_reducible repeat (first | refine blk_drewN ?_ _ | refine blk_drew ?_ | refine blk_alloc ?_ _)); exact BK369.out⟩, ⟨by (with_reducible repeat (first | refine blk_drewN ?_ _ | refine blk_drew ?_ | refine blk_alloc ?_ _)); exact BK370.out⟩, ⟨BL HB⟩⟩
    rw [if_neg c18] at H
    have c18b0 : (t371.toList == ([] : List UInt8)) = false := beq_eq_false_iff_ne.mpr c18
    have c18b1 : (t371.toList != ([] : List UInt8)) = true := bne_iff_ne.mpr c18
    (first | rw [c18b0] | (simp only [i64_w, i32_w]; rw [c18b0]) | skip)
    have H' := Aside0.mk H
    clear H
    go_wp2
    go_meet
    case rel => exact ⟨_, (false), (by first | rfl | (simp; done) | (simp [*]; done) | (simp [*, Fig.bne_nil]; done)), H', ⟨by have := HJ2.out; first | omega | exact Nat.le_refl _⟩, ⟨by (with_reducible repeat (first | refine blk_drewN ?_ _ | refine blk_drew ?_ | refine blk_alloc ?_ _)); exact BK369.out⟩, ⟨by (with_reducible repeat (first | refine blk_drewN ?_ _ | refine blk_drew ?_ | refine blk_alloc ?_ _)); exact BK370.out⟩, ⟨BL HB⟩⟩
  clear HC14
  obtain ⟨kq, x27_13, rfl, HA, HJ13, BK369, BK370, HB⟩ := hcut
  obtain _ | kj13 := kq
  · exact absurd HA.out (by simp [figureheadref05_Cmp.j1])
  have H := HA.out
  clear HA
  simp only [figureheadref05_Cmp.j1] at H
  by_cases c19 : x27_13 = true
  · subst c19
    rw [if_pos rfl] at H
    obtain rfl := Option.some.inj H
    go_wp2
    go_ret
    exact ⟨ER, BL HB⟩
  replace c19 := Bool.eq_false_iff.mpr c19
  subst c19
  rw [if_neg (show ¬ (false = true) by decide)] at H
  by_cases c20 : (a0_0 != a1_0) = true
  · rw [if_pos c20] at H
    have c20b0 : (a0_0 != a1_0) = true := c20
    (try (have c20b1 : decide (a0_0 = a1_0) = false := by simpa using c20))
    (try (have c20b2 : (a0_0 == a1_0) = false := by simpa using c20))
    (try (have c20b3 : ¬ (a0_0 = a1_0) := by simpa using c20))
    clear c20
    by_cases c21 : a0_0 = true
    · subst c21
      rw [if_pos rfl] at H
      obtain rfl := Option.some.inj H
      have hnb22 := NB369_370.out
      have hnc22 := NB370_369.out
      obtain ⟨⟨hcz23_0, hcz23_1, hcz23_2⟩, hfz23_0, hfz23_1, hfz23_2⟩ := ce3 BK369
      obtain ⟨⟨hcz24_0, hcz24_1, hcz24_2⟩, hfz24_0, hfz24_1, hfz24_2⟩ := ce3 BK370
      go_wp2
      go_ret
      exact ⟨ER, BL HB⟩
    replace c21 := Bool.eq_false_iff.mpr c21
    subst c21
    rw [if_neg (show ¬ (false = true) by decide)] at H
    obtain rfl := Option.some.inj H
    have hnb25 := NB369_370.out
    have hnc25 := NB370_369.out
    obtain ⟨⟨hcz26_0, hcz26_1, hcz26_2⟩, hfz26_0, hfz26_1, hfz26_2⟩ := ce3 BK369
    obtain ⟨⟨hcz27_0, hcz27_1, hcz27_2⟩, hfz27_0, hfz27_1, hfz27_2⟩ := ce3 BK370
    go_wp2
    go_ret
    exact ⟨ER, BL HB⟩
  rw [if_neg c20] at H
  have c20b0 : (a0_0 != a1_0) = false := by simpa using c20
  (try (have c20b1 : decide (a0_0 = a1_0) = true := by simpa using c20))
  (try (have c20b2 : (a0_0 == a1_0) = true := by simpa using c20))
  clear c20
  by_cases c28 : t371.toList = t372.toList
  · rw [if_pos c28] at H
    have c28b0 : (t371.toList == t372.toList) = true := beq_iff_eq.mpr c28
    have c28b1 : (t371.toList != t372.toList) = false := bne_eq_false_iff_eq.mpr c28
    clear c28
    obtain rfl := Option.some.inj H
    have hnb29 := NB369_370.out
    have hnc29 := NB370_369.out
    obtain ⟨⟨hcz30_0, hcz30_1, hcz30_2⟩, hfz30_0, hfz30_1, hfz30_2⟩ := ce3 BK369
    obtain ⟨⟨hcz31_0, hcz31_1, hcz31_2⟩, hfz31_0, hfz31_1, hfz31_2⟩ := ce3 BK370
    go_wp2
    go_ret
    exact ⟨ER, BL HB⟩
  rw [if_neg c28] at H
  have c28b0 : (t371.toList == t372.toList) = false := beq_eq_false_iff_ne.mpr c28
  have c28b1 : (t371.toList != t372.toList) = true := bne_iff_ne.mpr c28
  obtain ⟨t373, A320, H⟩ := Option.bind_eq_some_iff.mp H
  (try dsimp -simprocs only at H)
  have A32 := Aside0.mk A320
  clear A320
  by_cases c33 : (t373 != a0_0) = true
  · rw [if_pos c33] at H
    have c33b0 : (t373 != a0_0) = true := c33
    (try (have c33b1 : decide (t373 = a0_0) = false := by simpa using c33))
    (try (have c33b2 : (t373 == a0_0) = false := by simpa using c33))
    (try (have c33b3 : ¬ (t373 = a0_0) := by simpa using c33))
    clear c33
    obtain rfl := Option.some.inj H
    have hnb34 := NB369_370.out
    have hnc34 := NB370_369.out
    obtain ⟨⟨hcz35_0, hcz35_1, hcz35_2⟩, hfz35_0, hfz35_1, hfz35_2⟩ := ce3 BK369
    obtain ⟨⟨hcz36_0, hcz36_1, hcz36_2⟩, hfz36_0, hfz36_1, hfz36_2⟩ := ce3 BK370
    try go_wp2
    (try (rw [drewN_self wc]; generalize hq_ : World.drewN wc _ = wc; replace BK369 := bkq_ BK369 hq_; replace BK370 := bkq_ BK370 hq_; replace HB := hbq_ HB hq_; clear hq_))
    replace BK369 := Aside0.mk (blk_drew BK369.out)
    replace BK370 := Aside0.mk (blk_drew BK370.out)
    replace HB := Aside0.mk (below_drew1 HB.out)
    refine start_ (n := 6) (S := fun w' => w'.cell? ⟨gb369, 0, none⟩ = some (.bool a0_0) ∧ w'.cell? ⟨gb369, 1, none⟩ = some (.string a0_1) ∧ w'.cell? ⟨gb369, 2, none⟩ = some (.int .i64 a0_2)) (ds := []) #[false, false, false, false, false, false] (by kernel_rfl) rfl rfl CE (fun hHeld => ?_)
    generalize wc.drew = w37 at BK369 BK370 HB hHeld ⊢
    refine pu_ 0 (some 38) (bb 6 1) (by kernel_rfl) ?_
    refine pu_ 1 (some 39) (bb 6 3) (by kernel_rfl) ?_
    refine pu_ 3 (some 41) (bb 6 11) (by kernel_rfl) ?_
    refine tk_ 4 (some 42) (bb 6 27) (by kernel_rfl) hHeld ?_
    refine one_ (i := 2) (N := some 40) (bb 6 31) rfl rfl (by kernel_rfl) (by decide) (fun K hK => ?_)
    refine goes_ Tryd.func35 (by kernel_rfl) rfl #[.string t371, .string t372] (by rfl) rfl rfl MP ?_
    with_reducible refine (figureheadref01_Less.calls t371 t372 t373 _ A32.out).mono ?_
    rintro e w' ⟨rfl, ⟨nd, rfl⟩⟩
    refine ⟨_, rfl, ?_⟩
    refine hK.out _ _ CE (fun hHeld => ?_)
    clear hK K
    refine no_ ?_
    refine pu_ 5 (some 43) (bb 6 63) (by kernel_rfl) ?_
    refine done_ (by kernel_rfl) ?_
    try go_wp2
    go_ret
    exact ⟨ER, BL HB⟩
  rw [if_neg c33] at H
  have c33b0 : (t373 != a0_0) = false := by simpa using c33
  (try (have c33b1 : decide (t373 = a0_0) = true := by simpa using c33))
  (try (have c33b2 : (t373 == a0_0) = true := by simpa using c33))
  clear c33
  obtain rfl := Option.some.inj H
  have hnb38 := NB369_370.out
  have hnc38 := NB370_369.out
  obtain ⟨⟨hcz39_0, hcz39_1, hcz39_2⟩, hfz39_0, hfz39_1, hfz39_2⟩ := ce3 BK369
  obtain ⟨⟨hcz40_0, hcz40_1, hcz40_2⟩, hfz40_0, hfz40_1, hfz40_2⟩ := ce3 BK370
  try go_wp2
  (try (rw [drewN_self wc]; generalize hq_ : World.drewN wc _ = wc; replace BK369 := bkq_ BK369 hq_; replace BK370 := bkq_ BK370 hq_; replace HB := hbq_ HB hq_; clear hq_))
  replace BK369 := Aside0.mk (blk_drew BK369.out)
  replace BK370 := Aside0.mk (blk_drew BK370.out)
  replace HB := Aside0.mk (below_drew1 HB.out)
  refine start_ (n := 6) (S := fun w' => w'.cell? ⟨gb369, 0, none⟩ = some (.bool a0_0) ∧ w'.cell? ⟨gb369, 1, none⟩ = some (.string a0_1) ∧ w'.cell? ⟨gb369, 2, none⟩ = some (.int .i64 a0_2)) (ds := []) #[false, false, false, false, false, false] (by kernel_rfl) rfl rfl CE (fun hHeld => ?_)
  generalize wc.drew = w41 at BK369 BK370 HB hHeld ⊢
  refine pu_ 0 (some 38) (bb 6 1) (by kernel_rfl) ?_
  refine pu_ 1 (some 39) (bb 6 3) (by kernel_rfl) ?_
  refine pu_ 3 (some 41) (bb 6 11) (by kernel_rfl) ?_
  refine tk_ 4 (some 42) (bb 6 27) (by kernel_rfl) hHeld ?_
  refine one_ (i := 2) (N := some 40) (bb 6 31) rfl rfl (by kernel_rfl) (by decide) (fun K hK => ?_)
  refine goes_ Tryd.func35 (by kernel_rfl) rfl #[.string t371, .string t372] (by rfl) rfl rfl MP ?_
  with_reducible refine (figureheadref01_Less.calls t371 t372 t373 _ A32.out).mono ?_
  rintro e w' ⟨rfl, ⟨nd, rfl⟩⟩
  refine ⟨_, rfl, ?_⟩
  refine hK.out _ _ CE (fun hHeld => ?_)
  clear hK K
  refine no_ ?_
  refine pu_ 5 (some 43) (bb 6 63) (by kernel_rfl) ?_
  refine done_ (by kernel_rfl) ?_
  try go_wp2
  go_ret
  exact ⟨ER, BL HB⟩
end Go.Proofs.YtekkpmoppihlaaaDoor.Px
end
section
namespace Go.Proofs.YtekkpmoppihlaaaDoor.Px
open Fig Go.RowKit Go.Proofs.YtekkpmoppihlaaaDoorW.PrintWords Go.Proofs.YtekkpmoppihlaaaDoorW.PrintLast Go.Proofs.YtekkpmoppihlaaaDoorW.PrintMore
attribute [local go_sem] max2_int min2_int max_two min_two max_three min_three max_four min_four   -- for this text's walks alone
attribute [local go_sem high] eqA23
attribute [local go_sem] fieldA23_0 fieldA23_1 fieldA23_2
def figureheadlaw10_IncNear.j0 : Nat → Int → ByteArray → Int → Bool → Bool → ByteArray → Int → Option (Bool)
  | 0, _, _, _, _, _, _, _ => none
  | k + 1, x0, x2, x3, x32, x375000, x375001, x375002 => if x32 = true then ((figureheadlaw10_answers.f k).bind fun t377 => (some t377)) else ((inc_Round.f k x0 x375000 x375001 x375002 x2 x3).bind fun bt378 => ((inc_Round.f k 7 bt378.1 bt378.2.1 bt378.2.2.1 x2 x3).bind fun bt383 => ((figureheadref05_Turn.f x375000 x375001 x375002).bind fun bt388 => ((figureheadref05_Sum.f k bt378.1 bt378.2.1 bt378.2.2.1 bt388.1 bt388.2.1 bt388.2.2).bind fun bt391 => (if bt378.2.2.2 = 0 then (if bt383.2.2.2 = 0 then (if (!(bt383.1 == bt378.1) || (!(bt383.2.1.toList == bt378.2.1.toList) || (!(bt383.2.2.1 == bt378.2.2.1)))) = true then (some false) else ((figureheadref05_Cmp.f k false bt391.2.1 bt391.2.2 false x2 x3).bind fun t397 => (if t397 ≥ 0 then (some false) else (if x0 ≥ 4 then ((figureheadref05_Sum.f k false bt391.2.1 bt391.2.2 false bt391.2.1 bt391.2.2).bind fun bt398 => ((figureheadref05_Cmp.f k bt398.1 bt398.2.1 bt398.2.2 false x2 x3).bind fun t401 => (if t401 > 0 then (some false) else ((figureheadlaw10_answers.f k).bind fun t402 => (if t402 = true then (if x0 = 0 then (if bt391.1 = true then (some false) else (if x0 = 1 then (if bt391.2.1.toList = ([48] : List UInt8) then (some true) else (some bt391.1)) else (some true))) else (if x0 = 1 then (if bt391.2.1.toList = ([48] : List UInt8) then (some true) else (some bt391.1)) else (some true))) else (some false)))))) else ((figureheadlaw10_answers.f k).bind fun t403 => (if t403 = true then (if x0 = 0 then (if bt391.1 = true then (some false) else (if x0 = 1 then (if bt391.2.1.toList = ([48] : List UInt8) then (some true) else (some bt391.1)) else (some true))) else (if x0 = 1 then (if bt391.2.1.toList = ([48] : List UInt8) then (some true) else (some bt391.1)) else (some true))) else (some false))))))) else (some false)) else (some false))))))
def figureheadlaw10_IncNear.f (k : Nat) (a0 : Int) (a1_0 : Bool) (a1_1 : ByteArray) (a1_2 : Int) (a2 : ByteArray) (a3 : Int) : Option (Bool) := (figureheadlaw10_good.f k a1_0 a1_1 a1_2 a3).bind fun t375 => (if t375 = true then (if a0 < 0 then (figureheadlaw10_IncNear.j0 k a0 a2 a3 true a1_0 a1_1 a1_2) else (if a0 > 6 then (figureheadlaw10_IncNear.j0 k a0 a2 a3 true a1_0 a1_1 a1_2) else ((figureheadlaw10_may.f k a2).bind fun t376 => (figureheadlaw10_IncNear.j0 k a0 a2 a3 (!t376) a1_0 a1_1 a1_2)))) else (figureheadlaw10_IncNear.j0 k a0 a2 a3 true a1_0 a1_1 a1_2))
theorem figureheadlaw10_IncNear.mono_l : ∀ k, (∀ y0 y1 y2 y3 y4 y5 y6, LeO (figureheadlaw10_IncNear.j0 k y0 y1 y2 y3 y4 y5 y6) (figureheadlaw10_IncNear.j0 (k + 1) y0 y1 y2 y3 y4 y5 y6))
  | 0 => fun _ _ _ _ _ _ _ r h => by simp [figureheadlaw10_IncNear.j0] at h
  | k + 1 => by
    have ih0 := figureheadlaw10_IncNear.mono_l k
    · intro y0 y1 y2 y3 y4 y5 y6
      unfold figureheadlaw10_IncNear.j0
      repeat' first
      | (with_reducible exact ih0 _ _ _ _ _ _ _)
      | (with_reducible exact figureheadlaw10_answers.mono _)
      | (with_reducible exact figureheadlaw10_good.mono _ _ _ _ _)
      | (with_reducible exact figureheadlaw10_may.mono _ _)
      | (with_reducible exact figureheadref05_Cmp.mono _ _ _ _ _ _ _)
      | (with_reducible exact figureheadref05_Sum.mono _ _ _ _ _ _ _)
      | (with_reducible exact inc_Round.mono _ _ _ _ _ _ _)
      | (with_reducible exact LeO.refl _)
      | (with_reducible exact LeO.none _)
      | (with_reducible refine LeO.ite ?_ ?_)
      | (with_reducible refine LeO.bind ?_ (fun _ => ?_))
      | exact ih0 _ _ _ _ _ _ _
      | exact figureheadlaw10_answers.mono _
      | exact figureheadlaw10_good.mono _ _ _ _ _
      | exact figureheadlaw10_may.mono _ _
      | exact figureheadref05_Cmp.mono _ _ _ _ _ _ _
      | exact figureheadref05_Sum.mono _ _ _ _ _ _ _
      | exact inc_Round.mono _ _ _ _ _ _ _
      | exact LeO.none _
      | refine LeO.ite ?_ ?_
      | refine LeO.bind ?_ (fun _ => ?_)
theorem figureheadlaw10_IncNear.mono : ∀ a0 a1 a2 a3 a4 a5 k, LeO (figureheadlaw10_IncNear.f k a0 a1 a2 a3 a4 a5) (figureheadlaw10_IncNear.f (k + 1) a0 a1 a2 a3 a4 a5) := by
  intro a0 a1 a2 a3 a4 a5 k
  have ih0 := figureheadlaw10_IncNear.mono_l k
  unfold figureheadlaw10_IncNear.f
  repeat' first
      | (with_reducible exact ih0 _ _ _ _ _ _ _)
      | (with_reducible exact figureheadlaw10_answers.mono _)
      | (with_reducible exact figureheadlaw10_good.mono _ _ _ _ _)
      | (with_reducible exact figureheadlaw10_may.mono _ _)
      | (with_reducible exact figureheadref05_Cmp.mono _ _ _ _ _ _ _)
      | (with_reducible exact figureheadref05_Sum.mono _ _ _ _ _ _ _)
      | (with_reducible exact inc_Round.mono _ _ _ _ _ _ _)
      | (with_reducible exact LeO.refl _)
      | (with_reducible exact LeO.none _)
      | (with_reducible refine LeO.ite ?_ ?_)
      | (with_reducible refine LeO.bind ?_ (fun _ => ?_))
      | exact ih0 _ _ _ _ _ _ _
      | exact figureheadlaw10_answers.mono _
      | exact figureheadlaw10_good.mono _ _ _ _ _
      | exact figureheadlaw10_may.mono _ _
      | exact figureheadref05_Cmp.mono _ _ _ _ _ _ _
      | exact figureheadref05_Sum.mono _ _ _ _ _ _ _
      | exact inc_Round.mono _ _ _ _ _ _ _
      | exact LeO.none _
      | refine LeO.ite ?_ ?_
      | refine LeO.bind ?_ (fun _ => ?_)
def figureheadlaw10_IncNear.T9 : Bool × List (List Nat × List Nat) := (true, [([], []), ([0], [0]), ([1], [1]), ([2], [2]), ([3, 2], [2, 3]), ([2, 4], [2, 4]), ([5, 2], [5]), ([6], [6]), ([6], [6]), ([7, 8, 6], [6, 7, 8]), ([6, 9], [6, 9]), ([10, 6], [10]), ([11], [11]), ([11], [11]), ([12, 13, 11, 11], [11, 12, 13]), ([14, 11], [11, 14]), ([11, 15], [11, 15]), ([16, 14], [16]), ([17], [17]), ([18, 17], [17, 18]), ([19, 17, 17], [17, 19]), ([20], [20]), ([20], [20]), ([21, 22, 20, 20], [20, 21, 22]), ([20], [20]), ([23, 24, 23, 20], [20, 23, 24]), ([25, 20], [20, 25]), ([20, 26, 17], [17, 20, 26]), ([17, 27], [17, 27])])
def figureheadlaw10_IncNear.B9 : List Nat := [0, 1, 3, 7, 15, 31, 63, 127, 127, 511, 1023, 2047, 4095, 4095, 16383, 32767, 65535, 131071, 262143, 524287, 1048575, 2097151, 2097151, 8388607, 2097151, 33554431, 67108863, 134217727, 268435455]
theorem figureheadlaw10_IncNear.tab9 : rtab .any (opsOf Tryd.f4 9) = figureheadlaw10_IncNear.T9 := by kernel_rfl
theorem figureheadlaw10_IncNear.bits9 : waitsOk figureheadlaw10_IncNear.T9.2 figureheadlaw10_IncNear.B9 = true := by kernel_rfl
end Go.Proofs.YtekkpmoppihlaaaDoor.Px
end
section
namespace Go.Proofs.YtekkpmoppihlaaaDoor.Px
open Fig Go.RowKit Go.Proofs.YtekkpmoppihlaaaDoorW.PrintWords Go.Proofs.YtekkpmoppihlaaaDoorW.PrintLast Go.Proofs.YtekkpmoppihlaaaDoorW.PrintMore
attribute [local go_sem] max2_int min2_int max_two min_two max_three min_three max_four min_four   -- for this text's walks alone
attribute [local go_sem] fieldA23_0 fieldA23_1 fieldA23_2
set_option maxHeartbeats 8000000 in
set_option maxRecDepth 100000 in
theorem figureheadlaw10_IncNear.callsA (k : Nat) (a0 : Int) (a1_0 : Bool) (a1_1 : ByteArray) (a1_2 : Int) (a2 : ByteArray) (a3 : Int) (r : Bool) (w : World) (hG : Fig.Glob w) (HT : Aside0 (r = true)) (hz_ : Aside0 (4 ≤ a0)) (h : figureheadlaw10_IncNear.f k a0 a1_0 a1_1 a1_2 a2 a3 = some r) :
    Calls Tryd.prog 4 #[.int .i64 a0, .agg #[.bool a1_0, .string a1_1, .int .i64 a1_2], .string a2, .int .i64 a3] w fun e w' => e = .returned (.bool r) ∧ Below w.heap.size w w' := by
  have hu23 := Tryd.underlying23
  have HG := Aside0.mk hG
  clear hG
  have HB := Aside0.mk (Below.refl w.heap.size w)
  have H : ((figureheadlaw10_good.f k a1_0 a1_1 a1_2 a3).bind fun t375 => (if t375 = true then (if a0 < 0 then (figureheadlaw10_IncNear.j0 k a0 a2 a3 true a1_0 a1_1 a1_2) else (if a0 > 6 then (figureheadlaw10_IncNear.j0 k a0 a2 a3 true a1_0 a1_1 a1_2) else ((figureheadlaw10_may.f k a2).bind fun t376 => (figureheadlaw10_IncNear.j0 k a0 a2 a3 (!t376) a1_0 a1_1 a1_2)))) else (figureheadlaw10_IncNear.j0 k a0 a2 a3 true a1_0 a1_1 a1_2))) = some r := h
  clear h
  have HC5 := Aside0.mk H
  clear H
  go_enter Tryd.func4, Tryd.ntmps4
  go_upto_region 1 with (first | ((with_reducible refine gate_dst (N := 5) rfl ?_); refine box_event ?hg (N := 5) ?hd (cs := #[.bool a1_0, .string a1_1, .int .i64 a1_2]) (t := 23) ?hr ?_; (case hd => rfl); (case hg => rfl); (case hr => first | (go_simp; done) | (go_simp; rfl)); intro gb374 hg w6 hbox hb; have n0_ := Aside0.mk (below_step (by repeat (first | (with_reducible first | exact HB.out | apply below_alloc | apply pw_below_drewN | apply below_drew1) | exact HB.out)) hb); have n1_ := Aside0.mk (hbox); have n2_ := Aside0.mk ((by rw [hg]; exact (below_size (by repeat (first | (with_reducible first | exact HB.out | apply below_alloc | apply pw_below_drewN | apply below_drew1) | exact HB.out))) : w.heap.size ≤ gb374)); have n3_ := Aside0.mk ((by rw [hg]; exact (below_size (by repeat (first | (with_reducible first | exact HB.out | apply below_alloc | apply pw_below_drewN | apply below_drew1) | exact HB.out))) : w.heap.size ≤ gb374)); clear HB; have HB := n0_; have BK374 := n1_; have GW374 := n2_; have GE374 := n3_; clear n0_ n1_ n2_ n3_; clear hb hbox hg))
  (try simp only [Act.put, List.setIfInBounds_toArray, List.set_cons_zero, List.set_cons_succ])
  go_cut [32] (fun v32 wc => ∃ (kq : Nat) (x32_4 : Bool), v32 = .bool x32_4 ∧ Aside0 (figureheadlaw10_IncNear.j0 kq a0 a2 a3 x32_4 a1_0 a1_1 a1_2 = some r) ∧ Aside0 (kq ≤ k) ∧ Aside0 (wc.heap[gb374]? = some (.cells #[.bool a1_0, .string a1_1, .int .i64 a1_2] 23 (0, 0))) ∧ Aside0 (Below w.heap.size w wc))
  case first =>
    have H := HC5.out
    clear HC5
    replace H := Option.bind_eq_some_iff.mp H
    obtain ⟨t375, A70, H⟩ := H
    replace H : (if t375 = true then (if a0 < 0 then (figureheadlaw10_IncNear.j0 k a0 a2 a3 true a1_0 a1_1 a1_2) else (if a0 > 6 then (figureheadlaw10_IncNear.j0 k a0 a2 a3 true a1_0 a1_1 a1_2) else ((figureheadlaw10_may.f k a2).bind fun t376 => (figureheadlaw10_IncNear.j0 k a0 a2 a3 (!t376) a1_0 a1_1 a1_2)))) else (figureheadlaw10_IncNear.j0 k a0 a2 a3 true a1_0 a1_1 a1_2)) = some r := H
    have A7 := Aside0.mk A70
    clear A70
    by_cases c8 : t375 = true
    · subst c8
      have H1 : (if a0 < 0 then (figureheadlaw10_IncNear.j0 k a0 a2 a3 true a1_0 a1_1 a1_2) else (if a0 > 6 then (figureheadlaw10_IncNear.j0 k a0 a2 a3 true a1_0 a1_1 a1_2) else ((figureheadlaw10_may.f k a2).bind fun t376 => (figureheadlaw10_IncNear.j0 k a0 a2 a3 (!t376) a1_0 a1_1 a1_2)))) = some r := by rw [if_pos rfl] at H; exact H
      clear H
      have H := H1
      clear H1
      by_cases c9 : a0 < 0
      · rw [if_pos c9] at H
        have c9b0 : decide (a0 < 0) = true := decide_eq_true c9
        clear c9
        (first | rw [c9b0] | (simp only [i64_w, i32_w]; rw [c9b0]) | skip)
        have H' := Aside0.mk H
        clear H
        have hcz10_0 : w6.cell? ⟨gb374, 0, none⟩ = some (.bool a1_0) := (blk_cell BK374.out 0).trans rfl
        have hcz10_1 : w6.cell? ⟨gb374, 1, none⟩ = some (.string a1_1) := (blk_cell BK374.out 1).trans rfl
        have hcz10_2 : w6.cell? ⟨gb374, 2, none⟩ = some (.int .i64 a1_2) := (blk_cell BK374.out 2).trans rfl
        have hfz10_0 := blk_frozen BK374.out 0
        have hfz10_1 := blk_frozen BK374.out 1
        have hfz10_2 := blk_frozen BK374.out 2
        go_wp2_with (first | ((with_reducible refine gate_callee (f := 8) rfl ?_); refine goesL_ (some 18) rfl rfl Tryd.func8 (by kernel_rfl) rfl #[.agg #[.bool a1_0, .string a1_1, .int .i64 a1_2], .int .i64 a3] rfl (by (try simp only [List.map_toArray]); (try simp only [List.map_cons]); (try simp only [List.map_nil]); first | done | rfl | (simp only [List.length_drop, List.length_take]; rfl)) ?_; (with_reducible refine (figureheadlaw10_good.calls k a1_0 a1_1 a1_2 a3 true _ A7.out).mono ?_); rintro e w11 ⟨rfl, hb⟩; refine ⟨_, rfl, ?_⟩; have n0_ := Aside0.mk (blk_below (g := gb374) (o := .cells #[.bool a1_0, .string a1_1, .int .i64 a1_2] 23 (0, 0)) (by (with_reducible repeat (first | refine blk_drewN ?_ _ | refine blk_drew ?_ | refine blk_alloc ?_ _)); exact BK374.out) hb); have n1_ := Aside0.mk (below_step (by repeat (first | (with_reducible first | exact HB.out | apply below_alloc | apply pw_below_drewN | apply below_drew1 | refine below_set ?_ GE374.out) | exact HB.out)) hb); clear BK374; clear HB; have BK374 := n0_; have HB := n1_; clear n0_ n1_; (try clear hb); (try clear hb2); (try clear hk); (try clear hi)))
        go_meet
        case rel => exact ⟨_, (true), (by first | rfl | (simp; done) | (simp [*]; done) | (simp [*, Fig.bne_nil]; done)), H', ⟨by first | omega | exact Nat.le_refl _⟩, ⟨by (with_reducible repeat (first | refine blk_drewN ?_ _ | refine blk_drew ?_ | refine blk_alloc ?_ _)); exact BK374.out⟩, ⟨by repeat (first | (with_reducible first | exact HB.out | apply below_alloc | apply pw_below_drewN | apply below_drew1 | refine below_set ?_ GE374.out) | exact HB.out)⟩⟩
      · rw [if_neg c9] at H
        have c9b0 : decide (a0 < 0) = false := decide_eq_false c9
        clear c9
        (first | rw [c9b0] | (simp only [i64_w, i32_w]; rw [c9b0]) | skip)
        by_cases c12 : a0 > 6
        · rw [if_pos c12] at H
          have c12b0 : decide (6 < a0) = true := decide_eq_true c12
          clear c12
          have H' := Aside0.mk H
          clear H
          have hcz13_0 : w6.cell? ⟨gb374, 0, none⟩ = some (.bool a1_0) := (blk_cell BK374.out 0).trans rfl
          have hcz13_1 : w6.cell? ⟨gb374, 1, none⟩ = some (.string a1_1) := (blk_cell BK374.out 1).trans rfl
          have hcz13_2 : w6.cell? ⟨gb374, 2, none⟩ = some (.int .i64 a1_2) := (blk_cell BK374.out 2).trans rfl
          have hfz13_0 := blk_frozen BK374.out 0
          have hfz13_1 := blk_frozen BK374.out 1
          have hfz13_2 := blk_frozen BK374.out 2
          go_wp2_with (first | ((with_reducible refine gate_callee (f := 8) rfl ?_); refine goesL_ (some 18) rfl rfl Tryd.func8 (by kernel_rfl) rfl #[.agg #[.bool a1_0, .string a1_1, .int .i64 a1_2], .int .i64 a3] rfl (by (try simp only [List.map_toArray]); (try simp only [List.map_cons]); (try simp only [List.map_nil]); first | done | rfl | (simp only [List.length_drop, List.length_take]; rfl)) ?_; (with_reducible refine (figureheadlaw10_good.calls k a1_0 a1_1 a1_2 a3 true _ A7.out).mono ?_); rintro e w14 ⟨rfl, hb⟩; refine ⟨_, rfl, ?_⟩; have n0_ := Aside0.mk (blk_below (g := gb374) (o := .cells #[.bool a1_0, .string a1_1, .int .i64 a1_2] 23 (0, 0)) (by (with_reducible repeat (first | refine blk_drewN ?_ _ | refine blk_drew ?_ | refine blk_alloc ?_ _)); exact BK374.out) hb); have n1_ := Aside0.mk (below_step (by repeat (first | (with_reducible first | exact HB.out | apply below_alloc | apply pw_below_drewN | apply below_drew1 | refine below_set ?_ GE374.out) | exact HB.out)) hb); clear BK374; clear HB; have BK374 := n0_; have HB := n1_; clear n0_ n1_; (try clear hb); (try clear hb2); (try clear hk); (try clear hi)))
          go_meet
          case rel => exact ⟨_, (true), (by first | rfl | (simp; done) | (simp [*]; done) | (simp [*, Fig.bne_nil]; done)), H', ⟨by first | omega | exact Nat.le_refl _⟩, ⟨by (with_reducible repeat (first | refine blk_drewN ?_ _ | refine blk_drew ?_ | refine blk_alloc ?_ _)); exact BK374.out⟩, ⟨by repeat (first | (with_reducible first | exact HB.out | apply below_alloc | apply pw_below_drewN | apply below_drew1 | refine below_set ?_ GE374.out) | exact HB.out)⟩⟩
        · rw [if_neg c12] at H
          have c12b0 : decide (6 < a0) = false := decide_eq_false c12
          clear c12
          replace H := Option.bind_eq_some_iff.mp H
          obtain ⟨t376, A150, H⟩ := H
          replace H : (figureheadlaw10_IncNear.j0 k a0 a2 a3 (!t376) a1_0 a1_1 a1_2) = some r := H
          have A15 := Aside0.mk A150
          clear A150
          have H' := Aside0.mk H
          clear H
          have hcz16_0 : w6.cell? ⟨gb374, 0, none⟩ = some (.bool a1_0) := (blk_cell BK374.out 0).trans rfl
          have hcz16_1 : w6.cell? ⟨gb374, 1, none⟩ = some (.string a1_1) := (blk_cell BK374.out 1).trans rfl
          have hcz16_2 : w6.cell? ⟨gb374, 2, none⟩ = some (.int .i64 a1_2) := (blk_cell BK374.out 2).trans rfl
          have hfz16_0 := blk_frozen BK374.out 0
          have hfz16_1 := blk_frozen BK374.out 1
          have hfz16_2 := blk_frozen BK374.out 2
          go_wp2_with (first | ((with_reducible refine gate_callee (f := 8) rfl ?_); refine goesL_ (some 18) rfl rfl Tryd.func8 (by kernel_rfl) rfl #[.agg #[.bool a1_0, .string a1_1, .int .i64 a1_2], .int .i64 a3] rfl (by (try simp only [List.map_toArray]); (try simp only [List.map_cons]); (try simp only [List.map_nil]); first | done | rfl | (simp only [List.length_drop, List.length_take]; rfl)) ?_; (with_reducible refine (figureheadlaw10_good.calls k a1_0 a1_1 a1_2 a3 true _ A7.out).mono ?_); rintro e w17 ⟨rfl, hb⟩; refine ⟨_, rfl, ?_⟩; have n0_ := Aside0.mk (blk_below (g := gb374) (o := .cells #[.bool a1_0, .string a1_1, .int .i64 a1_2] 23 (0, 0)) (by (with_reducible repeat (first | refine blk_drewN ?_ _ | refine blk_drew ?_ | refine blk_alloc ?_ _)); exact BK374.out) hb); have n1_ := Aside0.mk (below_step (by repeat (first | (with_reducible first | exact HB.out | apply below_alloc | apply pw_below_drewN | apply below_drew1 | refine below_set ?_ GE374.out) | exact HB.out)) hb); clear BK374; clear HB; have BK374 := n0_; have HB := n1_; clear n0_ n1_; (try clear hb); (try clear hb2); (try clear hk); (try clear hi)) | ((with_reducible refine gate_dst (N := 30) rfl ?_); (refine gate_guard (by rfl) ?_; dsimp only); (with_reducible refine gate_callee (f := 11) rfl ?_); refine goesL_ (some 30) rfl rfl Tryd.func11 (by kernel_rfl) rfl #[.string a2] rfl (by (try simp only [List.map_toArray]); (try simp only [List.map_cons]); (try simp only [List.map_nil]); first | done | rfl | (simp only [List.length_drop, List.length_take]; rfl)) ?_; (with_reducible refine (figureheadlaw10_may.calls k a2 t376 _ A15.out).mono ?_); rintro e w' ⟨rfl, ⟨nd, rfl⟩⟩; refine ⟨_, rfl, ?_⟩))
          go_meet
          case rel => exact ⟨_, (!t376), (by first | rfl | (simp; done) | (simp [*]; done) | (simp [*, Fig.bne_nil]; done)), H', ⟨by first | omega | exact Nat.le_refl _⟩, ⟨by (with_reducible repeat (first | refine blk_drewN ?_ _ | refine blk_drew ?_ | refine blk_alloc ?_ _)); exact BK374.out⟩, ⟨by repeat (first | (with_reducible first | exact HB.out | apply below_alloc | apply pw_below_drewN | apply below_drew1 | refine below_set ?_ GE374.out) | exact HB.out)⟩⟩
    · replace c8 := Bool.eq_false_iff.mpr c8
      subst c8
      have H1 : (figureheadlaw10_IncNear.j0 k a0 a2 a3 true a1_0 a1_1 a1_2) = some r := by rw [if_neg (show ¬ (false = true) by decide)] at H; exact H
      clear H
      have H := H1
      clear H1
      have H' := Aside0.mk H
      clear H
      have hcz18_0 : w6.cell? ⟨gb374, 0, none⟩ = some (.bool a1_0) := (blk_cell BK374.out 0).trans rfl
      have hcz18_1 : w6.cell? ⟨gb374, 1, none⟩ = some (.string a1_1) := (blk_cell BK374.out 1).trans rfl
      have hcz18_2 : w6.cell? ⟨gb374, 2, none⟩ = some (.int .i64 a1_2) := (blk_cell BK374.out 2).trans rfl
      have hfz18_0 := blk_frozen BK374.out 0
      have hfz18_1 := blk_frozen BK374.out 1
      have hfz18_2 := blk_frozen BK374.out 2
      go_wp2_with (first | ((with_reducible refine gate_callee (f := 8) rfl ?_); refine goesL_ (some 18) rfl rfl Tryd.func8 (by kernel_rfl) rfl #[.agg #[.bool a1_0, .string a1_1, .int .i64 a1_2], .int .i64 a3] rfl (by (try simp only [List.map_toArray]); (try simp only [List.map_cons]); (try simp only [List.map_nil]); first | done | rfl | (simp only [List.length_drop, List.length_take]; rfl)) ?_; (with_reducible refine (figureheadlaw10_good.calls k a1_0 a1_1 a1_2 a3 false _ A7.out).mono ?_); rintro e w19 ⟨rfl, hb⟩; refine ⟨_, rfl, ?_⟩; have n0_ := Aside0.mk (blk_below (g := gb374) (o := .cells #[.bool a1_0, .string a1_1, .int .i64 a1_2] 23 (0, 0)) (by (with_reducible repeat (first | refine blk_drewN ?_ _ | refine blk_drew ?_ | refine blk_alloc ?_ _)); exact BK374.out) hb); have n1_ := Aside0.mk (below_step (by repeat (first | (with_reducible first | exact HB.out | apply below_alloc | apply pw_below_drewN | apply below_drew1 | refine below_set ?_ GE374.out) | exact HB.out)) hb); clear BK374; clear HB; have BK374 := n0_; have HB := n1_; clear n0_ n1_; (try clear hb); (try clear hb2); (try clear hk); (try clear hi)))
      go_meet
      case rel => exact ⟨_, (true), (by first | rfl | (simp; done) | (simp [*]; done) | (simp [*, Fig.bne_nil]; done)), H', ⟨by first | omega | exact Nat.le_refl _⟩, ⟨by (with_reducible repeat (first | refine blk_drewN ?_ _ | refine blk_drew ?_ | refine blk_alloc ?_ _)); exact BK374.out⟩, ⟨by repeat (first | (with_reducible first | exact HB.out | apply below_alloc | apply pw_below_drewN | apply below_drew1 | refine below_set ?_ GE374.out) | exact HB.out)⟩⟩
  case rest =>
    clear HC5
    try clear c1
    try clear p2
    try clear c4
    try clear c8
    try clear c9
    try clear c9b0
    try clear c11
    try clear c12
    try clear c12b0
    try clear hcz10_0
    try clear hcz10_1
    try clear hcz10_2
    try clear hcz13_0
    try clear hcz13_1
    try clear hcz13_2
    try clear hcz16_0
    try clear hcz16_1
    try clear hcz16_2
    try clear hcz18_0
    try clear hcz18_1
    try clear hcz18_2
    try clear hfz10_0
    try clear hfz10_1
    try clear hfz10_2
    try clear hfz13_0
    try clear hfz13_1
    try clear hfz13_2
    try clear hfz16_0
    try clear hfz16_1
    try clear hfz16_2
    try clear hfz18_0
    try clear hfz18_1
    try clear hfz18_2
    obtain ⟨kq, x32_4, rfl, HA, HJ4, BK374, HB⟩ := hcut
    cases kq with
    | zero => exact absurd HA.out (by simp [figureheadlaw10_IncNear.j0])
    | succ kj4 =>
      have H := HA.out
      clear HA
      simp only [figureheadlaw10_IncNear.j0] at H
      by_cases c20 : x32_4 = true
      · subst c20
        have H1 : ((figureheadlaw10_answers.f kj4).bind fun t377 => (some t377)) = some r := by rw [if_pos rfl] at H; exact H
        clear H
        have H := H1
        clear H1
        replace H := Option.bind_eq_some_iff.mp H
        obtain ⟨t377, A210, H⟩ := H
        replace H : (some t377) = some r := H
        have A21 := Aside0.mk A210
        clear A210
        obtain rfl := Option.some.inj H
        go_wp2_with (first | ((with_reducible refine gate_callee (f := 9) rfl ?_); refine goesL_ (some 33) rfl rfl Tryd.func9 (by kernel_rfl) rfl #[] rfl (by (try simp only [List.map_toArray]); (try simp only [List.map_cons]); (try simp only [List.map_nil]); first | done | rfl | (simp only [List.length_drop, List.length_take]; rfl)) ?_; (with_reducible refine (figureheadlaw10_answers.calls kj4  t377 _ ?side1 ?side2 A21.out).mono ?_); (case side1 => exact Fig.Glob.below HG.out (by repeat (first | (with_reducible first | exact HB.out | apply below_alloc | apply pw_below_drewN | apply below_drew1 | refine below_set ?_ GE374.out) | exact HB.out))); (case side2 => exact ⟨by first | rfl | exact HT.out⟩); rintro e w22 ⟨rfl, hb⟩; refine ⟨_, rfl, ?_⟩; have n0_ := Aside0.mk (blk_below (g := gb374) (o := .cells #[.bool a1_0, .string a1_1, .int .i64 a1_2] 23 (0, 0)) (by (with_reducible repeat (first | refine blk_drewN ?_ _ | refine blk_drew ?_ | refine blk_alloc ?_ _)); exact BK374.out) hb); have n1_ := Aside0.mk (below_step (by repeat (first | (with_reducible first | exact HB.out | apply below_alloc | apply pw_below_drewN | apply below_drew1 | refine below_set ?_ GE374.out) | exact HB.out)) hb); clear BK374; clear HB; have BK374 := n0_; have HB := n1_; clear n0_ n1_; (try clear hb); (try clear hb2); (try clear hk); (try clear hi)))
        go_ret
        exact ⟨by first | rfl | (simp [errW_none, errW_some] <;> rfl) | (simp [*, errW_none, errW_some] <;> rfl), by repeat (first | (with_reducible first | exact HB.out | apply below_alloc | apply pw_below_drewN | apply below_drew1 | refine below_set ?_ GE374.out) | exact HB.out)⟩
      · replace c20 := Bool.eq_false_iff.mpr c20
        subst c20
        have H1 : ((inc_Round.f kj4 a0 a1_0 a1_1 a1_2 a2 a3).bind fun bt378 => ((inc_Round.f kj4 7 bt378.1 bt378.2.1 bt378.2.2.1 a2 a3).bind fun bt383 => ((figureheadref05_Turn.f a1_0 a1_1 a1_2).bind fun bt388 => ((figureheadref05_Sum.f kj4 bt378.1 bt378.2.1 bt378.2.2.1 bt388.1 bt388.2.1 bt388.2.2).bind fun bt391 => (if bt378.2.2.2 = 0 then (if bt383.2.2.2 = 0 then (if (!(bt383.1 == bt378.1) || (!(bt383.2.1.toList == bt378.2.1.toList) || (!(bt383.2.2.1 == bt378.2.2.1)))) = true then (some false) else ((figureheadref05_Cmp.f kj4 false bt391.2.1 bt391.2.2 false a2 a3).bind fun t397 => (if t397 ≥ 0 then (some false) else (if a0 ≥ 4 then ((figureheadref05_Sum.f kj4 false bt391.2.1 bt391.2.2 false bt391.2.1 bt391.2.2).bind fun bt398 => ((figureheadref05_Cmp.f kj4 bt398.1 bt398.2.1 bt398.2.2 false a2 a3).bind fun t401 => (if t401 > 0 then (some false) else ((figureheadlaw10_answers.f kj4).bind fun t402 => (if t402 = true then (if a0 = 0 then (if bt391.1 = true then (some false) else (if a0 = 1 then (if bt391.2.1.toList = ([48] : List UInt8) then (some true) else (some bt391.1)) else (some true))) else (if a0 = 1 then (if bt391.2.1.toList = ([48] : List UInt8) then (some true) else (some bt391.1)) else (some true))) else (some false)))))) else ((figureheadlaw10_answers.f kj4).bind fun t403 => (if t403 = true then (if a0 = 0 then (if bt391.1 = true then (some false) else (if a0 = 1 then (if bt391.2.1.toList = ([48] : List UInt8) then (some true) else (some bt391.1)) else (some true))) else (if a0 = 1 then (if bt391.2.1.toList = ([48] : List UInt8) then (some true) else (some bt391.1)) else (some true))) else (some false))))))) else (some false)) else (some false)))))) = some r := by rw [if_neg (show ¬ (false = true) by decide)] at H; exact H
        clear H
        have H := H1
        clear H1
        replace H := Option.bind_eq_some_iff.mp H
        obtain ⟨⟨t378, t379, t380, t381⟩, A230, H⟩ := H
        replace H : ((inc_Round.f kj4 7 t378 t379 t380 a2 a3).bind fun bt383 => ((figureheadref05_Turn.f a1_0 a1_1 a1_2).bind fun bt388 => ((figureheadref05_Sum.f kj4 t378 t379 t380 bt388.1 bt388.2.1 bt388.2.2).bind fun bt391 => (if t381 = 0 then (if bt383.2.2.2 = 0 then (if (!(bt383.1 == t378) || (!(bt383.2.1.toList == t379.toList) || (!(bt383.2.2.1 == t380)))) = true then (some false) else ((figureheadref05_Cmp.f kj4 false bt391.2.1 bt391.2.2 false a2 a3).bind fun t397 => (if t397 ≥ 0 then (some false) else (if a0 ≥ 4 then ((figureheadref05_Sum.f kj4 false bt391.2.1 bt391.2.2 false bt391.2.1 bt391.2.2).bind fun bt398 => ((figureheadref05_Cmp.f kj4 bt398.1 bt398.2.1 bt398.2.2 false a2 a3).bind fun t401 => (if t401 > 0 then (some false) else ((figureheadlaw10_answers.f kj4).bind fun t402 => (if t402 = true then (if a0 = 0 then (if bt391.1 = true then (some false) else (if a0 = 1 then (if bt391.2.1.toList = ([48] : List UInt8) then (some true) else (some bt391.1)) else (some true))) else (if a0 = 1 then (if bt391.2.1.toList = ([48] : List UInt8) then (some true) else (some bt391.1)) else (some true))) else (some false)))))) else ((figureheadlaw10_answers.f kj4).bind fun t403 => (if t403 = true then (if a0 = 0 then (if bt391.1 = true then (some false) else (if a0 = 1 then (if bt391.2.1.toList = ([48] : List UInt8) then (some true) else (some bt391.1)) else (some true))) else (if a0 = 1 then (if bt391.2.1.toList = ([48] : List UInt8) then (some true) else (some bt391.1)) else (some true))) else (some false))))))) else (some false)) else (some false))))) = some r := H
        have A23 := Aside0.mk A230
        clear A230
        replace H := Option.bind_eq_some_iff.mp H
        obtain ⟨⟨t383, t384, t385, t386⟩, A240, H⟩ := H
        replace H : ((figureheadref05_Turn.f a1_0 a1_1 a1_2).bind fun bt388 => ((figureheadref05_Sum.f kj4 t378 t379 t380 bt388.1 bt388.2.1 bt388.2.2).bind fun bt391 => (if t381 = 0 then (if t386 = 0 then (if (!(t383 == t378) || (!(t384.toList == t379.toList) || (!(t385 == t380)))) = true then (some false) else ((figureheadref05_Cmp.f kj4 false bt391.2.1 bt391.2.2 false a2 a3).bind fun t397 => (if t397 ≥ 0 then (some false) else (if a0 ≥ 4 then ((figureheadref05_Sum.f kj4 false bt391.2.1 bt391.2.2 false bt391.2.1 bt391.2.2).bind fun bt398 => ((figureheadref05_Cmp.f kj4 bt398.1 bt398.2.1 bt398.2.2 false a2 a3).bind fun t401 => (if t401 > 0 then (some false) else ((figureheadlaw10_answers.f kj4).bind fun t402 => (if t402 = true then (if a0 = 0 then (if bt391.1 = true then (some false) else (if a0 = 1 then (if bt391.2.1.toList = ([48] : List UInt8) then (some true) else (some bt391.1)) else (some true))) else (if a0 = 1 then (if bt391.2.1.toList = ([48] : List UInt8) then (some true) else (some bt391.1)) else (some true))) else (some false)))))) else ((figureheadlaw10_answers.f kj4).bind fun t403 => (if t403 = true then (if a0 = 0 then (if bt391.1 = true then (some false) else (if a0 = 1 then (if bt391.2.1.toList = ([48] : List UInt8) then (some true) else (some bt391.1)) else (some true))) else (if a0 = 1 then (if bt391.2.1.toList = ([48] : List UInt8) then (some true) else (some bt391.1)) else (some true))) else (some false))))))) else (some false)) else (some false)))) = some r := H
        have A24 := Aside0.mk A240
        clear A240
        replace H := Option.bind_eq_some_iff.mp H
        obtain ⟨⟨t388, t389, t390⟩, A250, H⟩ := H
        replace H : ((figureheadref05_Sum.f kj4 t378 t379 t380 t388 t389 t390).bind fun bt391 => (if t381 = 0 then (if t386 = 0 then (if (!(t383 == t378) || (!(t384.toList == t379.toList) || (!(t385 == t380)))) = true then (some false) else ((figureheadref05_Cmp.f kj4 false bt391.2.1 bt391.2.2 false a2 a3).bind fun t397 => (if t397 ≥ 0 then (some false) else (if a0 ≥ 4 then ((figureheadref05_Sum.f kj4 false bt391.2.1 bt391.2.2 false bt391.2.1 bt391.2.2).bind fun bt398 => ((figureheadref05_Cmp.f kj4 bt398.1 bt398.2.1 bt398.2.2 false a2 a3).bind fun t401 => (if t401 > 0 then (some false) else ((figureheadlaw10_answers.f kj4).bind fun t402 => (if t402 = true then (if a0 = 0 then (if bt391.1 = true then (some false) else (if a0 = 1 then (if bt391.2.1.toList = ([48] : List UInt8) then (some true) else (some bt391.1)) else (some true))) else (if a0 = 1 then (if bt391.2.1.toList = ([48] : List UInt8) then (some true) else (some bt391.1)) else (some true))) else (some false)))))) else ((figureheadlaw10_answers.f kj4).bind fun t403 => (if t403 = true then (if a0 = 0 then (if bt391.1 = true then (some false) else (if a0 = 1 then (if bt391.2.1.toList = ([48] : List UInt8) then (some true) else (some bt391.1)) else (some true))) else (if a0 = 1 then (if bt391.2.1.toList = ([48] : List UInt8) then (some true) else (some bt391.1)) else (some true))) else (some false))))))) else (some false)) else (some false))) = some r := H
        have A25 := Aside0.mk A250
        clear A250
        replace H := Option.bind_eq_some_iff.mp H
        obtain ⟨⟨t391, t392, t393⟩, A260, H⟩ := H
        replace H : (if t381 = 0 then (if t386 = 0 then (if (!(t383 == t378) || (!(t384.toList == t379.toList) || (!(t385 == t380)))) = true then (some false) else ((figureheadref05_Cmp.f kj4 false t392 t393 false a2 a3).bind fun t397 => (if t397 ≥ 0 then (some false) else (if a0 ≥ 4 then ((figureheadref05_Sum.f kj4 false t392 t393 false t392 t393).bind fun bt398 => ((figureheadref05_Cmp.f kj4 bt398.1 bt398.2.1 bt398.2.2 false a2 a3).bind fun t401 => (if t401 > 0 then (some false) else ((figureheadlaw10_answers.f kj4).bind fun t402 => (if t402 = true then (if a0 = 0 then (if t391 = true then (some false) else (if a0 = 1 then (if t392.toList = ([48] : List UInt8) then (some true) else (some t391)) else (some true))) else (if a0 = 1 then (if t392.toList = ([48] : List UInt8) then (some true) else (some t391)) else (some true))) else (some false)))))) else ((figureheadlaw10_answers.f kj4).bind fun t403 => (if t403 = true then (if a0 = 0 then (if t391 = true then (some false) else (if a0 = 1 then (if t392.toList = ([48] : List UInt8) then (some true) else (some t391)) else (some true))) else (if a0 = 1 then (if t392.toList = ([48] : List UInt8) then (some true) else (some t391)) else (some true))) else (some false))))))) else (some false)) else (some false)) = some r := H
        have A26 := Aside0.mk A260
        clear A260
        by_cases c27 : t381 = 0
        · rw [if_pos c27] at H
          have c27b0 : (t381 == 0) = true := beq_iff_eq.mpr c27
          have c27b1 : (t381 != 0) = false := bne_eq_false_iff_eq.mpr c27
          clear c27
          by_cases c28 : t386 = 0
          · rw [if_pos c28] at H
            have c28b0 : (t386 == 0) = true := beq_iff_eq.mpr c28
            have c28b1 : (t386 != 0) = false := bne_eq_false_iff_eq.mpr c28
            clear c28
            by_cases c29 : (!(t383 == t378) || (!(t384.toList == t379.toList) || (!(t385 == t380)))) = true
            · rw [if_pos c29] at H
              have c29b0 : (!(t383 == t378) || (!(t384.toList == t379.toList) || (!(t385 == t380)))) = true := c29
              clear c29
              exact absurd ((Option.some.inj H).trans HT.out) (by decide)
            · rw [if_neg c29] at H
              have c29b0 : (!(t383 == t378) || (!(t384.toList == t379.toList) || (!(t385 == t380)))) = false := by simpa using c29
              have c29b7 : t383 = t378 ∧ t384.toList = t379.toList ∧ t385 = t380 := by simpa using c29b0
              have c29b1 : (t383 = t378) = True := eq_true c29b7.1
              have c29b2 : (t384.toList = t379.toList) = True := eq_true c29b7.2.1
              have c29b3 : (t385 = t380) = True := eq_true c29b7.2.2
              clear c29b7
              clear c29
              replace H := Option.bind_eq_some_iff.mp H
              obtain ⟨t397, A300, H⟩ := H
              replace H : (if t397 ≥ 0 then (some false) else (if a0 ≥ 4 then ((figureheadref05_Sum.f kj4 false t392 t393 false t392 t393).bind fun bt398 => ((figureheadref05_Cmp.f kj4 bt398.1 bt398.2.1 bt398.2.2 false a2 a3).bind fun t401 => (if t401 > 0 then (some false) else ((figureheadlaw10_answers.f kj4).bind fun t402 => (if t402 = true then (if a0 = 0 then (if t391 = true then (some false) else (if a0 = 1 then (if t392.toList = ([48] : List UInt8) then (some true) else (some t391)) else (some true))) else (if a0 = 1 then (if t392.toList = ([48] : List UInt8) then (some true) else (some t391)) else (some true))) else (some false)))))) else ((figureheadlaw10_answers.f kj4).bind fun t403 => (if t403 = true then (if a0 = 0 then (if t391 = true then (some false) else (if a0 = 1 then (if t392.toList = ([48] : List UInt8) then (some true) else (some t391)) else (some true))) else (if a0 = 1 then (if t392.toList = ([48] : List UInt8) then (some true) else (some t391)) else (some true))) else (some false))))) = some r := H
              have A30 := Aside0.mk A300
              clear A300
              by_cases c31 : t397 ≥ 0
              · rw [if_pos c31] at H
                have c31b0 : decide (0 ≤ t397) = true := decide_eq_true c31
                clear c31
                exact absurd ((Option.some.inj H).trans HT.out) (by decide)
              · rw [if_neg c31] at H
                have c31b0 : decide (0 ≤ t397) = false := decide_eq_false c31
                clear c31
                by_cases c32 : a0 ≥ 4
                · rw [if_pos c32] at H
                  have c32b0 : decide (4 ≤ a0) = true := decide_eq_true c32
                  clear c32
                  replace H := Option.bind_eq_some_iff.mp H
                  obtain ⟨⟨t398, t399, t400⟩, A330, H⟩ := H
                  replace H : ((figureheadref05_Cmp.f kj4 t398 t399 t400 false a2 a3).bind fun t401 => (if t401 > 0 then (some false) else ((figureheadlaw10_answers.f kj4).bind fun t402 => (if t402 = true then (if a0 = 0 then (if t391 = true then (some false) else (if a0 = 1 then (if t392.toList = ([48] : List UInt8) then (some true) else (some t391)) else (some true))) else (if a0 = 1 then (if t392.toList = ([48] : List UInt8) then (some true) else (some t391)) else (some true))) else (some false))))) = some r := H
                  have A33 := Aside0.mk A330
                  clear A330
                  replace H := Option.bind_eq_some_iff.mp H
                  obtain ⟨t401, A340, H⟩ := H
                  replace H : (if t401 > 0 then (some false) else ((figureheadlaw10_answers.f kj4).bind fun t402 => (if t402 = true then (if a0 = 0 then (if t391 = true then (some false) else (if a0 = 1 then (if t392.toList = ([48] : List UInt8) then (some true) else (some t391)) else (some true))) else (if a0 = 1 then (if t392.toList = ([48] : List UInt8) then (some true) else (some t391)) else (some true))) else (some false)))) = some r := H
                  have A34 := Aside0.mk A340
                  clear A340
                  by_cases c35 : t401 > 0
                  · rw [if_pos c35] at H
                    have c35b0 : decide (0 < t401) = true := decide_eq_true c35
                    clear c35
                    exact absurd ((Option.some.inj H).trans HT.out) (by decide)
                  · rw [if_neg c35] at H
                    have c35b0 : decide (0 < t401) = false := decide_eq_false c35
                    clear c35
                    replace H := Option.bind_eq_some_iff.mp H
                    obtain ⟨t402, A360, H⟩ := H
                    replace H : (if t402 = true then (if a0 = 0 then (if t391 = true then (some false) else (if a0 = 1 then (if t392.toList = ([48] : List UInt8) then (some true) else (some t391)) else (some true))) else (if a0 = 1 then (if t392.toList = ([48] : List UInt8) then (some true) else (some t391)) else (some true))) else (some false)) = some r := H
                    have A36 := Aside0.mk A360
                    clear A360
                    by_cases c37 : t402 = true
                    · subst c37
                      have H1 : (if a0 = 0 then (if t391 = true then (some false) else (if a0 = 1 then (if t392.toList = ([48] : List UInt8) then (some true) else (some t391)) else (some true))) else (if a0 = 1 then (if t392.toList = ([48] : List UInt8) then (some true) else (some t391)) else (some true))) = some r := by rw [if_pos rfl] at H; exact H
                      clear H
                      have H := H1
                      clear H1
                      have hr_ : r = true := HT.out
                      subst hr_
                      have F0_ : Aside0 (a0 = 0 → t391 = false) := ⟨fun h_ => by rw [if_pos h_] at H; cases h2_ : t391 with | false => rfl | true => rw [h2_, if_pos rfl] at H; cases H⟩
                      have F1_ : Aside0 (a0 = 1 → (t392.toList = ([48] : List UInt8)) ∨ t391 = true) := ⟨fun h_ => by rw [if_neg (by omega), if_pos h_] at H; exact (Classical.em (t392.toList = ([48] : List UInt8))).elim Or.inl (fun h2_ => by rw [if_neg h2_] at H; exact .inr (Option.some.inj H))⟩
                      clear H
                      have hcz173_0 : wc.cell? ⟨gb374, 0, none⟩ = some (.bool a1_0) := (blk_cell BK374.out 0).trans rfl
                      have hcz173_1 : wc.cell? ⟨gb374, 1, none⟩ = some (.string a1_1) := (blk_cell BK374.out 1).trans rfl
                      have hcz173_2 : wc.cell? ⟨gb374, 2, none⟩ = some (.int .i64 a1_2) := (blk_cell BK374.out 2).trans rfl
                      have hfz173_0 := blk_frozen BK374.out 0
                      have hfz173_1 := blk_frozen BK374.out 1
                      have hfz173_2 := blk_frozen BK374.out 2
                      try go_wp2_with (first | ((with_reducible refine gate_callee (f := 10) rfl ?_); refine goesL_ (some 39) rfl rfl Tryd.func10 (by kernel_rfl) rfl #[.int .i64 a0, .agg #[.bool a1_0, .string a1_1, .int .i64 a1_2], .string a2, .int .i64 a3] rfl (by (try simp only [List.map_toArray]); (try simp only [List.map_cons]); (try simp only [List.map_nil]); first | done | rfl | (simp only [List.length_drop, List.length_take]; rfl)) ?_; (with_reducible refine (inc_Round.calls kj4 a0 a1_0 a1_1 a1_2 a2 a3 t378 t379 t380 t381 _ ?side1 A23.out).mono ?_); (case side1 => exact Fig.Glob.below HG.out (by repeat (first | (with_reducible first | exact HB.out | apply below_alloc | apply pw_below_drewN | apply below_drew1 | refine below_set ?_ GE374.out) | exact HB.out))); rintro e w174 ⟨rfl, hb⟩; refine ⟨_, rfl, ?_⟩; have n0_ := Aside0.mk (blk_below (g := gb374) (o := .cells #[.bool a1_0, .string a1_1, .int .i64 a1_2] 23 (0, 0)) (by (with_reducible repeat (first | refine blk_drewN ?_ _ | refine blk_drew ?_ | refine blk_alloc ?_ _)); exact BK374.out) hb); have n1_ := Aside0.mk (below_step (by repeat (first | (with_reducible first | exact HB.out | apply below_alloc | apply pw_below_drewN | apply below_drew1 | refine below_set ?_ GE374.out) | exact HB.out)) hb); clear BK374; clear HB; have BK374 := n0_; have HB := n1_; clear n0_ n1_; (try clear hb); (try clear hb2); (try clear hk); (try clear hi)) | ((with_reducible refine gate_dst (N := 9) rfl ?_); refine box_event ?hg (N := 9) ?hd (cs := #[.bool false, .string (⟨#[]⟩ : ByteArray), .int .i64 0]) (t := 23) ?hr ?_; (case hd => rfl); (case hg => rfl); (case hr => first | (go_simp; done) | (go_simp; rfl)); intro gb382 hg w175 hbox hb; have n0_ := Aside0.mk (blk_below (g := gb374) (o := .cells #[.bool a1_0, .string a1_1, .int .i64 a1_2] 23 (0, 0)) (by (with_reducible repeat (first | refine blk_drewN ?_ _ | refine blk_drew ?_ | refine blk_alloc ?_ _)); exact BK374.out) hb); have n1_ := Aside0.mk (below_step (by repeat (first | (with_reducible first | exact HB.out | apply below_alloc | apply pw_below_drewN | apply below_drew1 | refine below_set ?_ GE374.out) | exact HB.out)) hb); have n2_ := Aside0.mk (hbox); have n3_ := Aside0.mk ((by rw [hg]; exact (below_size (by repeat (first | (with_reducible first | exact HB.out | apply below_alloc | apply pw_below_drewN | apply below_drew1 | refine below_set ?_ GE374.out) | exact HB.out))) : w.heap.size ≤ gb382)); have n4_ := Aside0.mk ((by rw [hg]; exact (below_size (by repeat (first | (with_reducible first | exact HB.out | apply below_alloc | apply pw_below_drewN | apply below_drew1 | refine below_set ?_ GE374.out) | exact HB.out))) : w.heap.size ≤ gb382)); have n5_ := Aside0.mk ((by rw [hg]; exact Nat.ne_of_lt (blk_lt (g := gb374) (o := .cells #[.bool a1_0, .string a1_1, .int .i64 a1_2] 23 (0, 0)) (by (with_reducible repeat (first | refine blk_drewN ?_ _ | refine blk_drew ?_ | refine blk_alloc ?_ _)); exact BK374.out)) : gb374 ≠ gb382)); have n6_ := Aside0.mk ((by rw [hg]; exact Nat.ne_of_gt (blk_lt (g := gb374) (o := .cells #[.bool a1_0, .string a1_1, .int .i64 a1_2] 23 (0, 0)) (by (with_reducible repeat (first | refine blk_drewN ?_ _ | refine blk_drew ?_ | refine blk_alloc ?_ _)); exact BK374.out)) : gb382 ≠ gb374)); clear BK374; clear HB; have BK374 := n0_; have HB := n1_; have BK382 := n2_; have GW382 := n3_; have GE382 := n4_; have NB374_382 := n5_; have NB382_374 := n6_; clear n0_ n1_ n2_ n3_ n4_ n5_ n6_; clear hb hbox hg; have hnb176 := NB382_374.out; have hnc176 := NB374_382.out; have hcz177_0 : w175.cell? ⟨gb382, 0, none⟩ = some (.bool false) := (blk_cell BK382.out 0).trans rfl; have hcz177_1 : w175.cell? ⟨gb382, 1, none⟩ = some (.string (⟨#[]⟩ : ByteArray)) := (blk_cell BK382.out 1).trans rfl; have hcz177_2 : w175.cell? ⟨gb382, 2, none⟩ = some (.int .i64 0) := (blk_cell BK382.out 2).trans rfl; have hfz177_0 := blk_frozen BK382.out 0; have hfz177_1 := blk_frozen BK382.out 1; have hfz177_2 := blk_frozen BK382.out 2) | ((with_reducible refine gate_callee (f := 10) rfl ?_); refine goesL_ (some 46) rfl rfl Tryd.func10 (by kernel_rfl) rfl #[.int .i64 7, .agg #[.bool t378, .string t379, .int .i64 t380], .string a2, .int .i64 a3] rfl (by (try simp only [List.map_toArray]); (try simp only [List.map_cons]); (try simp only [List.map_nil]); first | done | rfl | (simp only [List.length_drop, List.length_take]; rfl)) ?_; (with_reducible refine (inc_Round.calls kj4 7 t378 t379 t380 a2 a3 t383 t384 t385 t386 _ ?side1 A24.out).mono ?_); (case side1 => exact Fig.Glob.below HG.out (by repeat (first | (with_reducible first | exact HB.out | apply below_alloc | apply pw_below_drewN | apply below_drew1 | refine below_set ?_ GE374.out | refine below_set ?_ GE382.out) | exact HB.out))); rintro e w178 ⟨rfl, hb⟩; refine ⟨_, rfl, ?_⟩; have n0_ := Aside0.mk (blk_below (g := gb374) (o := .cells #[.bool a1_0, .string a1_1, .int .i64 a1_2] 23 (0, 0)) (by (with_reducible repeat (first | refine blk_drewN ?_ _ | refine blk_drew ?_ | refine blk_alloc ?_ _)); refine blk_far ?_ NB374_382.out _; (with_reducible repeat (first | refine blk_drewN ?_ _ | refine blk_drew ?_ | refine blk_alloc ?_ _)); refine blk_far ?_ NB374_382.out _; (with_reducible repeat (first | refine blk_drewN ?_ _ | refine blk_drew ?_ | refine blk_alloc ?_ _)); refine blk_far ?_ NB374_382.out _; (with_reducible repeat (first | refine blk_drewN ?_ _ | refine blk_drew ?_ | refine blk_alloc ?_ _)); exact BK374.out) hb); have n1_ := Aside0.mk (blk_below (g := gb382) (o := .cells #[.bool t378, .string t379, .int .i64 t380] 23 (0, 0)) (by (with_reducible repeat (first | refine blk_drewN ?_ _ | refine blk_drew ?_ | refine blk_alloc ?_ _)); refine blk_put (cs := #[.bool t378, .string t379, .int .i64 0]) ?_ 2 _ rfl; (with_reducible repeat (first | refine blk_drewN ?_ _ | refine blk_drew ?_ | refine blk_alloc ?_ _)); refine blk_put (cs := #[.bool t378, .string (⟨#[]⟩ : ByteArray), .int .i64 0]) ?_ 1 _ rfl; (with_reducible repeat (first | refine blk_drewN ?_ _ | refine blk_drew ?_ | refine blk_alloc ?_ _)); refine blk_put (cs := #[.bool false, .string (⟨#[]⟩ : ByteArray), .int .i64 0]) ?_ 0 _ rfl; (with_reducible repeat (first | refine blk_drewN ?_ _ | refine blk_drew ?_ | refine blk_alloc ?_ _)); exact BK382.out) hb); have n2_ := Aside0.mk (below_step (by repeat (first | (with_reducible first | exact HB.out | apply below_alloc | apply pw_below_drewN | apply below_drew1 | refine below_set ?_ GE374.out | refine below_set ?_ GE382.out) | exact HB.out)) hb); clear BK374; clear BK382; clear HB; have BK374 := n0_; have BK382 := n1_; have HB := n2_; clear n0_ n1_ n2_; (try clear hb); (try clear hb2); (try clear hk); (try clear hi)) | ((with_reducible refine gate_dst (N := 11) rfl ?_); refine box_event ?hg (N := 11) ?hd (cs := #[.bool false, .string (⟨#[]⟩ : ByteArray), .int .i64 0]) (t := 23) ?hr ?_; (case hd => rfl); (case hg => rfl); (case hr => first | (go_simp; done) | (go_simp; rfl)); intro gb387 hg w179 hbox hb; have n0_ := Aside0.mk (blk_below (g := gb374) (o := .cells #[.bool a1_0, .string a1_1, .int .i64 a1_2] 23 (0, 0)) (by (with_reducible repeat (first | refine blk_drewN ?_ _ | refine blk_drew ?_ | refine blk_alloc ?_ _)); exact BK374.out) hb); have n1_ := Aside0.mk (blk_below (g := gb382) (o := .cells #[.bool t378, .string t379, .int .i64 t380] 23 (0, 0)) (by (with_reducible repeat (first | refine blk_drewN ?_ _ | refine blk_drew ?_ | refine blk_alloc ?_ _)); exact BK382.out) hb); have n2_ := Aside0.mk (below_step (by repeat (first | (with_reducible first | exact HB.out | apply below_alloc | apply pw_below_drewN | apply below_drew1 | refine below_set ?_ GE374.out | refine below_set ?_ GE382.out) | exact HB.out)) hb); have n3_ := Aside0.mk (hbox); have n4_ := Aside0.mk ((by rw [hg]; exact (below_size (by repeat (first | (with_reducible first | exact HB.out | apply below_alloc | apply pw_below_drewN | apply below_drew1 | refine below_set ?_ GE374.out | refine below_set ?_ GE382.out) | exact HB.out))) : w.heap.size ≤ gb387)); have n5_ := Aside0.mk ((by rw [hg]; exact (below_size (by repeat (first | (with_reducible first | exact HB.out | apply below_alloc | apply pw_below_drewN | apply below_drew1 | refine below_set ?_ GE374.out | refine below_set ?_ GE382.out) | exact HB.out))) : w.heap.size ≤ gb387)); have n6_ := Aside0.mk ((by rw [hg]; exact Nat.ne_of_lt (blk_lt (g := gb374) (o := .cells #[.bool a1_0, .string a1_1, .int .i64 a1_2] 23 (0, 0)) (by (with_reducible repeat (first | refine blk_drewN ?_ _ | refine blk_drew ?_ | refine blk_alloc ?_ _)); exact BK374.out)) : gb374 ≠ gb387)); have n7_ := Aside0.mk ((by rw [hg]; exact Nat.ne_of_gt (blk_lt (g := gb374) (o := .cells #[.bool a1_0, .string a1_1, .int .i64 a1_2] 23 (0, 0)) (by (with_reducible repeat (first | refine blk_drewN ?_ _ | refine blk_drew ?_ | refine blk_alloc ?_ _)); exact BK374.out)) : gb387 ≠ gb374)); have n8_ := Aside0.mk ((by rw [hg]; exact Nat.ne_of_lt (blk_lt (g := gb382) (o := .cells #[.bool t378, .string t379, .int .i64 t380] 23 (0, 0)) (by (with_reducible repeat (first | refine blk_drewN ?_ _ | refine blk_drew ?_ | refine blk_alloc ?_ _)); exact BK382.out)) : gb382 ≠ gb387)); have n9_ := Aside0.mk ((by rw [hg]; exact Nat.ne_of_gt (blk_lt (g := gb382) (o := .cells #[.bool t378, .string t379, .int .i64 t380] 23 (0, 0)) (by (with_reducible repeat (first | refine blk_drewN ?_ _ | refine blk_drew ?_ | refine blk_alloc ?_ _)); exact BK382.out)) : gb387 ≠ gb382)); clear BK374; clear BK382; clear HB; have BK374 := n0_; have BK382 := n1_; have HB := n2_; have BK387 := n3_; have GW387 := n4_; have GE387 := n5_; have NB374_387 := n6_; have NB387_374 := n7_; have NB382_387 := n8_; have NB387_382 := n9_; clear n0_ n1_ n2_ n3_ n4_ n5_ n6_ n7_ n8_ n9_; clear hb hbox hg; have hnb180 := NB387_374.out; have hnc180 := NB374_387.out; have hnb181 := NB387_382.out; have hnc181 := NB382_387.out; have hcz182_0 : w179.cell? ⟨gb387, 0, none⟩ = some (.bool false) := (blk_cell BK387.out 0).trans rfl; have hcz182_1 : w179.cell? ⟨gb387, 1, none⟩ = some (.string (⟨#[]⟩ : ByteArray)) := (blk_cell BK387.out 1).trans rfl; have hcz182_2 : w179.cell? ⟨gb387, 2, none⟩ = some (.int .i64 0) := (blk_cell BK387.out 2).trans rfl; have hfz182_0 := blk_frozen BK387.out 0; have hfz182_1 := blk_frozen BK387.out 1; have hfz182_2 := blk_frozen BK387.out 2))
                      have n0_ : Aside0 ((((w179.setCell ⟨gb387, 0, none⟩ (.bool t383)).setCell ⟨gb387, 1, none⟩ (.string t384)).setCell ⟨gb387, 2, none⟩ (.int .i64 t385)).heap[gb374]? = some (.cells #[.bool a1_0, .string a1_1, .int .i64 a1_2] 23 (0, 0))) := ⟨by (with_reducible repeat (first | refine blk_drewN ?_ _ | refine blk_drew ?_ | refine blk_alloc ?_ _)); refine blk_far ?_ NB374_387.out _; (with_reducible repeat (first | refine blk_drewN ?_ _ | refine blk_drew ?_ | refine blk_alloc ?_ _)); refine blk_far ?_ NB374_387.out _; (with_reducible repeat (first | refine blk_drewN ?_ _ | refine blk_drew ?_ | refine blk_alloc ?_ _)); refine blk_far ?_ NB374_387.out _; (with_reducible repeat (first | refine blk_drewN ?_ _ | refine blk_drew ?_ | refine blk_alloc ?_ _)); exact BK374.out⟩
                      have n1_ : Aside0 ((((w179.setCell ⟨gb387, 0, none⟩ (.bool t383)).setCell ⟨gb387, 1, none⟩ (.string t384)).setCell ⟨gb387, 2, none⟩ (.int .i64 t385)).heap[gb382]? = some (.cells #[.bool t378, .string t379, .int .i64 t380] 23 (0, 0))) := ⟨by (with_reducible repeat (first | refine blk_drewN ?_ _ | refine blk_drew ?_ | refine blk_alloc ?_ _)); refine blk_far ?_ NB382_387.out _; (with_reducible repeat (first | refine blk_drewN ?_ _ | refine blk_drew ?_ | refine blk_alloc ?_ _)); refine blk_far ?_ NB382_387.out _; (with_reducible repeat (first | refine blk_drewN ?_ _ | refine blk_drew ?_ | refine blk_alloc ?_ _)); refine blk_far ?_ NB382_387.out _; (with_reducible repeat (first | refine blk_drewN ?_ _ | refine blk_drew ?_ | refine blk_alloc ?_ _)); exact BK382.out⟩
                      have n2_ : Aside0 ((((w179.setCell ⟨gb387, 0, none⟩ (.bool t383)).setCell ⟨gb387, 1, none⟩ (.string t384)).setCell ⟨gb387, 2, none⟩ (.int .i64 t385)).heap[gb387]? = some (.cells #[.bool t383, .string t384, .int .i64 t385] 23 (0, 0))) := ⟨by (with_reducible repeat (first | refine blk_drewN ?_ _ | refine blk_drew ?_ | refine blk_alloc ?_ _)); refine blk_put (cs := #[.bool t383, .string t384, .int .i64 0]) ?_ 2 _ rfl; (with_reducible repeat (first | refine blk_drewN ?_ _ | refine blk_drew ?_ | refine blk_alloc ?_ _)); refine blk_put (cs := #[.bool t383, .string (⟨#[]⟩ : ByteArray), .int .i64 0]) ?_ 1 _ rfl; (with_reducible repeat (first | refine blk_drewN ?_ _ | refine blk_drew ?_ | refine blk_alloc ?_ _)); refine blk_put (cs := #[.bool false, .string (⟨#[]⟩ : ByteArray), .int .i64 0]) ?_ 0 _ rfl; (with_reducible repeat (first | refine blk_drewN ?_ _ | refine blk_drew ?_ | refine blk_alloc ?_ _)); exact BK387.out⟩
                      have n3_ : Aside0 (Below w.heap.size w (((w179.setCell ⟨gb387, 0, none⟩ (.bool t383)).setCell ⟨gb387, 1, none⟩ (.string t384)).setCell ⟨gb387, 2, none⟩ (.int .i64 t385))) := ⟨by repeat (first | (with_reducible first | exact HB.out | apply below_alloc | apply pw_below_drewN | apply below_drew1 | refine below_set ?_ GE374.out | refine below_set ?_ GE382.out | refine below_set ?_ GE387.out) | exact HB.out)⟩
                      (try clear BK374)
                      (try clear BK382)
                      (try clear BK387)
                      (try clear HB)
                      generalize (((w179.setCell ⟨gb387, 0, none⟩ (.bool t383)).setCell ⟨gb387, 1, none⟩ (.string t384)).setCell ⟨gb387, 2, none⟩ (.int .i64 t385)) = w183 at n0_ n1_ n2_ n3_ ⊢
                      have BK374 := n0_
                      have BK382 := n1_
                      have BK387 := n2_
                      have HB := n3_
                      clear n0_ n1_ n2_ n3_
                      (try (rw [drewN_self w183]; generalize hq_ : World.drewN w183 _ = w183; have n0_ : Aside0 (w183.heap[gb374]? = some (.cells #[.bool a1_0, .string a1_1, .int .i64 a1_2] 23 (0, 0))) := ⟨by rw [← hq_]; exact (by (with_reducible repeat (first | refine blk_drewN ?_ _ | refine blk_drew ?_ | refine blk_alloc ?_ _)); exact BK374.out)⟩; have n1_ : Aside0 (w183.heap[gb382]? = some (.cells #[.bool t378, .string t379, .int .i64 t380] 23 (0, 0))) := ⟨by rw [← hq_]; exact (by (with_reducible repeat (first | refine blk_drewN ?_ _ | refine blk_drew ?_ | refine blk_alloc ?_ _)); exact BK382.out)⟩; have n2_ : Aside0 (w183.heap[gb387]? = some (.cells #[.bool t383, .string t384, .int .i64 t385] 23 (0, 0))) := ⟨by rw [← hq_]; exact (by (with_reducible repeat (first | refine blk_drewN ?_ _ | refine blk_drew ?_ | refine blk_alloc ?_ _)); exact BK387.out)⟩; have n3_ : Aside0 (Below w.heap.size w w183) := ⟨by rw [← hq_]; exact (by repeat (first | (with_reducible first | exact HB.out | apply below_alloc | apply pw_below_drewN | apply below_drew1 | refine below_set ?_ GE374.out | refine below_set ?_ GE382.out | refine below_set ?_ GE387.out) | exact HB.out))⟩; clear BK374 BK382 BK387 HB hq_; have BK374 := n0_; have BK382 := n1_; have BK387 := n2_; have HB := n3_; clear n0_ n1_ n2_ n3_))
                      have n0_ := Aside0.mk (blk_drew BK374.out)
                      have n1_ := Aside0.mk (blk_drew BK382.out)
                      have n2_ := Aside0.mk (blk_drew BK387.out)
                      have n3_ := Aside0.mk (below_drew1 HB.out)
                      clear BK374
                      clear BK382
                      clear BK387
                      clear HB
                      have BK374 := n0_
                      have BK382 := n1_
                      have BK387 := n2_
                      have HB := n3_
                      clear n0_ n1_ n2_ n3_
                      refine start_ (n := 6) (S := fun w' => w'.cell? ⟨gb382, 0, none⟩ = some (.bool t378) ∧ w'.cell? ⟨gb382, 1, none⟩ = some (.string t379) ∧ w'.cell? ⟨gb382, 2, none⟩ = some (.int .i64 t380) ∧ w'.cell? ⟨gb374, 0, none⟩ = some (.bool a1_0) ∧ w'.cell? ⟨gb374, 1, none⟩ = some (.string a1_1) ∧ w'.cell? ⟨gb374, 2, none⟩ = some (.int .i64 a1_2)) (ds := []) #[false, false, false, false, false, false] (by kernel_rfl) rfl rfl ⟨(blk_cell BK382.out 0).trans rfl, (blk_cell BK382.out 1).trans rfl, (blk_cell BK382.out 2).trans rfl, (blk_cell BK374.out 0).trans rfl, (blk_cell BK374.out 1).trans rfl, (blk_cell BK374.out 2).trans rfl⟩ (fun hHeld => ?_)
                      generalize w183.drew = w184 at BK374 BK382 BK387 HB hHeld ⊢
                      refine take_ (i := 0) (N := some 49) (v := ?_) (a' := ?_) #[true, false, false, false, false, false] rfl rfl (by kernel_rfl) (fun _ _ _ h => h) (Or.inl ⟨by rfl, ?_⟩) hHeld ?_ ?_
                      rotate_left
                      · rintro w' ⟨s0, s1, s2, s3, s4, s5⟩
                        go_simp
                        with_reducible rfl
                      rotate_left
                      · simp only [Act.put, List.setIfInBounds_toArray, List.set_cons_zero, List.set_cons_succ]; (try simp only [i64_w]); (try simp only [i32_w])
                        rfl
                      refine take_ (i := 1) (N := some 50) (v := ?_) (a' := ?_) #[true, true, false, false, false, false] rfl rfl (by kernel_rfl) (fun _ _ _ h => h) (Or.inl ⟨by rfl, ?_⟩) hHeld ?_ ?_
                      rotate_left
                      · rintro w' ⟨s0, s1, s2, s3, s4, s5⟩
                        go_simp
                        with_reducible rfl
                      rotate_left
                      · simp only [Act.put, List.setIfInBounds_toArray, List.set_cons_zero, List.set_cons_succ]; (try simp only [i64_w]); (try simp only [i32_w])
                        rfl
                      refine join_ (σ := Nat) 1 #[true, true, true, true, true, false] (fun s_ => [(51, .agg #[.bool t388, .string t389, .int .i64 t390]), (52, .agg #[.bool t391, .string t392, .int .i64 t393]), (13, .pointer (some ⟨s_, 0, none⟩))]) (fun s_ w' => (w'.cell? ⟨gb382, 0, none⟩ = some (.bool t378) ∧ w'.cell? ⟨gb382, 1, none⟩ = some (.string t379) ∧ w'.cell? ⟨gb382, 2, none⟩ = some (.int .i64 t380) ∧ w'.cell? ⟨gb374, 0, none⟩ = some (.bool a1_0) ∧ w'.cell? ⟨gb374, 1, none⟩ = some (.string a1_1) ∧ w'.cell? ⟨gb374, 2, none⟩ = some (.int .i64 a1_2)) ∧ (w'.heap[gb374]? = some (.cells #[.bool a1_0, .string a1_1, .int .i64 a1_2] 23 (0, 0))) ∧ (w'.heap[gb382]? = some (.cells #[.bool t378, .string t379, .int .i64 t380] 23 (0, 0))) ∧ (w'.heap[gb387]? = some (.cells #[.bool t383, .string t384, .int .i64 t385] 23 (0, 0))) ∧ (w'.heap[s_]? = some (.cells #[.bool false, .string (⟨#[]⟩ : ByteArray), .int .i64 0] 23 (0, 0))) ∧ (w.heap.size ≤ s_) ∧ (w.heap.size ≤ s_) ∧ (gb374 ≠ s_) ∧ (s_ ≠ gb374) ∧ (gb382 ≠ s_) ∧ (s_ ≠ gb382) ∧ (gb387 ≠ s_) ∧ (s_ ≠ gb387) ∧ (Below w.heap.size w w')) ?_ ?_
                      rotate_left
                      · intro hCont
                        refine two_ (i := 2) (j := 4) (Ni := some 51) (Nj := some 13) #[true, true, true, false, false, false] #[true, true, false, false, true, false] rfl rfl rfl rfl (by kernel_rfl) (by decide) (by decide) (fun K hK => ?_) (fun K hK => ?_)
                        · skip
                          refine goes_ Tryd.func14 (by kernel_rfl) rfl #[.agg #[.bool a1_0, .string a1_1, .int .i64 a1_2]] (by rfl) rfl rfl (by (try simp only [List.map_toArray]); (try simp only [List.map_cons]); (try simp only [List.map_nil]); first | done | rfl | (simp only [List.length_drop, List.length_take]; rfl)) ?_
                          with_reducible refine (figureheadref05_Turn.calls a1_0 a1_1 a1_2 t388 t389 t390 _ A25.out).mono ?_
                          rintro e w185 ⟨rfl, hb⟩
                          refine ⟨_, rfl, ?_⟩
                          have n0_ := Aside0.mk (blk_below (g := gb374) (o := .cells #[.bool a1_0, .string a1_1, .int .i64 a1_2] 23 (0, 0)) (by (with_reducible repeat (first | refine blk_drewN ?_ _ | refine blk_drew ?_ | refine blk_alloc ?_ _)); exact BK374.out) hb)
                          have n1_ := Aside0.mk (blk_below (g := gb382) (o := .cells #[.bool t378, .string t379, .int .i64 t380] 23 (0, 0)) (by (with_reducible repeat (first | refine blk_drewN ?_ _ | refine blk_drew ?_ | refine blk_alloc ?_ _)); exact BK382.out) hb)
                          have n2_ := Aside0.mk (blk_below (g := gb387) (o := .cells #[.bool t383, .string t384, .int .i64 t385] 23 (0, 0)) (by (with_reducible repeat (first | refine blk_drewN ?_ _ | refine blk_drew ?_ | refine blk_alloc ?_ _)); exact BK387.out) hb)
                          have n3_ := Aside0.mk (below_step (by repeat (first | (with_reducible first | exact HB.out | apply below_alloc | apply pw_below_drewN | apply below_drew1 | refine below_set ?_ GE374.out | refine below_set ?_ GE382.out | refine below_set ?_ GE387.out) | exact HB.out)) hb)
                          clear BK374
                          clear BK382
                          clear BK387
                          clear HB
                          have BK374 := n0_
                          have BK382 := n1_
                          have BK387 := n2_
                          have HB := n3_
                          clear n0_ n1_ n2_ n3_
                          (try clear hb)
                          (try clear hb2)
                          (try clear hk)
                          (try clear hi)
                          refine hK.out _ _ ⟨(blk_cell BK382.out 0).trans rfl, (blk_cell BK382.out 1).trans rfl, (blk_cell BK382.out 2).trans rfl, (blk_cell BK374.out 0).trans rfl, (blk_cell BK374.out 1).trans rfl, (blk_cell BK374.out 2).trans rfl⟩ (fun hHeld => ?_)
                          clear hK K
                          refine norm_ (a' := ?_) ?_ ?_
                          rotate_left
                          · show Act.put _ (some 51) _ = _
                            simp only [Act.put, List.setIfInBounds_toArray, List.set_cons_zero, List.set_cons_succ]; (try simp only [i64_w]); (try simp only [i32_w])
                            rfl
                          refine two_ (i := 3) (j := 4) (Ni := some 52) (Nj := some 13) #[true, true, true, true, false, false] #[true, true, true, false, true, false] rfl rfl rfl rfl (by kernel_rfl) (by decide) (by decide) (fun K hK => ?_) (fun K hK => ?_)
                          · skip
                            refine goes_ Tryd.func13 (by kernel_rfl) rfl #[.agg #[.bool t378, .string t379, .int .i64 t380], .agg #[.bool t388, .string t389, .int .i64 t390]] (by rfl) rfl rfl (by (try simp only [List.map_toArray]); (try simp only [List.map_cons]); (try simp only [List.map_nil]); first | done | rfl | (simp only [List.length_drop, List.length_take]; rfl)) ?_
                            with_reducible refine (figureheadref05_Sum.calls kj4 t378 t379 t380 t388 t389 t390 t391 t392 t393 _ A26.out).mono ?_
                            rintro e w186 ⟨rfl, hb⟩
                            refine ⟨_, rfl, ?_⟩
                            have n0_ := Aside0.mk (blk_below (g := gb374) (o := .cells #[.bool a1_0, .string a1_1, .int .i64 a1_2] 23 (0, 0)) (by (with_reducible repeat (first | refine blk_drewN ?_ _ | refine blk_drew ?_ | refine blk_alloc ?_ _)); exact BK374.out) hb)
                            have n1_ := Aside0.mk (blk_below (g := gb382) (o := .cells #[.bool t378, .string t379, .int .i64 t380] 23 (0, 0)) (by (with_reducible repeat (first | refine blk_drewN ?_ _ | refine blk_drew ?_ | refine blk_alloc ?_ _)); exact BK382.out) hb)
                            have n2_ := Aside0.mk (blk_below (g := gb387) (o := .cells #[.bool t383, .string t384, .int .i64 t385] 23 (0, 0)) (by (with_reducible repeat (first | refine blk_drewN ?_ _ | refine blk_drew ?_ | refine blk_alloc ?_ _)); exact BK387.out) hb)
                            have n3_ := Aside0.mk (below_step (by repeat (first | (with_reducible first | exact HB.out | apply below_alloc | apply pw_below_drewN | apply below_drew1 | refine below_set ?_ GE374.out | refine below_set ?_ GE382.out | refine below_set ?_ GE387.out) | exact HB.out)) hb)
                            clear BK374
                            clear BK382
                            clear BK387
                            clear HB
                            have BK374 := n0_
                            have BK382 := n1_
                            have BK387 := n2_
                            have HB := n3_
                            clear n0_ n1_ n2_ n3_
                            (try clear hb)
                            (try clear hb2)
                            (try clear hk)
                            (try clear hi)
                            refine hK.out _ _ ⟨(blk_cell BK382.out 0).trans rfl, (blk_cell BK382.out 1).trans rfl, (blk_cell BK382.out 2).trans rfl, (blk_cell BK374.out 0).trans rfl, (blk_cell BK374.out 1).trans rfl, (blk_cell BK374.out 2).trans rfl⟩ (fun hHeld => ?_)
                            clear hK K
                            refine norm_ (a' := ?_) ?_ ?_
                            rotate_left
                            · show Act.put _ (some 52) _ = _
                              simp only [Act.put, List.setIfInBounds_toArray, List.set_cons_zero, List.set_cons_succ]; (try simp only [i64_w]); (try simp only [i32_w])
                              rfl
                            refine one_ (i := 4) (N := some 13) #[true, true, true, true, true, false] rfl rfl (by kernel_rfl) (by decide) (fun K hK => ?_)
                            refine box_step ?hg (N := 13) ?hd (cs := #[.bool false, .string (⟨#[]⟩ : ByteArray), .int .i64 0]) (t := 23) ?hr ?_; (case hd => rfl); (case hg => rfl); (case hr => first | (go_simp; done) | (go_simp; rfl))
                            intro gb394 hg w187 hbox hb
                            have n0_ := Aside0.mk (blk_below (g := gb374) (o := .cells #[.bool a1_0, .string a1_1, .int .i64 a1_2] 23 (0, 0)) (by (with_reducible repeat (first | refine blk_drewN ?_ _ | refine blk_drew ?_ | refine blk_alloc ?_ _)); exact BK374.out) hb)
                            have n1_ := Aside0.mk (blk_below (g := gb382) (o := .cells #[.bool t378, .string t379, .int .i64 t380] 23 (0, 0)) (by (with_reducible repeat (first | refine blk_drewN ?_ _ | refine blk_drew ?_ | refine blk_alloc ?_ _)); exact BK382.out) hb)
                            have n2_ := Aside0.mk (blk_below (g := gb387) (o := .cells #[.bool t383, .string t384, .int .i64 t385] 23 (0, 0)) (by (with_reducible repeat (first | refine blk_drewN ?_ _ | refine blk_drew ?_ | refine blk_alloc ?_ _)); exact BK387.out) hb)
                            have n3_ := Aside0.mk (below_step (by repeat (first | (with_reducible first | exact HB.out | apply below_alloc | apply pw_below_drewN | apply below_drew1 | refine below_set ?_ GE374.out | refine below_set ?_ GE382.out | refine below_set ?_ GE387.out) | exact HB.out)) hb)
                            have n4_ := Aside0.mk (hbox)
                            have n5_ := Aside0.mk ((by rw [hg]; exact (below_size (by repeat (first | (with_reducible first | exact HB.out | apply below_alloc | apply pw_below_drewN | apply below_drew1 | refine below_set ?_ GE374.out | refine below_set ?_ GE382.out | refine below_set ?_ GE387.out) | exact HB.out))) : w.heap.size ≤ gb394))
                            have n6_ := Aside0.mk ((by rw [hg]; exact (below_size (by repeat (first | (with_reducible first | exact HB.out | apply below_alloc | apply pw_below_drewN | apply below_drew1 | refine below_set ?_ GE374.out | refine below_set ?_ GE382.out | refine below_set ?_ GE387.out) | exact HB.out))) : w.heap.size ≤ gb394))
                            have n7_ := Aside0.mk ((by rw [hg]; exact Nat.ne_of_lt (blk_lt (g := gb374) (o := .cells #[.bool a1_0, .string a1_1, .int .i64 a1_2] 23 (0, 0)) (by (with_reducible repeat (first | refine blk_drewN ?_ _ | refine blk_drew ?_ | refine blk_alloc ?_ _)); exact BK374.out)) : gb374 ≠ gb394))
                            have n8_ := Aside0.mk ((by rw [hg]; exact Nat.ne_of_gt (blk_lt (g := gb374) (o := .cells #[.bool a1_0, .string a1_1, .int .i64 a1_2] 23 (0, 0)) (by (with_reducible repeat (first | refine blk_drewN ?_ _ | refine blk_drew ?_ | refine blk_alloc ?_ _)); exact BK374.out)) : gb394 ≠ gb374))
                            have n9_ := Aside0.mk ((by rw [hg]; exact Nat.ne_of_lt (blk_lt (g := gb382) (o := .cells #[.bool t378, .string t379, .int .i64 t380] 23 (0, 0)) (by (with_reducible repeat (first | refine blk_drewN ?_ _ | refine blk_drew ?_ | refine blk_alloc ?_ _)); exact BK382.out)) : gb382 ≠ gb394))
                            have n10_ := Aside0.mk ((by rw [hg]; exact Nat.ne_of_gt (blk_lt (g := gb382) (o := .cells #[.bool t378, .string t379, .int .i64 t380] 23 (0, 0)) (by (with_reducible repeat (first | refine blk_drewN ?_ _ | refine blk_drew ?_ | refine blk_alloc ?_ _)); exact BK382.out)) : gb394 ≠ gb382))
                            have n11_ := Aside0.mk ((by rw [hg]; exact Nat.ne_of_lt (blk_lt (g := gb387) (o := .cells #[.bool t383, .string t384, .int .i64 t385] 23 (0, 0)) (by (with_reducible repeat (first | refine blk_drewN ?_ _ | refine blk_drew ?_ | refine blk_alloc ?_ _)); exact BK387.out)) : gb387 ≠ gb394))
                            have n12_ := Aside0.mk ((by rw [hg]; exact Nat.ne_of_gt (blk_lt (g := gb387) (o := .cells #[.bool t383, .string t384, .int .i64 t385] 23 (0, 0)) (by (with_reducible repeat (first | refine blk_drewN ?_ _ | refine blk_drew ?_ | refine blk_alloc ?_ _)); exact BK387.out)) : gb394 ≠ gb387))
                            clear BK374
                            clear BK382
                            clear BK387
                            clear HB
                            have BK374 := n0_
                            have BK382 := n1_
                            have BK387 := n2_
                            have HB := n3_
                            have BK394 := n4_
                            have GW394 := n5_
                            have GE394 := n6_
                            have NB374_394 := n7_
                            have NB394_374 := n8_
                            have NB382_394 := n9_
                            have NB394_382 := n10_
                            have NB387_394 := n11_
                            have NB394_387 := n12_
                            clear n0_ n1_ n2_ n3_ n4_ n5_ n6_ n7_ n8_ n9_ n10_ n11_ n12_
                            clear hb hbox hg
                            refine hK.out _ _ ⟨(blk_cell BK382.out 0).trans rfl, (blk_cell BK382.out 1).trans rfl, (blk_cell BK382.out 2).trans rfl, (blk_cell BK374.out 0).trans rfl, (blk_cell BK374.out 1).trans rfl, (blk_cell BK374.out 2).trans rfl⟩ (fun hHeld => ?_)
                            clear hK K
                            refine norm_ (a' := ?_) ?_ ?_
                            rotate_left
                            · show Act.put _ (some 13) _ = _
                              simp only [Act.put, List.setIfInBounds_toArray, List.set_cons_zero, List.set_cons_succ]; (try simp only [i64_w]); (try simp only [i32_w])
                              rfl
                            exact norm_ (by simp only [putAll, Act.put, List.setIfInBounds_toArray, List.set_cons_zero, List.set_cons_succ]) (hCont (gb394) _ ⟨hHeld, (by (with_reducible repeat (first | refine blk_drewN ?_ _ | refine blk_drew ?_ | refine blk_alloc ?_ _)); exact BK374.out), (by (with_reducible repeat (first | refine blk_drewN ?_ _ | refine blk_drew ?_ | refine blk_alloc ?_ _)); exact BK382.out), (by (with_reducible repeat (first | refine blk_drewN ?_ _ | refine blk_drew ?_ | refine blk_alloc ?_ _)); exact BK387.out), (by (with_reducible repeat (first | refine blk_drewN ?_ _ | refine blk_drew ?_ | refine blk_alloc ?_ _)); exact BK394.out), GW394.out, GE394.out, NB374_394.out, NB394_374.out, NB382_394.out, NB394_382.out, NB387_394.out, NB394_387.out, (by repeat (first | (with_reducible first | exact HB.out | apply below_alloc | apply pw_below_drewN | apply below_drew1 | refine below_set ?_ GE374.out | refine below_set ?_ GE382.out | refine below_set ?_ GE387.out | refine below_set ?_ GE394.out) | exact HB.out))⟩)
                          · skip
                            refine box_step ?hg (N := 13) ?hd (cs := #[.bool false, .string (⟨#[]⟩ : ByteArray), .int .i64 0]) (t := 23) ?hr ?_; (case hd => rfl); (case hg => rfl); (case hr => first | (go_simp; done) | (go_simp; rfl))
                            intro gb394 hg w186 hbox hb
                            have n0_ := Aside0.mk (blk_below (g := gb374) (o := .cells #[.bool a1_0, .string a1_1, .int .i64 a1_2] 23 (0, 0)) (by (with_reducible repeat (first | refine blk_drewN ?_ _ | refine blk_drew ?_ | refine blk_alloc ?_ _)); exact BK374.out) hb)
                            have n1_ := Aside0.mk (blk_below (g := gb382) (o := .cells #[.bool t378, .string t379, .int .i64 t380] 23 (0, 0)) (by (with_reducible repeat (first | refine blk_drewN ?_ _ | refine blk_drew ?_ | refine blk_alloc ?_ _)); exact BK382.out) hb)
                            have n2_ := Aside0.mk (blk_below (g := gb387) (o := .cells #[.bool t383, .string t384, .int .i64 t385] 23 (0, 0)) (by (with_reducible repeat (first | refine blk_drewN ?_ _ | refine blk_drew ?_ | refine blk_alloc ?_ _)); exact BK387.out) hb)
                            have n3_ := Aside0.mk (below_step (by repeat (first | (with_reducible first | exact HB.out | apply below_alloc | apply pw_below_drewN | apply below_drew1 | refine below_set ?_ GE374.out | refine below_set ?_ GE382.out | refine below_set ?_ GE387.out) | exact HB.out)) hb)
                            have n4_ := Aside0.mk (hbox)
                            have n5_ := Aside0.mk ((by rw [hg]; exact (below_size (by repeat (first | (with_reducible first | exact HB.out | apply below_alloc | apply pw_below_drewN | apply below_drew1 | refine below_set ?_ GE374.out | refine below_set ?_ GE382.out | refine below_set ?_ GE387.out) | exact HB.out))) : w.heap.size ≤ gb394))
                            have n6_ := Aside0.mk ((by rw [hg]; exact (below_size (by repeat (first | (with_reducible first | exact HB.out | apply below_alloc | apply pw_below_drewN | apply below_drew1 | refine below_set ?_ GE374.out | refine below_set ?_ GE382.out | refine below_set ?_ GE387.out) | exact HB.out))) : w.heap.size ≤ gb394))
                            have n7_ := Aside0.mk ((by rw [hg]; exact Nat.ne_of_lt (blk_lt (g := gb374) (o := .cells #[.bool a1_0, .string a1_1, .int .i64 a1_2] 23 (0, 0)) (by (with_reducible repeat (first | refine blk_drewN ?_ _ | refine blk_drew ?_ | refine blk_alloc ?_ _)); exact BK374.out)) : gb374 ≠ gb394))
                            have n8_ := Aside0.mk ((by rw [hg]; exact Nat.ne_of_gt (blk_lt (g := gb374) (o := .cells #[.bool a1_0, .string a1_1, .int .i64 a1_2] 23 (0, 0)) (by (with_reducible repeat (first | refine blk_drewN ?_ _ | refine blk_drew ?_ | refine blk_alloc ?_ _)); exact BK374.out)) : gb394 ≠ gb374))
                            have n9_ := Aside0.mk ((by rw [hg]; exact Nat.ne_of_lt (blk_lt (g := gb382) (o := .cells #[.bool t378, .string t379, .int .i64 t380] 23 (0, 0)) (by (with_reducible repeat (first | refine blk_drewN ?_ _ | refine blk_drew ?_ | refine blk_alloc ?_ _)); exact BK382.out)) : gb382 ≠ gb394))
                            have n10_ := Aside0.mk ((by rw [hg]; exact Nat.ne_of_gt (blk_lt (g := gb382) (o := .cells #[.bool t378, .string t379, .int .i64 t380] 23 (0, 0)) (by (with_reducible repeat (first | refine blk_drewN ?_ _ | refine blk_drew ?_ | refine blk_alloc ?_ _)); exact BK382.out)) : gb394 ≠ gb382))
                            have n11_ := Aside0.mk ((by rw [hg]; exact Nat.ne_of_lt (blk_lt (g := gb387) (o := .cells #[.bool t383, .string t384, .int .i64 t385] 23 (0, 0)) (by (with_reducible repeat (first | refine blk_drewN ?_ _ | refine blk_drew ?_ | refine blk_alloc ?_ _)); exact BK387.out)) : gb387 ≠ gb394))
                            have n12_ := Aside0.mk ((by rw [hg]; exact Nat.ne_of_gt (blk_lt (g := gb387) (o := .cells #[.bool t383, .string t384, .int .i64 t385] 23 (0, 0)) (by (with_reducible repeat (first | refine blk_drewN ?_ _ | refine blk_drew ?_ | refine blk_alloc ?_ _)); exact BK387.out)) : gb394 ≠ gb387))
                            clear BK374
                            clear BK382
                            clear BK387
                            clear HB
                            have BK374 := n0_
                            have BK382 := n1_
                            have BK387 := n2_
                            have HB := n3_
                            have BK394 := n4_
                            have GW394 := n5_
                            have GE394 := n6_
                            have NB374_394 := n7_
                            have NB394_374 := n8_
                            have NB382_394 := n9_
                            have NB394_382 := n10_
                            have NB387_394 := n11_
                            have NB394_387 := n12_
                            clear n0_ n1_ n2_ n3_ n4_ n5_ n6_ n7_ n8_ n9_ n10_ n11_ n12_
                            clear hb hbox hg
                            refine hK.out _ _ ⟨(blk_cell BK382.out 0).trans rfl, (blk_cell BK382.out 1).trans rfl, (blk_cell BK382.out 2).trans rfl, (blk_cell BK374.out 0).trans rfl, (blk_cell BK374.out 1).trans rfl, (blk_cell BK374.out 2).trans rfl⟩ (fun hHeld => ?_)
                            clear hK K
                            refine norm_ (a' := ?_) ?_ ?_
                            rotate_left
                            · show Act.put _ (some 13) _ = _
                              simp only [Act.put, List.setIfInBounds_toArray, List.set_cons_zero, List.set_cons_succ]; (try simp only [i64_w]); (try simp only [i32_w])
                              rfl
                            refine one_ (i := 3) (N := some 52) #[true, true, true, true, true, false] rfl rfl (by kernel_rfl) (by decide) (fun K hK => ?_)
                            refine goes_ Tryd.func13 (by kernel_rfl) rfl #[.agg #[.bool t378, .string t379, .int .i64 t380], .agg #[.bool t388, .string t389, .int .i64 t390]] (by rfl) rfl rfl (by (try simp only [List.map_toArray]); (try simp only [List.map_cons]); (try simp only [List.map_nil]); first | done | rfl | (simp only [List.length_drop, List.length_take]; rfl)) ?_
                            with_reducible refine (figureheadref05_Sum.calls kj4 t378 t379 t380 t388 t389 t390 t391 t392 t393 _ A26.out).mono ?_
                            rintro e w187 ⟨rfl, hb⟩
                            refine ⟨_, rfl, ?_⟩
                            have n0_ := Aside0.mk (blk_below (g := gb374) (o := .cells #[.bool a1_0, .string a1_1, .int .i64 a1_2] 23 (0, 0)) (by (with_reducible repeat (first | refine blk_drewN ?_ _ | refine blk_drew ?_ | refine blk_alloc ?_ _)); exact BK374.out) hb)
                            have n1_ := Aside0.mk (blk_below (g := gb382) (o := .cells #[.bool t378, .string t379, .int .i64 t380] 23 (0, 0)) (by (with_reducible repeat (first | refine blk_drewN ?_ _ | refine blk_drew ?_ | refine blk_alloc ?_ _)); exact BK382.out) hb)
                            have n2_ := Aside0.mk (blk_below (g := gb387) (o := .cells #[.bool t383, .string t384, .int .i64 t385] 23 (0, 0)) (by (with_reducible repeat (first | refine blk_drewN ?_ _ | refine blk_drew ?_ | refine blk_alloc ?_ _)); exact BK387.out) hb)
                            have n3_ := Aside0.mk (blk_below (g := gb394) (o := .cells #[.bool false, .string (⟨#[]⟩ : ByteArray), .int .i64 0] 23 (0, 0)) (by (with_reducible repeat (first | refine blk_drewN ?_ _ | refine blk_drew ?_ | refine blk_alloc ?_ _)); exact BK394.out) hb)
                            have n4_ := Aside0.mk (below_step (by repeat (first | (with_reducible first | exact HB.out | apply below_alloc | apply pw_below_drewN | apply below_drew1 | refine below_set ?_ GE374.out | refine below_set ?_ GE382.out | refine below_set ?_ GE387.out | refine below_set ?_ GE394.out) | exact HB.out)) hb)
                            clear BK374
                            clear BK382
                            clear BK387
                            clear BK394
                            clear HB
                            have BK374 := n0_
                            have BK382 := n1_
                            have BK387 := n2_
                            have BK394 := n3_
                            have HB := n4_
                            clear n0_ n1_ n2_ n3_ n4_
                            (try clear hb)
                            (try clear hb2)
                            (try clear hk)
                            (try clear hi)
                            refine hK.out _ _ ⟨(blk_cell BK382.out 0).trans rfl, (blk_cell BK382.out 1).trans rfl, (blk_cell BK382.out 2).trans rfl, (blk_cell BK374.out 0).trans rfl, (blk_cell BK374.out 1).trans rfl, (blk_cell BK374.out 2).trans rfl⟩ (fun hHeld => ?_)
                            clear hK K
                            refine norm_ (a' := ?_) ?_ ?_
                            rotate_left
                            · show Act.put _ (some 52) _ = _
                              simp only [Act.put, List.setIfInBounds_toArray, List.set_cons_zero, List.set_cons_succ]; (try simp only [i64_w]); (try simp only [i32_w])
                              rfl
                            exact norm_ (by simp only [putAll, Act.put, List.setIfInBounds_toArray, List.set_cons_zero, List.set_cons_succ]) (hCont (gb394) _ ⟨hHeld, (by (with_reducible repeat (first | refine blk_drewN ?_ _ | refine blk_drew ?_ | refine blk_alloc ?_ _)); exact BK374.out), (by (with_reducible repeat (first | refine blk_drewN ?_ _ | refine blk_drew ?_ | refine blk_alloc ?_ _)); exact BK382.out), (by (with_reducible repeat (first | refine blk_drewN ?_ _ | refine blk_drew ?_ | refine blk_alloc ?_ _)); exact BK387.out), (by (with_reducible repeat (first | refine blk_drewN ?_ _ | refine blk_drew ?_ | refine blk_alloc ?_ _)); exact BK394.out), GW394.out, GE394.out, NB374_394.out, NB394_374.out, NB382_394.out, NB394_382.out, NB387_394.out, NB394_387.out, (by repeat (first | (with_reducible first | exact HB.out | apply below_alloc | apply pw_below_drewN | apply below_drew1 | refine below_set ?_ GE374.out | refine below_set ?_ GE382.out | refine below_set ?_ GE387.out | refine below_set ?_ GE394.out) | exact HB.out))⟩)
                        · skip
                          refine box_step ?hg (N := 13) ?hd (cs := #[.bool false, .string (⟨#[]⟩ : ByteArray), .int .i64 0]) (t := 23) ?hr ?_; (case hd => rfl); (case hg => rfl); (case hr => first | (go_simp; done) | (go_simp; rfl))
                          intro gb394 hg w185 hbox hb
                          have n0_ := Aside0.mk (blk_below (g := gb374) (o := .cells #[.bool a1_0, .string a1_1, .int .i64 a1_2] 23 (0, 0)) (by (with_reducible repeat (first | refine blk_drewN ?_ _ | refine blk_drew ?_ | refine blk_alloc ?_ _)); exact BK374.out) hb)
                          have n1_ := Aside0.mk (blk_below (g := gb382) (o := .cells #[.bool t378, .string t379, .int .i64 t380] 23 (0, 0)) (by (with_reducible repeat (first | refine blk_drewN ?_ _ | refine blk_drew ?_ | refine blk_alloc ?_ _)); exact BK382.out) hb)
                          have n2_ := Aside0.mk (blk_below (g := gb387) (o := .cells #[.bool t383, .string t384, .int .i64 t385] 23 (0, 0)) (by (with_reducible repeat (first | refine blk_drewN ?_ _ | refine blk_drew ?_ | refine blk_alloc ?_ _)); exact BK387.out) hb)
                          have n3_ := Aside0.mk (below_step (by repeat (first | (with_reducible first | exact HB.out | apply below_alloc | apply pw_below_drewN | apply below_drew1 | refine below_set ?_ GE374.out | refine below_set ?_ GE382.out | refine below_set ?_ GE387.out) | exact HB.out)) hb)
                          have n4_ := Aside0.mk (hbox)
                          have n5_ := Aside0.mk ((by rw [hg]; exact (below_size (by repeat (first | (with_reducible first | exact HB.out | apply below_alloc | apply pw_below_drewN | apply below_drew1 | refine below_set ?_ GE374.out | refine below_set ?_ GE382.out | refine below_set ?_ GE387.out) | exact HB.out))) : w.heap.size ≤ gb394))
                          have n6_ := Aside0.mk ((by rw [hg]; exact (below_size (by repeat (first | (with_reducible first | exact HB.out | apply below_alloc | apply pw_below_drewN | apply below_drew1 | refine below_set ?_ GE374.out | refine below_set ?_ GE382.out | refine below_set ?_ GE387.out) | exact HB.out))) : w.heap.size ≤ gb394))
                          have n7_ := Aside0.mk ((by rw [hg]; exact Nat.ne_of_lt (blk_lt (g := gb374) (o := .cells #[.bool a1_0, .string a1_1, .int .i64 a1_2] 23 (0, 0)) (by (with_reducible repeat (first | refine blk_drewN ?_ _ | refine blk_drew ?_ | refine blk_alloc ?_ _)); exact BK374.out)) : gb374 ≠ gb394))
                          have n8_ := Aside0.mk ((by rw [hg]; exact Nat.ne_of_gt (blk_lt (g := gb374) (o := .cells #[.bool a1_0, .string a1_1, .int .i64 a1_2] 23 (0, 0)) (by (with_reducible repeat (first | refine blk_drewN ?_ _ | refine blk_drew ?_ | refine blk_alloc ?_ _)); exact BK374.out)) : gb394 ≠ gb374))
                          have n9_ := Aside0.mk ((by rw [hg]; exact Nat.ne_of_lt (blk_lt (g := gb382) (o := .cells #[.bool t378, .string t379, .int .i64 t380] 23 (0, 0)) (by (with_reducible repeat (first | refine blk_drewN ?_ _ | refine blk_drew ?_ | refine blk_alloc ?_ _)); exact BK382.out)) : gb382 ≠ gb394))
                          have n10_ := Aside0.mk ((by rw [hg]; exact Nat.ne_of_gt (blk_lt (g := gb382) (o := .cells #[.bool t378, .string t379, .int .i64 t380] 23 (0, 0)) (by (with_reducible repeat (first | refine blk_drewN ?_ _ | refine blk_drew ?_ | refine blk_alloc ?_ _)); exact BK382.out)) : gb394 ≠ gb382))
                          have n11_ := Aside0.mk ((by rw [hg]; exact Nat.ne_of_lt (blk_lt (g := gb387) (o := .cells #[.bool t383, .string t384, .int .i64 t385] 23 (0, 0)) (by (with_reducible repeat (first | refine blk_drewN ?_ _ | refine blk_drew ?_ | refine blk_alloc ?_ _)); exact BK387.out)) : gb387 ≠ gb394))
                          have n12_ := Aside0.mk ((by rw [hg]; exact Nat.ne_of_gt (blk_lt (g := gb387) (o := .cells #[.bool t383, .string t384, .int .i64 t385] 23 (0, 0)) (by (with_reducible repeat (first | refine blk_drewN ?_ _ | refine blk_drew ?_ | refine blk_alloc ?_ _)); exact BK387.out)) : gb394 ≠ gb387))
                          clear BK374
                          clear BK382
                          clear BK387
                          clear HB
                          have BK374 := n0_
                          have BK382 := n1_
                          have BK387 := n2_
                          have HB := n3_
                          have BK394 := n4_
                          have GW394 := n5_
                          have GE394 := n6_
                          have NB374_394 := n7_
                          have NB394_374 := n8_
                          have NB382_394 := n9_
                          have NB394_382 := n10_
                          have NB387_394 := n11_
                          have NB394_387 := n12_
                          clear n0_ n1_ n2_ n3_ n4_ n5_ n6_ n7_ n8_ n9_ n10_ n11_ n12_
                          clear hb hbox hg
                          refine hK.out _ _ ⟨(blk_cell BK382.out 0).trans rfl, (blk_cell BK382.out 1).trans rfl, (blk_cell BK382.out 2).trans rfl, (blk_cell BK374.out 0).trans rfl, (blk_cell BK374.out 1).trans rfl, (blk_cell BK374.out 2).trans rfl⟩ (fun hHeld => ?_)
                          clear hK K
                          refine norm_ (a' := ?_) ?_ ?_
                          rotate_left
                          · show Act.put _ (some 13) _ = _
                            simp only [Act.put, List.setIfInBounds_toArray, List.set_cons_zero, List.set_cons_succ]; (try simp only [i64_w]); (try simp only [i32_w])
                            rfl
                          refine one_ (i := 2) (N := some 51) #[true, true, true, false, true, false] rfl rfl (by kernel_rfl) (by decide) (fun K hK => ?_)
                          refine goes_ Tryd.func14 (by kernel_rfl) rfl #[.agg #[.bool a1_0, .string a1_1, .int .i64 a1_2]] (by rfl) rfl rfl (by (try simp only [List.map_toArray]); (try simp only [List.map_cons]); (try simp only [List.map_nil]); first | done | rfl | (simp only [List.length_drop, List.length_take]; rfl)) ?_
                          with_reducible refine (figureheadref05_Turn.calls a1_0 a1_1 a1_2 t388 t389 t390 _ A25.out).mono ?_
                          rintro e w186 ⟨rfl, hb⟩
                          refine ⟨_, rfl, ?_⟩
                          have n0_ := Aside0.mk (blk_below (g := gb374) (o := .cells #[.bool a1_0, .string a1_1, .int .i64 a1_2] 23 (0, 0)) (by (with_reducible repeat (first | refine blk_drewN ?_ _ | refine blk_drew ?_ | refine blk_alloc ?_ _)); exact BK374.out) hb)
                          have n1_ := Aside0.mk (blk_below (g := gb382) (o := .cells #[.bool t378, .string t379, .int .i64 t380] 23 (0, 0)) (by (with_reducible repeat (first | refine blk_drewN ?_ _ | refine blk_drew ?_ | refine blk_alloc ?_ _)); exact BK382.out) hb)
                          have n2_ := Aside0.mk (blk_below (g := gb387) (o := .cells #[.bool t383, .string t384, .int .i64 t385] 23 (0, 0)) (by (with_reducible repeat (first | refine blk_drewN ?_ _ | refine blk_drew ?_ | refine blk_alloc ?_ _)); exact BK387.out) hb)
                          have n3_ := Aside0.mk (blk_below (g := gb394) (o := .cells #[.bool false, .string (⟨#[]⟩ : ByteArray), .int .i64 0] 23 (0, 0)) (by (with_reducible repeat (first | refine blk_drewN ?_ _ | refine blk_drew ?_ | refine blk_alloc ?_ _)); exact BK394.out) hb)
                          have n4_ := Aside0.mk (below_step (by repeat (first | (with_reducible first | exact HB.out | apply below_alloc | apply pw_below_drewN | apply below_drew1 | refine below_set ?_ GE374.out | refine below_set ?_ GE382.out | refine below_set ?_ GE387.out | refine below_set ?_ GE394.out) | exact HB.out)) hb)
                          clear BK374
                          clear BK382
                          clear BK387
                          clear BK394
                          clear HB
                          have BK374 := n0_
                          have BK382 := n1_
                          have BK387 := n2_
                          have BK394 := n3_
                          have HB := n4_
                          clear n0_ n1_ n2_ n3_ n4_
                          (try clear hb)
                          (try clear hb2)
                          (try clear hk)
                          (try clear hi)
                          refine hK.out _ _ ⟨(blk_cell BK382.out 0).trans rfl, (blk_cell BK382.out 1).trans rfl, (blk_cell BK382.out 2).trans rfl, (blk_cell BK374.out 0).trans rfl, (blk_cell BK374.out 1).trans rfl, (blk_cell BK374.out 2).trans rfl⟩ (fun hHeld => ?_)
                          clear hK K
                          refine norm_ (a' := ?_) ?_ ?_
                          rotate_left
                          · show Act.put _ (some 51) _ = _
                            simp only [Act.put, List.setIfInBounds_toArray, List.set_cons_zero, List.set_cons_succ]; (try simp only [i64_w]); (try simp only [i32_w])
                            rfl
                          refine one_ (i := 3) (N := some 52) #[true, true, true, true, true, false] rfl rfl (by kernel_rfl) (by decide) (fun K hK => ?_)
                          refine goes_ Tryd.func13 (by kernel_rfl) rfl #[.agg #[.bool t378, .string t379, .int .i64 t380], .agg #[.bool t388, .string t389, .int .i64 t390]] (by rfl) rfl rfl (by (try simp only [List.map_toArray]); (try simp only [List.map_cons]); (try simp only [List.map_nil]); first | done | rfl | (simp only [List.length_drop, List.length_take]; rfl)) ?_
                          with_reducible refine (figureheadref05_Sum.calls kj4 t378 t379 t380 t388 t389 t390 t391 t392 t393 _ A26.out).mono ?_
                          rintro e w187 ⟨rfl, hb⟩
                          refine ⟨_, rfl, ?_⟩
                          have n0_ := Aside0.mk (blk_below (g := gb374) (o := .cells #[.bool a1_0, .string a1_1, .int .i64 a1_2] 23 (0, 0)) (by (with_reducible repeat (first | refine blk_drewN ?_ _ | refine blk_drew ?_ | refine blk_alloc ?_ _)); exact BK374.out) hb)
                          have n1_ := Aside0.mk (blk_below (g := gb382) (o := .cells #[.bool t378, .string t379, .int .i64 t380] 23 (0, 0)) (by (with_reducible repeat (first | refine blk_drewN ?_ _ | refine blk_drew ?_ | refine blk_alloc ?_ _)); exact BK382.out) hb)
                          have n2_ := Aside0.mk (blk_below (g := gb387) (o := .cells #[.bool t383, .string t384, .int .i64 t385] 23 (0, 0)) (by (with_reducible repeat (first | refine blk_drewN ?_ _ | refine blk_drew ?_ | refine blk_alloc ?_ _)); exact BK387.out) hb)
                          have n3_ := Aside0.mk (blk_below (g := gb394) (o := .cells #[.bool false, .string (⟨#[]⟩ : ByteArray), .int .i64 0] 23 (0, 0)) (by (with_reducible repeat (first | refine blk_drewN ?_ _ | refine blk_drew ?_ | refine blk_alloc ?_ _)); exact BK394.out) hb)
                          have n4_ := Aside0.mk (below_step (by repeat (first | (with_reducible first | exact HB.out | apply below_alloc | apply pw_below_drewN | apply below_drew1 | refine below_set ?_ GE374.out | refine below_set ?_ GE382.out | refine below_set ?_ GE387.out | refine below_set ?_ GE394.out) | exact HB.out)) hb)
                          clear BK374
                          clear BK382
                          clear BK387
                          clear BK394
                          clear HB
                          have BK374 := n0_
                          have BK382 := n1_
                          have BK387 := n2_
                          have BK394 := n3_
                          have HB := n4_
                          clear n0_ n1_ n2_ n3_ n4_
                          (try clear hb)
                          (try clear hb2)
                          (try clear hk)
                          (try clear hi)
                          refine hK.out _ _ ⟨(blk_cell BK382.out 0).trans rfl, (blk_cell BK382.out 1).trans rfl, (blk_cell BK382.out 2).trans rfl, (blk_cell BK374.out 0).trans rfl, (blk_cell BK374.out 1).trans rfl, (blk_cell BK374.out 2).trans rfl⟩ (fun hHeld => ?_)
                          clear hK K
                          refine norm_ (a' := ?_) ?_ ?_
                          rotate_left
                          · show Act.put _ (some 52) _ = _
                            simp only [Act.put, List.setIfInBounds_toArray, List.set_cons_zero, List.set_cons_succ]; (try simp only [i64_w]); (try simp only [i32_w])
                            rfl
                          exact norm_ (by simp only [putAll, Act.put, List.setIfInBounds_toArray, List.set_cons_zero, List.set_cons_succ]) (hCont (gb394) _ ⟨hHeld, (by (with_reducible repeat (first | refine blk_drewN ?_ _ | refine blk_drew ?_ | refine blk_alloc ?_ _)); exact BK374.out), (by (with_reducible repeat (first | refine blk_drewN ?_ _ | refine blk_drew ?_ | refine blk_alloc ?_ _)); exact BK382.out), (by (with_reducible repeat (first | refine blk_drewN ?_ _ | refine blk_drew ?_ | refine blk_alloc ?_ _)); exact BK387.out), (by (with_reducible repeat (first | refine blk_drewN ?_ _ | refine blk_drew ?_ | refine blk_alloc ?_ _)); exact BK394.out), GW394.out, GE394.out, NB374_394.out, NB394_374.out, NB382_394.out, NB394_382.out, NB387_394.out, NB394_387.out, (by repeat (first | (with_reducible first | exact HB.out | apply below_alloc | apply pw_below_drewN | apply below_drew1 | refine below_set ?_ GE374.out | refine below_set ?_ GE382.out | refine below_set ?_ GE387.out | refine below_set ?_ GE394.out) | exact HB.out))⟩)
                      rintro gb394 w188 ⟨hS_, h0_, h1_, h2_, h3_, h4_, h5_, h6_, h7_, h8_, h9_, h10_, h11_, h12_⟩
                      have n0_ : Aside0 (w188.heap[gb374]? = some (.cells #[.bool a1_0, .string a1_1, .int .i64 a1_2] 23 (0, 0))) := ⟨h0_⟩
                      have n1_ : Aside0 (w188.heap[gb382]? = some (.cells #[.bool t378, .string t379, .int .i64 t380] 23 (0, 0))) := ⟨h1_⟩
                      have n2_ : Aside0 (w188.heap[gb387]? = some (.cells #[.bool t383, .string t384, .int .i64 t385] 23 (0, 0))) := ⟨h2_⟩
                      have n3_ : Aside0 (w188.heap[gb394]? = some (.cells #[.bool false, .string (⟨#[]⟩ : ByteArray), .int .i64 0] 23 (0, 0))) := ⟨h3_⟩
                      have n4_ : Aside0 (w.heap.size ≤ gb394) := ⟨h4_⟩
                      have n5_ : Aside0 (w.heap.size ≤ gb394) := ⟨h5_⟩
                      have n6_ : Aside0 (gb374 ≠ gb394) := ⟨h6_⟩
                      have n7_ : Aside0 (gb394 ≠ gb374) := ⟨h7_⟩
                      have n8_ : Aside0 (gb382 ≠ gb394) := ⟨h8_⟩
                      have n9_ : Aside0 (gb394 ≠ gb382) := ⟨h9_⟩
                      have n10_ : Aside0 (gb387 ≠ gb394) := ⟨h10_⟩
                      have n11_ : Aside0 (gb394 ≠ gb387) := ⟨h11_⟩
                      have n12_ : Aside0 (Below w.heap.size w w188) := ⟨h12_⟩
                      clear BK374
                      clear BK382
                      clear BK387
                      clear HB
                      clear h0_ h1_ h2_ h3_ h4_ h5_ h6_ h7_ h8_ h9_ h10_ h11_ h12_
                      have BK374 := n0_
                      have BK382 := n1_
                      have BK387 := n2_
                      have BK394 := n3_
                      have GW394 := n4_
                      have GE394 := n5_
                      have NB374_394 := n6_
                      have NB394_374 := n7_
                      have NB382_394 := n8_
                      have NB394_382 := n9_
                      have NB387_394 := n10_
                      have NB394_387 := n11_
                      have HB := n12_
                      clear n0_ n1_ n2_ n3_ n4_ n5_ n6_ n7_ n8_ n9_ n10_ n11_ n12_
                      have hHeld : w188.cell? ⟨gb382, 0, none⟩ = some (.bool t378) ∧ w188.cell? ⟨gb382, 1, none⟩ = some (.string t379) ∧ w188.cell? ⟨gb382, 2, none⟩ = some (.int .i64 t380) ∧ w188.cell? ⟨gb374, 0, none⟩ = some (.bool a1_0) ∧ w188.cell? ⟨gb374, 1, none⟩ = some (.string a1_1) ∧ w188.cell? ⟨gb374, 2, none⟩ = some (.int .i64 a1_2) := hS_
                      refine norm_ (a' := ?_) ?_ ?_
                      rotate_left
                      · simp only [putAll, Act.put, List.setIfInBounds_toArray, List.set_cons_zero, List.set_cons_succ]
                        rfl
                      refine one_ (i := 5) (N := none) #[true, true, true, true, true, true] rfl rfl (by kernel_rfl) (by decide) (fun K hK => ?_)
                      have hs189 : w188.cell? ⟨gb394, 0, none⟩ = some (.bool false) := (blk_cell BK394.out 0).trans rfl
                      have hfs189 := blk_frozen BK394.out 0
                      have hns189_0 := NB374_394.out
                      have hns189_1 := NB382_394.out
                      have hns189_2 := NB387_394.out
                      have hms189_0 := NB394_374.out
                      have hms189_1 := NB394_382.out
                      have hms189_2 := NB394_387.out
                      have hs190 : w188.cell? ⟨gb394, 1, none⟩ = some (.string (⟨#[]⟩ : ByteArray)) := (blk_cell BK394.out 1).trans rfl
                      have hfs190 := blk_frozen BK394.out 1
                      have hns190_0 := NB374_394.out
                      have hns190_1 := NB382_394.out
                      have hns190_2 := NB387_394.out
                      have hms190_0 := NB394_374.out
                      have hms190_1 := NB394_382.out
                      have hms190_2 := NB394_387.out
                      have hs191 : w188.cell? ⟨gb394, 2, none⟩ = some (.int .i64 0) := (blk_cell BK394.out 2).trans rfl
                      have hfs191 := blk_frozen BK394.out 2
                      have hns191_0 := NB374_394.out
                      have hns191_1 := NB382_394.out
                      have hns191_2 := NB387_394.out
                      have hms191_0 := NB394_374.out
                      have hms191_1 := NB394_382.out
                      have hms191_2 := NB394_387.out
                      refine skip_ (w1 := ?_) (by rfl) rfl ?_ ?_
                      rotate_left
                      · go_simp
                        rfl
                      refine hK.out _ _ ⟨((cell_far (p := ⟨gb394, _, none⟩) NB382_394.out _).trans (((cell_far (p := ⟨gb394, _, none⟩) NB382_394.out _).trans (((cell_far (p := ⟨gb394, _, none⟩) NB382_394.out _).trans (hHeld.1)))))), ((cell_far (p := ⟨gb394, _, none⟩) NB382_394.out _).trans (((cell_far (p := ⟨gb394, _, none⟩) NB382_394.out _).trans (((cell_far (p := ⟨gb394, _, none⟩) NB382_394.out _).trans (hHeld.2.1)))))), ((cell_far (p := ⟨gb394, _, none⟩) NB382_394.out _).trans (((cell_far (p := ⟨gb394, _, none⟩) NB382_394.out _).trans (((cell_far (p := ⟨gb394, _, none⟩) NB382_394.out _).trans (hHeld.2.2.1)))))), ((cell_far (p := ⟨gb394, _, none⟩) NB374_394.out _).trans (((cell_far (p := ⟨gb394, _, none⟩) NB374_394.out _).trans (((cell_far (p := ⟨gb394, _, none⟩) NB374_394.out _).trans (hHeld.2.2.2.1)))))), ((cell_far (p := ⟨gb394, _, none⟩) NB374_394.out _).trans (((cell_far (p := ⟨gb394, _, none⟩) NB374_394.out _).trans (((cell_far (p := ⟨gb394, _, none⟩) NB374_394.out _).trans (hHeld.2.2.2.2.1)))))), ((cell_far (p := ⟨gb394, _, none⟩) NB374_394.out _).trans (((cell_far (p := ⟨gb394, _, none⟩) NB374_394.out _).trans (((cell_far (p := ⟨gb394, _, none⟩) NB374_394.out _).trans (hHeld.2.2.2.2.2))))))⟩ (fun hHeld => ?_)
                      clear hK K
                      refine done_ (by kernel_rfl) ?_
                      have hnb192 := NB394_374.out
                      have hnc192 := NB374_394.out
                      have hnb193 := NB394_382.out
                      have hnc193 := NB382_394.out
                      have hnb194 := NB394_387.out
                      have hnc194 := NB387_394.out
                      have hcz195_0 : w188.cell? ⟨gb394, 0, none⟩ = some (.bool false) := (blk_cell BK394.out 0).trans rfl
                      have hcz195_1 : w188.cell? ⟨gb394, 1, none⟩ = some (.string (⟨#[]⟩ : ByteArray)) := (blk_cell BK394.out 1).trans rfl
                      have hcz195_2 : w188.cell? ⟨gb394, 2, none⟩ = some (.int .i64 0) := (blk_cell BK394.out 2).trans rfl
                      have hfz195_0 := blk_frozen BK394.out 0
                      have hfz195_1 := blk_frozen BK394.out 1
                      have hfz195_2 := blk_frozen BK394.out 2
                      try go_wp2_with (first | ((with_reducible refine gate_dst (N := 14) rfl ?_); refine box_event ?hg (N := 14) ?hd (cs := #[.bool false, .string (⟨#[]⟩ : ByteArray), .int .i64 0]) (t := 23) ?hr ?_; (case hd => rfl); (case hg => rfl); (case hr => first | (go_simp; done) | (go_simp; rfl)); intro gb395 hg w196 hbox hb; have n0_ := Aside0.mk (blk_below (g := gb374) (o := .cells #[.bool a1_0, .string a1_1, .int .i64 a1_2] 23 (0, 0)) (by (with_reducible repeat (first | refine blk_drewN ?_ _ | refine blk_drew ?_ | refine blk_alloc ?_ _)); refine blk_far ?_ NB374_394.out _; (with_reducible repeat (first | refine blk_drewN ?_ _ | refine blk_drew ?_ | refine blk_alloc ?_ _)); refine blk_far ?_ NB374_394.out _; (with_reducible repeat (first | refine blk_drewN ?_ _ | refine blk_drew ?_ | refine blk_alloc ?_ _)); refine blk_far ?_ NB374_394.out _; (with_reducible repeat (first | refine blk_drewN ?_ _ | refine blk_drew ?_ | refine blk_alloc ?_ _)); exact BK374.out) hb); have n1_ := Aside0.mk (blk_below (g := gb382) (o := .cells #[.bool t378, .string t379, .int .i64 t380] 23 (0, 0)) (by (with_reducible repeat (first | refine blk_drewN ?_ _ | refine blk_drew ?_ | refine blk_alloc ?_ _)); refine blk_far ?_ NB382_394.out _; (with_reducible repeat (first | refine blk_drewN ?_ _ | refine blk_drew ?_ | refine blk_alloc ?_ _)); refine blk_far ?_ NB382_394.out _; (with_reducible repeat (first | refine blk_drewN ?_ _ | refine blk_drew ?_ | refine blk_alloc ?_ _)); refine blk_far ?_ NB382_394.out _; (with_reducible repeat (first | refine blk_drewN ?_ _ | refine blk_drew ?_ | refine blk_alloc ?_ _)); exact BK382.out) hb); have n2_ := Aside0.mk (blk_below (g := gb387) (o := .cells #[.bool t383, .string t384, .int .i64 t385] 23 (0, 0)) (by (with_reducible repeat (first | refine blk_drewN ?_ _ | refine blk_drew ?_ | refine blk_alloc ?_ _)); refine blk_far ?_ NB387_394.out _; (with_reducible repeat (first | refine blk_drewN ?_ _ | refine blk_drew ?_ | refine blk_alloc ?_ _)); refine blk_far ?_ NB387_394.out _; (with_reducible repeat (first | refine blk_drewN ?_ _ | refine blk_drew ?_ | refine blk_alloc ?_ _)); refine blk_far ?_ NB387_394.out _; (with_reducible repeat (first | refine blk_drewN ?_ _ | refine blk_drew ?_ | refine blk_alloc ?_ _)); exact BK387.out) hb); have n3_ := Aside0.mk (blk_below (g := gb394) (o := .cells #[.bool t391, .string t392, .int .i64 t393] 23 (0, 0)) (by (with_reducible repeat (first | refine blk_drewN ?_ _ | refine blk_drew ?_ | refine blk_alloc ?_ _)); refine blk_put (cs := #[.bool t391, .string t392, .int .i64 0]) ?_ 2 _ rfl; (with_reducible repeat (first | refine blk_drewN ?_ _ | refine blk_drew ?_ | refine blk_alloc ?_ _)); refine blk_put (cs := #[.bool t391, .string (⟨#[]⟩ : ByteArray), .int .i64 0]) ?_ 1 _ rfl; (with_reducible repeat (first | refine blk_drewN ?_ _ | refine blk_drew ?_ | refine blk_alloc ?_ _)); refine blk_put (cs := #[.bool false, .string (⟨#[]⟩ : ByteArray), .int .i64 0]) ?_ 0 _ rfl; (with_reducible repeat (first | refine blk_drewN ?_ _ | refine blk_drew ?_ | refine blk_alloc ?_ _)); exact BK394.out) hb); have n4_ := Aside0.mk (below_step (by repeat (first | (with_reducible first | exact HB.out | apply below_alloc | apply pw_below_drewN | apply below_drew1 | refine below_set ?_ GE374.out | refine below_set ?_ GE382.out | refine below_set ?_ GE387.out | refine below_set ?_ GE394.out) | exact HB.out)) hb); have n5_ := Aside0.mk (hbox); have n6_ := Aside0.mk ((by rw [hg]; exact (below_size (by repeat (first | (with_reducible first | exact HB.out | apply below_alloc | apply pw_below_drewN | apply below_drew1 | refine below_set ?_ GE374.out | refine below_set ?_ GE382.out | refine below_set ?_ GE387.out | refine below_set ?_ GE394.out) | exact HB.out))) : w.heap.size ≤ gb395)); have n7_ := Aside0.mk ((by rw [hg]; exact (below_size (by repeat (first | (with_reducible first | exact HB.out | apply below_alloc | apply pw_below_drewN | apply below_drew1 | refine below_set ?_ GE374.out | refine below_set ?_ GE382.out | refine below_set ?_ GE387.out | refine below_set ?_ GE394.out) | exact HB.out))) : w.heap.size ≤ gb395)); have n8_ := Aside0.mk ((by rw [hg]; exact Nat.ne_of_lt (blk_lt (g := gb374) (o := .cells #[.bool a1_0, .string a1_1, .int .i64 a1_2] 23 (0, 0)) (by (with_reducible repeat (first | refine blk_drewN ?_ _ | refine blk_drew ?_ | refine blk_alloc ?_ _)); refine blk_far ?_ NB374_394.out _; (with_reducible repeat (first | refine blk_drewN ?_ _ | refine blk_drew ?_ | refine blk_alloc ?_ _)); refine blk_far ?_ NB374_394.out _; (with_reducible repeat (first | refine blk_drewN ?_ _ | refine blk_drew ?_ | refine blk_alloc ?_ _)); refine blk_far ?_ NB374_394.out _; (with_reducible repeat (first | refine blk_drewN ?_ _ | refine blk_drew ?_ | refine blk_alloc ?_ _)); exact BK374.out)) : gb374 ≠ gb395)); have n9_ := Aside0.mk ((by rw [hg]; exact Nat.ne_of_gt (blk_lt (g := gb374) (o := .cells #[.bool a1_0, .string a1_1, .int .i64 a1_2] 23 (0, 0)) (by (with_reducible repeat (first | refine blk_drewN ?_ _ | refine blk_drew ?_ | refine blk_alloc ?_ _)); refine blk_far ?_ NB374_394.out _; (with_reducible repeat (first | refine blk_drewN ?_ _ | refine blk_drew ?_ | refine blk_alloc ?_ _)); refine blk_far ?_ NB374_394.out _; (with_reducible repeat (first | refine blk_drewN ?_ _ | refine blk_drew ?_ | refine blk_alloc ?_ _)); refine blk_far ?_ NB374_394.out _; (with_reducible repeat (first | refine blk_drewN ?_ _ | refine blk_drew ?_ | refine blk_alloc ?_ _)); exact BK374.out)) : gb395 ≠ gb374)); have n10_ := Aside0.mk ((by rw [hg]; exact Nat.ne_of_lt (blk_lt (g := gb382) (o := .cells #[.bool t378, .string t379, .int .i64 t380] 23 (0, 0)) (by (with_reducible repeat (first | refine blk_drewN ?_ _ | refine blk_drew ?_ | refine blk_alloc ?_ _)); refine blk_far ?_ NB382_394.out _; (with_reducible repeat (first | refine blk_drewN ?_ _ | refine blk_drew ?_ | refine blk_alloc ?_ _)); refine blk_far ?_ NB382_394.out _; (with_reducible repeat (first | refine blk_drewN ?_ _ | refine blk_drew ?_ | refine blk_alloc ?_ _)); refine blk_far ?_ NB382_394.out _; (with_reducible repeat (first | refine blk_drewN ?_ _ | refine blk_drew ?_ | refine blk_alloc ?_ _)); exact BK382.out)) : gb382 ≠ gb395)); have n11_ := Aside0.mk ((by rw [hg]; exact Nat.ne_of_gt (blk_lt (g := gb382) (o := .cells #[.bool t378, .string t379, .int .i64 t380] 23 (0, 0)) (by (with_reducible repeat (first | refine blk_drewN ?_ _ | refine blk_drew ?_ | refine blk_alloc ?_ _)); refine blk_far ?_ NB382_394.out _; (with_reducible repeat (first | refine blk_drewN ?_ _ | refine blk_drew ?_ | refine blk_alloc ?_ _)); refine blk_far ?_ NB382_394.out _; (with_reducible repeat (first | refine blk_drewN ?_ _ | refine blk_drew ?_ | refine blk_alloc ?_ _)); refine blk_far ?_ NB382_394.out _; (with_reducible repeat (first | refine blk_drewN ?_ _ | refine blk_drew ?_ | refine blk_alloc ?_ _)); exact BK382.out)) : gb395 ≠ gb382)); have n12_ := Aside0.mk ((by rw [hg]; exact Nat.ne_of_lt (blk_lt (g := gb387) (o := .cells #[.bool t383, .string t384, .int .i64 t385] 23 (0, 0)) (by (with_reducible repeat (first | refine blk_drewN ?_ _ | refine blk_drew ?_ | refine blk_alloc ?_ _)); refine blk_far ?_ NB387_394.out _; (with_reducible repeat (first | refine blk_drewN ?_ _ | refine blk_drew ?_ | refine blk_alloc ?_ _)); refine blk_far ?_ NB387_394.out _; (with_reducible repeat (first | refine blk_drewN ?_ _ | refine blk_drew ?_ | refine blk_alloc ?_ _)); refine blk_far ?_ NB387_394.out _; (with_reducible repeat (first | refine blk_drewN ?_ _ | refine blk_drew ?_ | refine blk_alloc ?_ _)); exact BK387.out)) : gb387 ≠ gb395)); have n13_ := Aside0.mk ((by rw [hg]; exact Nat.ne_of_gt (blk_lt (g := gb387) (o := .cells #[.bool t383, .string t384, .int .i64 t385] 23 (0, 0)) (by (with_reducible repeat (first | refine blk_drewN ?_ _ | refine blk_drew ?_ | refine blk_alloc ?_ _)); refine blk_far ?_ NB387_394.out _; (with_reducible repeat (first | refine blk_drewN ?_ _ | refine blk_drew ?_ | refine blk_alloc ?_ _)); refine blk_far ?_ NB387_394.out _; (with_reducible repeat (first | refine blk_drewN ?_ _ | refine blk_drew ?_ | refine blk_alloc ?_ _)); refine blk_far ?_ NB387_394.out _; (with_reducible repeat (first | refine blk_drewN ?_ _ | refine blk_drew ?_ | refine blk_alloc ?_ _)); exact BK387.out)) : gb395 ≠ gb387)); have n14_ := Aside0.mk ((by rw [hg]; exact Nat.ne_of_lt (blk_lt (g := gb394) (o := .cells #[.bool t391, .string t392, .int .i64 t393] 23 (0, 0)) (by (with_reducible repeat (first | refine blk_drewN ?_ _ | refine blk_drew ?_ | refine blk_alloc ?_ _)); refine blk_put (cs := #[.bool t391, .string t392, .int .i64 0]) ?_ 2 _ rfl; (with_reducible repeat (first | refine blk_drewN ?_ _ | refine blk_drew ?_ | refine blk_alloc ?_ _)); refine blk_put (cs := #[.bool t391, .string (⟨#[]⟩ : ByteArray), .int .i64 0]) ?_ 1 _ rfl; (with_reducible repeat (first | refine blk_drewN ?_ _ | refine blk_drew ?_ | refine blk_alloc ?_ _)); refine blk_put (cs := #[.bool false, .string (⟨#[]⟩ : ByteArray), .int .i64 0]) ?_ 0 _ rfl; (with_reducible repeat (first | refine blk_drewN ?_ _ | refine blk_drew ?_ | refine blk_alloc ?_ _)); exact BK394.out)) : gb394 ≠ gb395)); have n15_ := Aside0.mk ((by rw [hg]; exact Nat.ne_of_gt (blk_lt (g := gb394) (o := .cells #[.bool t391, .string t392, .int .i64 t393] 23 (0, 0)) (by (with_reducible repeat (first | refine blk_drewN ?_ _ | refine blk_drew ?_ | refine blk_alloc ?_ _)); refine blk_put (cs := #[.bool t391, .string t392, .int .i64 0]) ?_ 2 _ rfl; (with_reducible repeat (first | refine blk_drewN ?_ _ | refine blk_drew ?_ | refine blk_alloc ?_ _)); refine blk_put (cs := #[.bool t391, .string (⟨#[]⟩ : ByteArray), .int .i64 0]) ?_ 1 _ rfl; (with_reducible repeat (first | refine blk_drewN ?_ _ | refine blk_drew ?_ | refine blk_alloc ?_ _)); refine blk_put (cs := #[.bool false, .string (⟨#[]⟩ : ByteArray), .int .i64 0]) ?_ 0 _ rfl; (with_reducible repeat (first | refine blk_drewN ?_ _ | refine blk_drew ?_ | refine blk_alloc ?_ _)); exact BK394.out)) : gb395 ≠ gb394)); clear BK374; clear BK382; clear BK387; clear BK394; clear HB; have BK374 := n0_; have BK382 := n1_; have BK387 := n2_; have BK394 := n3_; have HB := n4_; have BK395 := n5_; have GW395 := n6_; have GE395 := n7_; have NB374_395 := n8_; have NB395_374 := n9_; have NB382_395 := n10_; have NB395_382 := n11_; have NB387_395 := n12_; have NB395_387 := n13_; have NB394_395 := n14_; have NB395_394 := n15_; clear n0_ n1_ n2_ n3_ n4_ n5_ n6_ n7_ n8_ n9_ n10_ n11_ n12_ n13_ n14_ n15_; clear hb hbox hg; have hnb197 := NB395_374.out; have hnc197 := NB374_395.out; have hnb198 := NB395_382.out; have hnc198 := NB382_395.out; have hnb199 := NB395_387.out; have hnc199 := NB387_395.out; have hnb200 := NB395_394.out; have hnc200 := NB394_395.out; have hcz201_0 : w196.cell? ⟨gb395, 0, none⟩ = some (.bool false) := (blk_cell BK395.out 0).trans rfl; have hcz201_1 : w196.cell? ⟨gb395, 1, none⟩ = some (.string (⟨#[]⟩ : ByteArray)) := (blk_cell BK395.out 1).trans rfl; have hcz201_2 : w196.cell? ⟨gb395, 2, none⟩ = some (.int .i64 0) := (blk_cell BK395.out 2).trans rfl; have hfz201_0 := blk_frozen BK395.out 0; have hfz201_1 := blk_frozen BK395.out 1; have hfz201_2 := blk_frozen BK395.out 2) | ((with_reducible refine gate_dst (N := 15) rfl ?_); refine box_event ?hg (N := 15) ?hd (cs := #[.bool false, .string (⟨#[]⟩ : ByteArray), .int .i64 0]) (t := 23) ?hr ?_; (case hd => rfl); (case hg => rfl); (case hr => first | (go_simp; done) | (go_simp; rfl)); intro gb396 hg w202 hbox hb; have n0_ := Aside0.mk (blk_below (g := gb374) (o := .cells #[.bool a1_0, .string a1_1, .int .i64 a1_2] 23 (0, 0)) (by (with_reducible repeat (first | refine blk_drewN ?_ _ | refine blk_drew ?_ | refine blk_alloc ?_ _)); refine blk_far ?_ NB374_395.out _; (with_reducible repeat (first | refine blk_drewN ?_ _ | refine blk_drew ?_ | refine blk_alloc ?_ _)); refine blk_far ?_ NB374_395.out _; (with_reducible repeat (first | refine blk_drewN ?_ _ | refine blk_drew ?_ | refine blk_alloc ?_ _)); refine blk_far ?_ NB374_395.out _; (with_reducible repeat (first | refine blk_drewN ?_ _ | refine blk_drew ?_ | refine blk_alloc ?_ _)); refine blk_far ?_ NB374_395.out _; (with_reducible repeat (first | refine blk_drewN ?_ _ | refine blk_drew ?_ | refine blk_alloc ?_ _)); exact BK374.out) hb); have n1_ := Aside0.mk (blk_below (g := gb382) (o := .cells #[.bool t378, .string t379, .int .i64 t380] 23 (0, 0)) (by (with_reducible repeat (first | refine blk_drewN ?_ _ | refine blk_drew ?_ | refine blk_alloc ?_ _)); refine blk_far ?_ NB382_395.out _; (with_reducible repeat (first | refine blk_drewN ?_ _ | refine blk_drew ?_ | refine blk_alloc ?_ _)); refine blk_far ?_ NB382_395.out _; (with_reducible repeat (first | refine blk_drewN ?_ _ | refine blk_drew ?_ | refine blk_alloc ?_ _)); refine blk_far ?_ NB382_395.out _; (with_reducible repeat (first | refine blk_drewN ?_ _ | refine blk_drew ?_ | refine blk_alloc ?_ _)); refine blk_far ?_ NB382_395.out _; (with_reducible repeat (first | refine blk_drewN ?_ _ | refine blk_drew ?_ | refine blk_alloc ?_ _)); exact BK382.out) hb); have n2_ := Aside0.mk (blk_below (g := gb387) (o := .cells #[.bool t383, .string t384, .int .i64 t385] 23 (0, 0)) (by (with_reducible repeat (first | refine blk_drewN ?_ _ | refine blk_drew ?_ | refine blk_alloc ?_ _)); refine blk_far ?_ NB387_395.out _; (with_reducible repeat (first | refine blk_drewN ?_ _ | refine blk_drew ?_ | refine blk_alloc ?_ _)); refine blk_far ?_ NB387_395.out _; (with_reducible repeat (first | refine blk_drewN ?_ _ | refine blk_drew ?_ | refine blk_alloc ?_ _)); refine blk_far ?_ NB387_395.out _; (with_reducible repeat (first | refine blk_drewN ?_ _ | refine blk_drew ?_ | refine blk_alloc ?_ _)); refine blk_far ?_ NB387_395.out _; (with_reducible repeat (first | refine blk_drewN ?_ _ | refine blk_drew ?_ | refine blk_alloc ?_ _)); exact BK387.out) hb); have n3_ := Aside0.mk (blk_below (g := gb394) (o := .cells #[.bool t391, .string t392, .int .i64 t393] 23 (0, 0)) (by (with_reducible repeat (first | refine blk_drewN ?_ _ | refine blk_drew ?_ | refine blk_alloc ?_ _)); refine blk_far ?_ NB394_395.out _; (with_reducible repeat (first | refine blk_drewN ?_ _ | refine blk_drew ?_ | refine blk_alloc ?_ _)); refine blk_far ?_ NB394_395.out _; (with_reducible repeat (first | refine blk_drewN ?_ _ | refine blk_drew ?_ | refine blk_alloc ?_ _)); refine blk_far ?_ NB394_395.out _; (with_reducible repeat (first | refine blk_drewN ?_ _ | refine blk_drew ?_ | refine blk_alloc ?_ _)); refine blk_far ?_ NB394_395.out _; (with_reducible repeat (first | refine blk_drewN ?_ _ | refine blk_drew ?_ | refine blk_alloc ?_ _)); exact BK394.out) hb); have n4_ := Aside0.mk (blk_below (g := gb395) (o := .cells #[.bool false, .string t392, .int .i64 t393] 23 (0, 0)) (by (with_reducible repeat (first | refine blk_drewN ?_ _ | refine blk_drew ?_ | refine blk_alloc ?_ _)); refine blk_put (cs := #[.bool t391, .string t392, .int .i64 t393]) ?_ 0 _ rfl; (with_reducible repeat (first | refine blk_drewN ?_ _ | refine blk_drew ?_ | refine blk_alloc ?_ _)); refine blk_put (cs := #[.bool t391, .string t392, .int .i64 0]) ?_ 2 _ rfl; (with_reducible repeat (first | refine blk_drewN ?_ _ | refine blk_drew ?_ | refine blk_alloc ?_ _)); refine blk_put (cs := #[.bool t391, .string (⟨#[]⟩ : ByteArray), .int .i64 0]) ?_ 1 _ rfl; (with_reducible repeat (first | refine blk_drewN ?_ _ | refine blk_drew ?_ | refine blk_alloc ?_ _)); refine blk_put (cs := #[.bool false, .string (⟨#[]⟩ : ByteArray), .int .i64 0]) ?_ 0 _ rfl; (with_reducible repeat (first | refine blk_drewN ?_ _ | refine blk_drew ?_ | refine blk_alloc ?_ _)); exact BK395.out) hb); have n5_ := Aside0.mk (below_step (by repeat (first | (with_reducible first | exact HB.out | apply below_alloc | apply pw_below_drewN | apply below_drew1 | refine below_set ?_ GE374.out | refine below_set ?_ GE382.out | refine below_set ?_ GE387.out | refine below_set ?_ GE394.out | refine below_set ?_ GE395.out) | exact HB.out)) hb); have n6_ := Aside0.mk (hbox); have n7_ := Aside0.mk ((by rw [hg]; exact (below_size (by repeat (first | (with_reducible first | exact HB.out | apply below_alloc | apply pw_below_drewN | apply below_drew1 | refine below_set ?_ GE374.out | refine below_set ?_ GE382.out | refine below_set ?_ GE387.out | refine below_set ?_ GE394.out | refine below_set ?_ GE395.out) | exact HB.out))) : w.heap.size ≤ gb396)); have n8_ := Aside0.mk ((by rw [hg]; exact (below_size (by repeat (first | (with_reducible first | exact HB.out | apply below_alloc | apply pw_below_drewN | apply below_drew1 | refine below_set ?_ GE374.out | refine below_set ?_ GE382.out | refine below_set ?_ GE387.out | refine below_set ?_ GE394.out | refine below_set ?_ GE395.out) | exact HB.out))) : w.heap.size ≤ gb396)); have n9_ := Aside0.mk ((by rw [hg]; exact Nat.ne_of_lt (blk_lt (g := gb374) (o := .cells #[.bool a1_0, .string a1_1, .int .i64 a1_2] 23 (0, 0)) (by (with_reducible repeat (first | refine blk_drewN ?_ _ | refine blk_drew ?_ | refine blk_alloc ?_ _)); refine blk_far ?_ NB374_395.out _; (with_reducible repeat (first | refine blk_drewN ?_ _ | refine blk_drew ?_ | refine blk_alloc ?_ _)); refine blk_far ?_ NB374_395.out _; (with_reducible repeat (first | refine blk_drewN ?_ _ | refine blk_drew ?_ | refine blk_alloc ?_ _)); refine blk_far ?_ NB374_395.out _; (with_reducible repeat (first | refine blk_drewN ?_ _ | refine blk_drew ?_ | refine blk_alloc ?_ _)); refine blk_far ?_ NB374_395.out _; (with_reducible repeat (first | refine blk_drewN ?_ _ | refine blk_drew ?_ | refine blk_alloc ?_ _)); exact BK374.out)) : gb374 ≠ gb396)); have n10_ := Aside0.mk ((by rw [hg]; exact Nat.ne_of_gt (blk_lt (g := gb374) (o := .cells #[.bool a1_0, .string a1_1, .int .i64 a1_2] 23 (0, 0)) (by (with_reducible repeat (first | refine blk_drewN ?_ _ | refine blk_drew ?_ | refine blk_alloc ?_ _)); refine blk_far ?_ NB374_395.out _; (with_reducible repeat (first | refine blk_drewN ?_ _ | refine blk_drew ?_ | refine blk_alloc ?_ _)); refine blk_far ?_ NB374_395.out _; (with_reducible repeat (first | refine blk_drewN ?_ _ | refine blk_drew ?_ | refine blk_alloc ?_ _)); refine blk_far ?_ NB374_395.out _; (with_reducible repeat (first | refine blk_drewN ?_ _ | refine blk_drew ?_ | refine blk_alloc ?_ _)); refine blk_far ?_ NB374_395.out _; (with_reducible repeat (first | refine blk_drewN ?_ _ | refine blk_drew ?_ | refine blk_alloc ?_ _)); exact BK374.out)) : gb396 ≠ gb374)); have n11_ := Aside0.mk ((by rw [hg]; exact Nat.ne_of_lt (blk_lt (g := gb382) (o := .cells #[.bool t378, .string t379, .int .i64 t380] 23 (0, 0)) (by (with_reducible repeat (first | refine blk_drewN ?_ _ | refine blk_drew ?_ | refine blk_alloc ?_ _)); refine blk_far ?_ NB382_395.out _; (with_reducible repeat (first | refine blk_drewN ?_ _ | refine blk_drew ?_ | refine blk_alloc ?_ _)); refine blk_far ?_ NB382_395.out _; (with_reducible repeat (first | refine blk_drewN ?_ _ | refine blk_drew ?_ | refine blk_alloc ?_ _)); refine blk_far ?_ NB382_395.out _; (with_reducible repeat (first | refine blk_drewN ?_ _ | refine blk_drew ?_ | refine blk_alloc ?_ _)); refine blk_far ?_ NB382_395.out _; (with_reducible repeat (first | refine blk_drewN ?_ _ | refine blk_drew ?_ | refine blk_alloc ?_ _)); exact BK382.out)) : gb382 ≠ gb396)); have n12_ := Aside0.mk ((by rw [hg]; exact Nat.ne_of_gt (blk_lt (g := gb382) (o := .cells #[.bool t378, .string t379, .int .i64 t380] 23 (0, 0)) (by (with_reducible repeat (first | refine blk_drewN ?_ _ | refine blk_drew ?_ | refine blk_alloc ?_ _)); refine blk_far ?_ NB382_395.out _; (with_reducible repeat (first | refine blk_drewN ?_ _ | refine blk_drew ?_ | refine blk_alloc ?_ _)); refine blk_far ?_ NB382_395.out _; (with_reducible repeat (first | refine blk_drewN ?_ _ | refine blk_drew ?_ | refine blk_alloc ?_ _)); refine blk_far ?_ NB382_395.out _; (with_reducible repeat (first | refine blk_drewN ?_ _ | refine blk_drew ?_ | refine blk_alloc ?_ _)); refine blk_far ?_ NB382_395.out _; (with_reducible repeat (first | refine blk_drewN ?_ _ | refine blk_drew ?_ | refine blk_alloc ?_ _)); exact BK382.out)) : gb396 ≠ gb382)); have n13_ := Aside0.mk ((by rw [hg]; exact Nat.ne_of_lt (blk_lt (g := gb387) (o := .cells #[.bool t383, .string t384, .int .i64 t385] 23 (0, 0)) (by (with_reducible repeat (first | refine blk_drewN ?_ _ | refine blk_drew ?_ | refine blk_alloc ?_ _)); refine blk_far ?_ NB387_395.out _; (with_reducible repeat (first | refine blk_drewN ?_ _ | refine blk_drew ?_ | refine blk_alloc ?_ _)); refine blk_far ?_ NB387_395.out _; (with_reducible repeat (first | refine blk_drewN ?_ _ | refine blk_drew ?_ | refine blk_alloc ?_ _)); refine blk_far ?_ NB387_395.out _; (with_reducible repeat (first | refine blk_drewN ?_ _ | refine blk_drew ?_ | refine blk_alloc ?_ _)); refine blk_far ?_ NB387_395.out _; (with_reducible repeat (first | refine blk_drewN ?_ _ | refine blk_drew ?_ | refine blk_alloc ?_ _)); exact BK387.out)) : gb387 ≠ gb396)); have n14_ := Aside0.mk ((by rw [hg]; exact Nat.ne_of_gt (blk_lt (g := gb387) (o := .cells #[.bool t383, .string t384, .int .i64 t385] 23 (0, 0)) (by (with_reducible repeat (first | refine blk_drewN ?_ _ | refine blk_drew ?_ | refine blk_alloc ?_ _)); refine blk_far ?_ NB387_395.out _; (with_reducible repeat (first | refine blk_drewN ?_ _ | refine blk_drew ?_ | refine blk_alloc ?_ _)); refine blk_far ?_ NB387_395.out _; (with_reducible repeat (first | refine blk_drewN ?_ _ | refine blk_drew ?_ | refine blk_alloc ?_ _)); refine blk_far ?_ NB387_395.out _; (with_reducible repeat (first | refine blk_drewN ?_ _ | refine blk_drew ?_ | refine blk_alloc ?_ _)); refine blk_far ?_ NB387_395.out _; (with_reducible repeat (first | refine blk_drewN ?_ _ | refine blk_drew ?_ | refine blk_alloc ?_ _)); exact BK387.out)) : gb396 ≠ gb387)); have n15_ := Aside0.mk ((by rw [hg]; exact Nat.ne_of_lt (blk_lt (g := gb394) (o := .cells #[.bool t391, .string t392, .int .i64 t393] 23 (0, 0)) (by (with_reducible repeat (first | refine blk_drewN ?_ _ | refine blk_drew ?_ | refine blk_alloc ?_ _)); refine blk_far ?_ NB394_395.out _; (with_reducible repeat (first | refine blk_drewN ?_ _ | refine blk_drew ?_ | refine blk_alloc ?_ _)); refine blk_far ?_ NB394_395.out _; (with_reducible repeat (first | refine blk_drewN ?_ _ | refine blk_drew ?_ | refine blk_alloc ?_ _)); refine blk_far ?_ NB394_395.out _; (with_reducible repeat (first | refine blk_drewN ?_ _ | refine blk_drew ?_ | refine blk_alloc ?_ _)); refine blk_far ?_ NB394_395.out _; (with_reducible repeat (first | refine blk_drewN ?_ _ | refine blk_drew ?_ | refine blk_alloc ?_ _)); exact BK394.out)) : gb394 ≠ gb396)); have n16_ := Aside0.mk ((by rw [hg]; exact Nat.ne_of_gt (blk_lt (g := gb394) (o := .cells #[.bool t391, .string t392, .int .i64 t393] 23 (0, 0)) (by (with_reducible repeat (first | refine blk_drewN ?_ _ | refine blk_drew ?_ | refine blk_alloc ?_ _)); refine blk_far ?_ NB394_395.out _; (with_reducible repeat (first | refine blk_drewN ?_ _ | refine blk_drew ?_ | refine blk_alloc ?_ _)); refine blk_far ?_ NB394_395.out _; (with_reducible repeat (first | refine blk_drewN ?_ _ | refine blk_drew ?_ | refine blk_alloc ?_ _)); refine blk_far ?_ NB394_395.out _; (with_reducible repeat (first | refine blk_drewN ?_ _ | refine blk_drew ?_ | refine blk_alloc ?_ _)); refine blk_far ?_ NB394_395.out _; (with_reducible repeat (first | refine blk_drewN ?_ _ | refine blk_drew ?_ | refine blk_alloc ?_ _)); exact BK394.out)) : gb396 ≠ gb394)); have n17_ := Aside0.mk ((by rw [hg]; exact Nat.ne_of_lt (blk_lt (g := gb395) (o := .cells #[.bool false, .string t392, .int .i64 t393] 23 (0, 0)) (by (with_reducible repeat (first | refine blk_drewN ?_ _ | refine blk_drew ?_ | refine blk_alloc ?_ _)); refine blk_put (cs := #[.bool t391, .string t392, .int .i64 t393]) ?_ 0 _ rfl; (with_reducible repeat (first | refine blk_drewN ?_ _ | refine blk_drew ?_ | refine blk_alloc ?_ _)); refine blk_put (cs := #[.bool t391, .string t392, .int .i64 0]) ?_ 2 _ rfl; (with_reducible repeat (first | refine blk_drewN ?_ _ | refine blk_drew ?_ | refine blk_alloc ?_ _)); refine blk_put (cs := #[.bool t391, .string (⟨#[]⟩ : ByteArray), .int .i64 0]) ?_ 1 _ rfl; (with_reducible repeat (first | refine blk_drewN ?_ _ | refine blk_drew ?_ | refine blk_alloc ?_ _)); refine blk_put (cs := #[.bool false, .string (⟨#[]⟩ : ByteArray), .int .i64 0]) ?_ 0 _ rfl; (with_reducible repeat (first | refine blk_drewN ?_ _ | refine blk_drew ?_ | refine blk_alloc ?_ _)); exact BK395.out)) : gb395 ≠ gb396)); have n18_ := Aside0.mk ((by rw [hg]; exact Nat.ne_of_gt (blk_lt (g := gb395) (o := .cells #[.bool false, .string t392, .int .i64 t393] 23 (0, 0)) (by (with_reducible repeat (first | refine blk_drewN ?_ _ | refine blk_drew ?_ | refine blk_alloc ?_ _)); refine blk_put (cs := #[.bool t391, .string t392, .int .i64 t393]) ?_ 0 _ rfl; (with_reducible repeat (first | refine blk_drewN ?_ _ | refine blk_drew ?_ | refine blk_alloc ?_ _)); refine blk_put (cs := #[.bool t391, .string t392, .int .i64 0]) ?_ 2 _ rfl; (with_reducible repeat (first | refine blk_drewN ?_ _ | refine blk_drew ?_ | refine blk_alloc ?_ _)); refine blk_put (cs := #[.bool t391, .string (⟨#[]⟩ : ByteArray), .int .i64 0]) ?_ 1 _ rfl; (with_reducible repeat (first | refine blk_drewN ?_ _ | refine blk_drew ?_ | refine blk_alloc ?_ _)); refine blk_put (cs := #[.bool false, .string (⟨#[]⟩ : ByteArray), .int .i64 0]) ?_ 0 _ rfl; (with_reducible repeat (first | refine blk_drewN ?_ _ | refine blk_drew ?_ | refine blk_alloc ?_ _)); exact BK395.out)) : gb396 ≠ gb395)); clear BK374; clear BK382; clear BK387; clear BK394; clear BK395; clear HB; have BK374 := n0_; have BK382 := n1_; have BK387 := n2_; have BK394 := n3_; have BK395 := n4_; have HB := n5_; have BK396 := n6_; have GW396 := n7_; have GE396 := n8_; have NB374_396 := n9_; have NB396_374 := n10_; have NB382_396 := n11_; have NB396_382 := n12_; have NB387_396 := n13_; have NB396_387 := n14_; have NB394_396 := n15_; have NB396_394 := n16_; have NB395_396 := n17_; have NB396_395 := n18_; clear n0_ n1_ n2_ n3_ n4_ n5_ n6_ n7_ n8_ n9_ n10_ n11_ n12_ n13_ n14_ n15_ n16_ n17_ n18_; clear hb hbox hg; have hnb203 := NB396_374.out; have hnc203 := NB374_396.out; have hnb204 := NB396_382.out; have hnc204 := NB382_396.out; have hnb205 := NB396_387.out; have hnc205 := NB387_396.out; have hnb206 := NB396_394.out; have hnc206 := NB394_396.out; have hnb207 := NB396_395.out; have hnc207 := NB395_396.out; have hcz208_0 : w202.cell? ⟨gb396, 0, none⟩ = some (.bool false) := (blk_cell BK396.out 0).trans rfl; have hcz208_1 : w202.cell? ⟨gb396, 1, none⟩ = some (.string (⟨#[]⟩ : ByteArray)) := (blk_cell BK396.out 1).trans rfl; have hcz208_2 : w202.cell? ⟨gb396, 2, none⟩ = some (.int .i64 0) := (blk_cell BK396.out 2).trans rfl; have hfz208_0 := blk_frozen BK396.out 0; have hfz208_1 := blk_frozen BK396.out 1; have hfz208_2 := blk_frozen BK396.out 2))
                      have n0_ : Aside0 ((((w202.setCell ⟨gb396, 0, none⟩ (.bool false)).setCell ⟨gb396, 1, none⟩ (.string a2)).setCell ⟨gb396, 2, none⟩ (.int .i64 a3)).heap[gb374]? = some (.cells #[.bool a1_0, .string a1_1, .int .i64 a1_2] 23 (0, 0))) := ⟨by (with_reducible repeat (first | refine blk_drewN ?_ _ | refine blk_drew ?_ | refine blk_alloc ?_ _)); refine blk_far ?_ NB374_396.out _; (with_reducible repeat (first | refine blk_drewN ?_ _ | refine blk_drew ?_ | refine blk_alloc ?_ _)); refine blk_far ?_ NB374_396.out _; (with_reducible repeat (first | refine blk_drewN ?_ _ | refine blk_drew ?_ | refine blk_alloc ?_ _)); refine blk_far ?_ NB374_396.out _; (with_reducible repeat (first | refine blk_drewN ?_ _ | refine blk_drew ?_ | refine blk_alloc ?_ _)); exact BK374.out⟩
                      have n1_ : Aside0 ((((w202.setCell ⟨gb396, 0, none⟩ (.bool false)).setCell ⟨gb396, 1, none⟩ (.string a2)).setCell ⟨gb396, 2, none⟩ (.int .i64 a3)).heap[gb382]? = some (.cells #[.bool t378, .string t379, .int .i64 t380] 23 (0, 0))) := ⟨by (with_reducible repeat (first | refine blk_drewN ?_ _ | refine blk_drew ?_ | refine blk_alloc ?_ _)); refine blk_far ?_ NB382_396.out _; (with_reducible repeat (first | refine blk_drewN ?_ _ | refine blk_drew ?_ | refine blk_alloc ?_ _)); refine blk_far ?_ NB382_396.out _; (with_reducible repeat (first | refine blk_drewN ?_ _ | refine blk_drew ?_ | refine blk_alloc ?_ _)); refine blk_far ?_ NB382_396.out _; (with_reducible repeat (first | refine blk_drewN ?_ _ | refine blk_drew ?_ | refine blk_alloc ?_ _)); exact BK382.out⟩
                      have n2_ : Aside0 ((((w202.setCell ⟨gb396, 0, none⟩ (.bool false)).setCell ⟨gb396, 1, none⟩ (.string a2)).setCell ⟨gb396, 2, none⟩ (.int .i64 a3)).heap[gb387]? = some (.cells #[.bool t383, .string t384, .int .i64 t385] 23 (0, 0))) := ⟨by (with_reducible repeat (first | refine blk_drewN ?_ _ | refine blk_drew ?_ | refine blk_alloc ?_ _)); refine blk_far ?_ NB387_396.out _; (with_reducible repeat (first | refine blk_drewN ?_ _ | refine blk_drew ?_ | refine blk_alloc ?_ _)); refine blk_far ?_ NB387_396.out _; (with_reducible repeat (first | refine blk_drewN ?_ _ | refine blk_drew ?_ | refine blk_alloc ?_ _)); refine blk_far ?_ NB387_396.out _; (with_reducible repeat (first | refine blk_drewN ?_ _ | refine blk_drew ?_ | refine blk_alloc ?_ _)); exact BK387.out⟩
                      have n3_ : Aside0 ((((w202.setCell ⟨gb396, 0, none⟩ (.bool false)).setCell ⟨gb396, 1, none⟩ (.string a2)).setCell ⟨gb396, 2, none⟩ (.int .i64 a3)).heap[gb394]? = some (.cells #[.bool t391, .string t392, .int .i64 t393] 23 (0, 0))) := ⟨by (with_reducible repeat (first | refine blk_drewN ?_ _ | refine blk_drew ?_ | refine blk_alloc ?_ _)); refine blk_far ?_ NB394_396.out _; (with_reducible repeat (first | refine blk_drewN ?_ _ | refine blk_drew ?_ | refine blk_alloc ?_ _)); refine blk_far ?_ NB394_396.out _; (with_reducible repeat (first | refine blk_drewN ?_ _ | refine blk_drew ?_ | refine blk_alloc ?_ _)); refine blk_far ?_ NB394_396.out _; (with_reducible repeat (first | refine blk_drewN ?_ _ | refine blk_drew ?_ | refine blk_alloc ?_ _)); exact BK394.out⟩
                      have n4_ : Aside0 ((((w202.setCell ⟨gb396, 0, none⟩ (.bool false)).setCell ⟨gb396, 1, none⟩ (.string a2)).setCell ⟨gb396, 2, none⟩ (.int .i64 a3)).heap[gb395]? = some (.cells #[.bool false, .string t392, .int .i64 t393] 23 (0, 0))) := ⟨by (with_reducible repeat (first | refine blk_drewN ?_ _ | refine blk_drew ?_ | refine blk_alloc ?_ _)); refine blk_far ?_ NB395_396.out _; (with_reducible repeat (first | refine blk_drewN ?_ _ | refine blk_drew ?_ | refine blk_alloc ?_ _)); refine blk_far ?_ NB395_396.out _; (with_reducible repeat (first | refine blk_drewN ?_ _ | refine blk_drew ?_ | refine blk_alloc ?_ _)); refine blk_far ?_ NB395_396.out _; (with_reducible repeat (first | refine blk_drewN ?_ _ | refine blk_drew ?_ | refine blk_alloc ?_ _)); exact BK395.out⟩
                      have n5_ : Aside0 ((((w202.setCell ⟨gb396, 0, none⟩ (.bool false)).setCell ⟨gb396, 1, none⟩ (.string a2)).setCell ⟨gb396, 2, none⟩ (.int .i64 a3)).heap[gb396]? = some (.cells #[.bool false, .string a2, .int .i64 a3] 23 (0, 0))) := ⟨by (with_reducible repeat (first | refine blk_drewN ?_ _ | refine blk_drew ?_ | refine blk_alloc ?_ _)); refine blk_put (cs := #[.bool false, .string a2, .int .i64 0]) ?_ 2 _ rfl; (with_reducible repeat (first | refine blk_drewN ?_ _ | refine blk_drew ?_ | refine blk_alloc ?_ _)); refine blk_put (cs := #[.bool false, .string (⟨#[]⟩ : ByteArray), .int .i64 0]) ?_ 1 _ rfl; (with_reducible repeat (first | refine blk_drewN ?_ _ | refine blk_drew ?_ | refine blk_alloc ?_ _)); refine blk_put (cs := #[.bool false, .string (⟨#[]⟩ : ByteArray), .int .i64 0]) ?_ 0 _ rfl; (with_reducible repeat (first | refine blk_drewN ?_ _ | refine blk_drew ?_ | refine blk_alloc ?_ _)); exact BK396.out⟩
                      have n6_ : Aside0 (Below w.heap.size w (((w202.setCell ⟨gb396, 0, none⟩ (.bool false)).setCell ⟨gb396, 1, none⟩ (.string a2)).setCell ⟨gb396, 2, none⟩ (.int .i64 a3))) := ⟨by repeat (first | (with_reducible first | exact HB.out | apply below_alloc | apply pw_below_drewN | apply below_drew1 | refine below_set ?_ GE374.out | refine below_set ?_ GE382.out | refine below_set ?_ GE387.out | refine below_set ?_ GE394.out | refine below_set ?_ GE395.out | refine below_set ?_ GE396.out) | exact HB.out)⟩
                      (try clear BK374)
                      (try clear BK382)
                      (try clear BK387)
                      (try clear BK394)
                      (try clear BK395)
                      (try clear BK396)
                      (try clear HB)
                      generalize (((w202.setCell ⟨gb396, 0, none⟩ (.bool false)).setCell ⟨gb396, 1, none⟩ (.string a2)).setCell ⟨gb396, 2, none⟩ (.int .i64 a3)) = w209 at n0_ n1_ n2_ n3_ n4_ n5_ n6_ ⊢
                      have BK374 := n0_
                      have BK382 := n1_
                      have BK387 := n2_
                      have BK394 := n3_
                      have BK395 := n4_
                      have BK396 := n5_
                      have HB := n6_
                      clear n0_ n1_ n2_ n3_ n4_ n5_ n6_
                      (try (rw [drewN_self w209]; generalize hq_ : World.drewN w209 _ = w209; have n0_ : Aside0 (w209.heap[gb374]? = some (.cells #[.bool a1_0, .string a1_1, .int .i64 a1_2] 23 (0, 0))) := ⟨by rw [← hq_]; exact (by (with_reducible repeat (first | refine blk_drewN ?_ _ | refine blk_drew ?_ | refine blk_alloc ?_ _)); exact BK374.out)⟩; have n1_ : Aside0 (w209.heap[gb382]? = some (.cells #[.bool t378, .string t379, .int .i64 t380] 23 (0, 0))) := ⟨by rw [← hq_]; exact (by (with_reducible repeat (first | refine blk_drewN ?_ _ | refine blk_drew ?_ | refine blk_alloc ?_ _)); exact BK382.out)⟩; have n2_ : Aside0 (w209.heap[gb387]? = some (.cells #[.bool t383, .string t384, .int .i64 t385] 23 (0, 0))) := ⟨by rw [← hq_]; exact (by (with_reducible repeat (first | refine blk_drewN ?_ _ | refine blk_drew ?_ | refine blk_alloc ?_ _)); exact BK387.out)⟩; have n3_ : Aside0 (w209.heap[gb394]? = some (.cells #[.bool t391, .string t392, .int .i64 t393] 23 (0, 0))) := ⟨by rw [← hq_]; exact (by (with_reducible repeat (first | refine blk_drewN ?_ _ | refine blk_drew ?_ | refine blk_alloc ?_ _)); exact BK394.out)⟩; have n4_ : Aside0 (w209.heap[gb395]? = some (.cells #[.bool false, .string t392, .int .i64 t393] 23 (0, 0))) := ⟨by rw [← hq_]; exact (by (with_reducible repeat (first | refine blk_drewN ?_ _ | refine blk_drew ?_ | refine blk_alloc ?_ _)); exact BK395.out)⟩; have n5_ : Aside0 (w209.heap[gb396]? = some (.cells #[.bool false, .string a2, .int .i64 a3] 23 (0, 0))) := ⟨by rw [← hq_]; exact (by (with_reducible repeat (first | refine blk_drewN ?_ _ | refine blk_drew ?_ | refine blk_alloc ?_ _)); exact BK396.out)⟩; have n6_ : Aside0 (Below w.heap.size w w209) := ⟨by rw [← hq_]; exact (by repeat (first | (with_reducible first | exact HB.out | apply below_alloc | apply pw_below_drewN | apply below_drew1 | refine below_set ?_ GE374.out | refine below_set ?_ GE382.out | refine below_set ?_ GE387.out | refine below_set ?_ GE394.out | refine below_set ?_ GE395.out | refine below_set ?_ GE396.out) | exact HB.out))⟩; clear BK374 BK382 BK387 BK394 BK395 BK396 HB hq_; have BK374 := n0_; have BK382 := n1_; have BK387 := n2_; have BK394 := n3_; have BK395 := n4_; have BK396 := n5_; have HB := n6_; clear n0_ n1_ n2_ n3_ n4_ n5_ n6_))
                      have n0_ := Aside0.mk (blk_drew BK374.out)
                      have n1_ := Aside0.mk (blk_drew BK382.out)
                      have n2_ := Aside0.mk (blk_drew BK387.out)
                      have n3_ := Aside0.mk (blk_drew BK394.out)
                      have n4_ := Aside0.mk (blk_drew BK395.out)
                      have n5_ := Aside0.mk (blk_drew BK396.out)
                      have n6_ := Aside0.mk (below_drew1 HB.out)
                      clear BK374
                      clear BK382
                      clear BK387
                      clear BK394
                      clear BK395
                      clear BK396
                      clear HB
                      have BK374 := n0_
                      have BK382 := n1_
                      have BK387 := n2_
                      have BK394 := n3_
                      have BK395 := n4_
                      have BK396 := n5_
                      have HB := n6_
                      clear n0_ n1_ n2_ n3_ n4_ n5_ n6_
                      refine start_ (n := 29) (S := fun w' => w'.cell? ⟨gb387, 0, none⟩ = some (.bool t383) ∧ w'.cell? ⟨gb387, 1, none⟩ = some (.string t384) ∧ w'.cell? ⟨gb387, 2, none⟩ = some (.int .i64 t385) ∧ w'.cell? ⟨gb382, 0, none⟩ = some (.bool t378) ∧ w'.cell? ⟨gb382, 1, none⟩ = some (.string t379) ∧ w'.cell? ⟨gb382, 2, none⟩ = some (.int .i64 t380) ∧ w'.cell? ⟨gb395, 0, none⟩ = some (.bool false) ∧ w'.cell? ⟨gb395, 1, none⟩ = some (.string t392) ∧ w'.cell? ⟨gb395, 2, none⟩ = some (.int .i64 t393) ∧ w'.cell? ⟨gb396, 0, none⟩ = some (.bool false) ∧ w'.cell? ⟨gb396, 1, none⟩ = some (.string a2) ∧ w'.cell? ⟨gb396, 2, none⟩ = some (.int .i64 a3)) (ds := []) #[false, false, false, false, false, false, false, false, false, false, false, false, false, false, false, false, false, false, false, false, false, false, false, false, false, false, false, false, false] (by kernel_rfl) rfl rfl ⟨(blk_cell BK387.out 0).trans rfl, (blk_cell BK387.out 1).trans rfl, (blk_cell BK387.out 2).trans rfl, (blk_cell BK382.out 0).trans rfl, (blk_cell BK382.out 1).trans rfl, (blk_cell BK382.out 2).trans rfl, (blk_cell BK395.out 0).trans rfl, (blk_cell BK395.out 1).trans rfl, (blk_cell BK395.out 2).trans rfl, (blk_cell BK396.out 0).trans rfl, (blk_cell BK396.out 1).trans rfl, (blk_cell BK396.out 2).trans rfl⟩ (fun hHeld => ?_); refine with_tabW figureheadlaw10_IncNear.tab9 figureheadlaw10_IncNear.bits9 (fun HT_ HW_ => ?_)
                      generalize w209.drew = w210 at BK374 BK382 BK387 BK394 BK395 BK396 HB hHeld ⊢
                      refine pure_ (i := 0) (N := some 58) (v := ?_) (a' := ?_) #[true, false, false, false, false, false, false, false, false, false, false, false, false, false, false, false, false, false, false, false, false, false, false, false, false, false, false, false, false] rfl rfl (any_of HT_.out (by kernel_rfl)) (fun _ _ _ h => h) (Or.inl ⟨by rfl, ?_⟩) ?_ ?_
                      rotate_left
                      · intro w'
                        go_simp
                        with_reducible rfl
                      rotate_left
                      · simp only [Act.put, List.setIfInBounds_toArray, List.set_cons_zero, List.set_cons_succ]; (try simp only [i64_w]); (try simp only [i32_w])
                        rfl
                      refine pure_ (i := 1) (N := some 59) (v := ?_) (a' := ?_) #[true, true, false, false, false, false, false, false, false, false, false, false, false, false, false, false, false, false, false, false, false, false, false, false, false, false, false, false, false] rfl rfl (any_of HT_.out (by kernel_rfl)) (fun _ _ _ h => h) (Or.inl ⟨by rfl, ?_⟩) ?_ ?_
                      rotate_left
                      · intro w'
                        go_simp
                        with_reducible rfl
                      rotate_left
                      · simp only [Act.put, List.setIfInBounds_toArray, List.set_cons_zero, List.set_cons_succ]; (try simp only [i64_w]); (try simp only [i32_w])
                        rfl
                      refine pure_ (i := 2) (N := some 60) (v := ?_) (a' := ?_) #[true, true, true, false, false, false, false, false, false, false, false, false, false, false, false, false, false, false, false, false, false, false, false, false, false, false, false, false, false] rfl rfl (any_of HT_.out (by kernel_rfl)) (fun _ _ _ h => h) (Or.inl ⟨by rfl, ?_⟩) ?_ ?_
                      rotate_left
                      · intro w'
                        go_simp
                        with_reducible rfl
                      rotate_left
                      · simp only [Act.put, List.setIfInBounds_toArray, List.set_cons_zero, List.set_cons_succ]; (try simp only [i64_w]); (try simp only [i32_w])
                        rfl
                      refine pure_ (i := 3) (N := some 61) (v := ?_) (a' := ?_) #[true, true, true, true, false, false, false, false, false, false, false, false, false, false, false, false, false, false, false, false, false, false, false, false, false, false, false, false, false] rfl rfl (any_of HT_.out (by kernel_rfl)) (fun _ _ _ h => h) (Or.inl ⟨by rfl, ?_⟩) ?_ ?_
                      rotate_left
                      · intro w'
                        go_simp
                        with_reducible rfl
                      rotate_left
                      · simp only [Act.put, List.setIfInBounds_toArray, List.set_cons_zero, List.set_cons_succ]; (try simp only [i64_w]); (try simp only [i32_w])
                        rfl
                      refine pure_ (i := 4) (N := some 62) (v := ?_) (a' := ?_) #[true, true, true, true, true, false, false, false, false, false, false, false, false, false, false, false, false, false, false, false, false, false, false, false, false, false, false, false, false] rfl rfl (any_of HT_.out (by kernel_rfl)) (fun _ _ _ h => h) (Or.inl ⟨by rfl, ?_⟩) ?_ ?_
                      rotate_left
                      · intro w'
                        go_simp
                        with_reducible rfl
                      rotate_left
                      · simp only [Act.put, List.setIfInBounds_toArray, List.set_cons_zero, List.set_cons_succ]; (try simp only [i64_w]); (try simp only [i32_w])
                        rfl
                      refine pure_ (i := 5) (N := some 63) (v := ?_) (a' := ?_) #[true, true, true, true, true, true, false, false, false, false, false, false, false, false, false, false, false, false, false, false, false, false, false, false, false, false, false, false, false] rfl rfl (any_of HT_.out (by kernel_rfl)) (fun _ _ _ h => h) (Or.inl ⟨by rfl, ?_⟩) ?_ ?_
                      rotate_left
                      · intro w'
                        go_simp
                        with_reducible rfl
                      rotate_left
                      · simp only [Act.put, List.setIfInBounds_toArray, List.set_cons_zero, List.set_cons_succ]; (try simp only [i64_w]); (try simp only [i32_w])
                        rfl
                      refine pure_ (i := 6) (N := some 64) (v := ?_) (a' := ?_) #[true, true, true, true, true, true, true, false, false, false, false, false, false, false, false, false, false, false, false, false, false, false, false, false, false, false, false, false, false] rfl rfl (any_of HT_.out (by kernel_rfl)) (fun _ _ _ h => h) (Or.inl ⟨by rfl, ?_⟩) ?_ ?_
                      rotate_left
                      · intro w'
                        go_simp
                        with_reducible rfl
                      rotate_left
                      · simp only [Act.put, List.setIfInBounds_toArray, List.set_cons_zero, List.set_cons_succ]; (try simp only [i64_w]); (try simp only [i32_w])
                        rfl
                      refine take_ (i := 7) (N := some 65) (v := ?_) (a' := ?_) #[true, true, true, true, true, true, true, true, false, false, false, false, false, false, false, false, false, false, false, false, false, false, false, false, false, false, false, false, false] rfl rfl (take_ofW HT_.out HW_.out (by kernel_rfl)) (fun _ _ _ h => h) (Or.inl ⟨by rfl, ?_⟩) hHeld ?_ ?_
                      rotate_left
                      · rintro w' ⟨s0, s1, s2, s3, s4, s5, s6, s7, s8, s9, s10, s11⟩
                        go_simp
                        with_reducible rfl
                      rotate_left
                      · simp only [Act.put, List.setIfInBounds_toArray, List.set_cons_zero, List.set_cons_succ]; (try simp only [i64_w]); (try simp only [i32_w])
                        rfl
                      refine take_ (i := 8) (N := some 66) (v := ?_) (a' := ?_) #[true, true, true, true, true, true, true, true, true, false, false, false, false, false, false, false, false, false, false, false, false, false, false, false, false, false, false, false, false] rfl rfl (take_ofW HT_.out HW_.out (by kernel_rfl)) (fun _ _ _ h => h) (Or.inl ⟨by rfl, ?_⟩) hHeld ?_ ?_
                      rotate_left
                      · rintro w' ⟨s0, s1, s2, s3, s4, s5, s6, s7, s8, s9, s10, s11⟩
                        go_simp
                        with_reducible rfl
                      rotate_left
                      · simp only [Act.put, List.setIfInBounds_toArray, List.set_cons_zero, List.set_cons_succ]; (try simp only [i64_w]); (try simp only [i32_w])
                        rfl
                      refine pure_ (i := 9) (N := some 67) (v := ?_) (a' := ?_) #[true, true, true, true, true, true, true, true, true, true, false, false, false, false, false, false, false, false, false, false, false, false, false, false, false, false, false, false, false] rfl rfl (any_of HT_.out (by kernel_rfl)) (fun _ _ _ h => h) (Or.inl ⟨by rfl, ?_⟩) ?_ ?_
                      rotate_left
                      · intro w'
                        go_simp
                        with_reducible rfl
                      rotate_left
                      · simp only [Act.put, List.setIfInBounds_toArray, List.set_cons_zero, List.set_cons_succ]; (try simp only [i64_w]); (try simp only [i32_w])
                        rfl
                      refine pure_ (i := 10) (N := some 68) (v := ?_) (a' := ?_) #[true, true, true, true, true, true, true, true, true, true, true, false, false, false, false, false, false, false, false, false, false, false, false, false, false, false, false, false, false] rfl rfl (any_of HT_.out (by kernel_rfl)) (fun _ _ _ h => h) (Or.inl ⟨by rfl, ?_⟩) ?_ ?_
                      rotate_left
                      · intro w'
                        go_simp
                        with_reducible rfl
                      rotate_left
                      · simp only [Act.put, List.setIfInBounds_toArray, List.set_cons_zero, List.set_cons_succ]; (try simp only [i64_w]); (try simp only [i32_w])
                        rfl
                      refine pure_ (i := 11) (N := some 69) (v := ?_) (a' := ?_) #[true, true, true, true, true, true, true, true, true, true, true, true, false, false, false, false, false, false, false, false, false, false, false, false, false, false, false, false, false] rfl rfl (any_of HT_.out (by kernel_rfl)) (fun _ _ _ h => h) (Or.inl ⟨by rfl, ?_⟩) ?_ ?_
                      rotate_left
                      · intro w'
                        go_simp
                        with_reducible rfl
                      rotate_left
                      · simp only [Act.put, List.setIfInBounds_toArray, List.set_cons_zero, List.set_cons_succ]; (try simp only [i64_w]); (try simp only [i32_w])
                        rfl
                      refine take_ (i := 12) (N := some 70) (v := ?_) (a' := ?_) #[true, true, true, true, true, true, true, true, true, true, true, true, true, false, false, false, false, false, false, false, false, false, false, false, false, false, false, false, false] rfl rfl (take_ofW HT_.out HW_.out (by kernel_rfl)) (fun _ _ _ h => h) (Or.inl ⟨by rfl, ?_⟩) hHeld ?_ ?_
                      rotate_left
                      · rintro w' ⟨s0, s1, s2, s3, s4, s5, s6, s7, s8, s9, s10, s11⟩
                        go_simp
                        with_reducible rfl
                      rotate_left
                      · simp only [Act.put, List.setIfInBounds_toArray, List.set_cons_zero, List.set_cons_succ]; (try simp only [i64_w]); (try simp only [i32_w])
                        rfl
                      refine take_ (i := 13) (N := some 71) (v := ?_) (a' := ?_) #[true, true, true, true, true, true, true, true, true, true, true, true, true, true, false, false, false, false, false, false, false, false, false, false, false, false, false, false, false] rfl rfl (take_ofW HT_.out HW_.out (by kernel_rfl)) (fun _ _ _ h => h) (Or.inl ⟨by rfl, ?_⟩) hHeld ?_ ?_
                      rotate_left
                      · rintro w' ⟨s0, s1, s2, s3, s4, s5, s6, s7, s8, s9, s10, s11⟩
                        go_simp
                        with_reducible rfl
                      rotate_left
                      · simp only [Act.put, List.setIfInBounds_toArray, List.set_cons_zero, List.set_cons_succ]; (try simp only [i64_w]); (try simp only [i32_w])
                        rfl
                      refine one_ (i := 14) (N := some 72) #[true, true, true, true, true, true, true, true, true, true, true, true, true, true, true, false, false, false, false, false, false, false, false, false, false, false, false, false, false] rfl rfl (one_of HT_.out (by kernel_rfl)) (by decide) (fun K hK => ?_)
                      refine goes_ Tryd.func15 (by kernel_rfl) rfl #[.agg #[.bool false, .string t392, .int .i64 t393], .agg #[.bool false, .string a2, .int .i64 a3]] (by rfl) rfl rfl (by (try simp only [List.map_toArray]); (try simp only [List.map_cons]); (try simp only [List.map_nil]); first | done | rfl | (simp only [List.length_drop, List.length_take]; rfl)) ?_
                      with_reducible refine (figureheadref05_Cmp.calls kj4 false t392 t393 false a2 a3 t397 _ A30.out).mono ?_
                      rintro e w211 ⟨rfl, hb⟩
                      refine ⟨_, rfl, ?_⟩
                      have n0_ := Aside0.mk (blk_below (g := gb374) (o := .cells #[.bool a1_0, .string a1_1, .int .i64 a1_2] 23 (0, 0)) (by (with_reducible repeat (first | refine blk_drewN ?_ _ | refine blk_drew ?_ | refine blk_alloc ?_ _)); exact BK374.out) hb)
                      have n1_ := Aside0.mk (blk_below (g := gb382) (o := .cells #[.bool t378, .string t379, .int .i64 t380] 23 (0, 0)) (by (with_reducible repeat (first | refine blk_drewN ?_ _ | refine blk_drew ?_ | refine blk_alloc ?_ _)); exact BK382.out) hb)
                      have n2_ := Aside0.mk (blk_below (g := gb387) (o := .cells #[.bool t383, .string t384, .int .i64 t385] 23 (0, 0)) (by (with_reducible repeat (first | refine blk_drewN ?_ _ | refine blk_drew ?_ | refine blk_alloc ?_ _)); exact BK387.out) hb)
                      have n3_ := Aside0.mk (blk_below (g := gb394) (o := .cells #[.bool t391, .string t392, .int .i64 t393] 23 (0, 0)) (by (with_reducible repeat (first | refine blk_drewN ?_ _ | refine blk_drew ?_ | refine blk_alloc ?_ _)); exact BK394.out) hb)
                      have n4_ := Aside0.mk (blk_below (g := gb395) (o := .cells #[.bool false, .string t392, .int .i64 t393] 23 (0, 0)) (by (with_reducible repeat (first | refine blk_drewN ?_ _ | refine blk_drew ?_ | refine blk_alloc ?_ _)); exact BK395.out) hb)
                      have n5_ := Aside0.mk (blk_below (g := gb396) (o := .cells #[.bool false, .string a2, .int .i64 a3] 23 (0, 0)) (by (with_reducible repeat (first | refine blk_drewN ?_ _ | refine blk_drew ?_ | refine blk_alloc ?_ _)); exact BK396.out) hb)
                      have n6_ := Aside0.mk (below_step (by repeat (first | (with_reducible first | exact HB.out | apply below_alloc | apply pw_below_drewN | apply below_drew1 | refine below_set ?_ GE374.out | refine below_set ?_ GE382.out | refine below_set ?_ GE387.out | refine below_set ?_ GE394.out | refine below_set ?_ GE395.out | refine below_set ?_ GE396.out) | exact HB.out)) hb)
                      clear BK374
                      clear BK382
                      clear BK387
                      clear BK394
                      clear BK395
                      clear BK396
                      clear HB
                      have BK374 := n0_
                      have BK382 := n1_
                      have BK387 := n2_
                      have BK394 := n3_
                      have BK395 := n4_
                      have BK396 := n5_
                      have HB := n6_
                      clear n0_ n1_ n2_ n3_ n4_ n5_ n6_
                      (try clear hb)
                      (try clear hb2)
                      (try clear hk)
                      (try clear hi)
                      refine hK.out _ _ ⟨(blk_cell BK387.out 0).trans rfl, (blk_cell BK387.out 1).trans rfl, (blk_cell BK387.out 2).trans rfl, (blk_cell BK382.out 0).trans rfl, (blk_cell BK382.out 1).trans rfl, (blk_cell BK382.out 2).trans rfl, (blk_cell BK395.out 0).trans rfl, (blk_cell BK395.out 1).trans rfl, (blk_cell BK395.out 2).trans rfl, (blk_cell BK396.out 0).trans rfl, (blk_cell BK396.out 1).trans rfl, (blk_cell BK396.out 2).trans rfl⟩ (fun hHeld => ?_)
                      clear hK K
                      refine norm_ (a' := ?_) ?_ ?_
                      rotate_left
                      · show Act.put _ (some 72) _ = _
                        simp only [Act.put, List.setIfInBounds_toArray, List.set_cons_zero, List.set_cons_succ]; (try simp only [i64_w]); (try simp only [i32_w])
                        rfl
                      refine pure_ (i := 15) (N := some 73) (v := ?_) (a' := ?_) #[true, true, true, true, true, true, true, true, true, true, true, true, true, true, true, true, false, false, false, false, false, false, false, false, false, false, false, false, false] rfl rfl (any_of HT_.out (by kernel_rfl)) (fun _ _ _ h => h) (Or.inl ⟨by rfl, ?_⟩) ?_ ?_
                      rotate_left
                      · intro w'
                        go_simp
                        with_reducible rfl
                      rotate_left
                      · simp only [Act.put, List.setIfInBounds_toArray, List.set_cons_zero, List.set_cons_succ]; (try simp only [i64_w]); (try simp only [i32_w])
                        rfl
                      refine pure_ (i := 16) (N := some 74) (v := ?_) (a' := ?_) #[true, true, true, true, true, true, true, true, true, true, true, true, true, true, true, true, true, false, false, false, false, false, false, false, false, false, false, false, false] rfl rfl (any_of HT_.out (by kernel_rfl)) (fun _ _ _ h => h) (Or.inl ⟨by rfl, ?_⟩) ?_ ?_
                      rotate_left
                      · intro w'
                        go_simp
                        with_reducible rfl
                      rotate_left
                      · simp only [Act.put, List.setIfInBounds_toArray, List.set_cons_zero, List.set_cons_succ]; (try simp only [i64_w]); (try simp only [i32_w])
                        rfl
                      refine pure_ (i := 17) (N := some 75) (v := ?_) (a' := ?_) #[true, true, true, true, true, true, true, true, true, true, true, true, true, true, true, true, true, true, false, false, false, false, false, false, false, false, false, false, false] rfl rfl (any_of HT_.out (by kernel_rfl)) (fun _ _ _ h => h) (Or.inl ⟨by rfl, ?_⟩) ?_ ?_
                      rotate_left
                      · intro w'
                        go_simp
                        with_reducible rfl
                      rotate_left
                      · simp only [Act.put, List.setIfInBounds_toArray, List.set_cons_zero, List.set_cons_succ]; (try simp only [i64_w]); (try simp only [i32_w])
                        rfl
                      refine pure_ (i := 18) (N := some 76) (v := ?_) (a' := ?_) #[true, true, true, true, true, true, true, true, true, true, true, true, true, true, true, true, true, true, true, false, false, false, false, false, false, false, false, false, false] rfl rfl (any_of HT_.out (by kernel_rfl)) (fun _ _ _ h => h) (Or.inl ⟨by rfl, ?_⟩) ?_ ?_
                      rotate_left
                      · intro w'
                        go_simp
                        with_reducible rfl
                      rotate_left
                      · simp only [Act.put, List.setIfInBounds_toArray, List.set_cons_zero, List.set_cons_succ]; (try simp only [i64_w]); (try simp only [i32_w])
                        rfl
                      refine pure_ (i := 19) (N := some 77) (v := ?_) (a' := ?_) #[true, true, true, true, true, true, true, true, true, true, true, true, true, true, true, true, true, true, true, true, false, false, false, false, false, false, false, false, false] rfl rfl (any_of HT_.out (by kernel_rfl)) (fun _ _ _ h => h) (Or.inl ⟨by rfl, ?_⟩) ?_ ?_
                      rotate_left
                      · intro w'
                        go_simp
                        with_reducible rfl
                      rotate_left
                      · simp only [Act.put, List.setIfInBounds_toArray, List.set_cons_zero, List.set_cons_succ]; (try simp only [i64_w]); (try simp only [i32_w])
                        rfl
                      refine pure_ (i := 20) (N := some 78) (v := ?_) (a' := ?_) #[true, true, true, true, true, true, true, true, true, true, true, true, true, true, true, true, true, true, true, true, true, false, false, false, false, false, false, false, false] rfl rfl (any_of HT_.out (by kernel_rfl)) (fun _ _ _ h => h) (Or.inl ⟨by rfl, ?_⟩) ?_ ?_
                      rotate_left
                      · intro w'
                        go_simp
                        with_reducible rfl
                      rotate_left
                      · simp only [Act.put, List.setIfInBounds_toArray, List.set_cons_zero, List.set_cons_succ]; (try simp only [i64_w]); (try simp only [i32_w])
                        rfl
                      refine take_ (i := 21) (N := some 79) (v := ?_) (a' := ?_) #[true, true, true, true, true, true, true, true, true, true, true, true, true, true, true, true, true, true, true, true, true, true, false, false, false, false, false, false, false] rfl rfl (take_ofW HT_.out HW_.out (by kernel_rfl)) (fun _ _ _ h => h) (Or.inl ⟨by rfl, ?_⟩) hHeld ?_ ?_
                      rotate_left
                      · rintro w' ⟨s0, s1, s2, s3, s4, s5, s6, s7, s8, s9, s10, s11⟩
                        go_simp
                        with_reducible rfl
                      rotate_left
                      · simp only [Act.put, List.setIfInBounds_toArray, List.set_cons_zero, List.set_cons_succ]; (try simp only [i64_w]); (try simp only [i32_w])
                        rfl
                      refine take_ (i := 22) (N := some 80) (v := ?_) (a' := ?_) #[true, true, true, true, true, true, true, true, true, true, true, true, true, true, true, true, true, true, true, true, true, true, true, false, false, false, false, false, false] rfl rfl (take_ofW HT_.out HW_.out (by kernel_rfl)) (fun _ _ _ h => h) (Or.inl ⟨by rfl, ?_⟩) hHeld ?_ ?_
                      rotate_left
                      · rintro w' ⟨s0, s1, s2, s3, s4, s5, s6, s7, s8, s9, s10, s11⟩
                        go_simp
                        with_reducible rfl
                      rotate_left
                      · simp only [Act.put, List.setIfInBounds_toArray, List.set_cons_zero, List.set_cons_succ]; (try simp only [i64_w]); (try simp only [i32_w])
                        rfl
                      refine take_ (i := 24) (N := some 82) (v := ?_) (a' := ?_) #[true, true, true, true, true, true, true, true, true, true, true, true, true, true, true, true, true, true, true, true, true, true, true, false, true, false, false, false, false] rfl rfl (take_ofW HT_.out HW_.out (by kernel_rfl)) (fun _ _ _ h => h) (Or.inl ⟨by rfl, ?_⟩) hHeld ?_ ?_
                      rotate_left
                      · rintro w' ⟨s0, s1, s2, s3, s4, s5, s6, s7, s8, s9, s10, s11⟩
                        go_simp
                        with_reducible rfl
                      rotate_left
                      · simp only [Act.put, List.setIfInBounds_toArray, List.set_cons_zero, List.set_cons_succ]; (try simp only [i64_w]); (try simp only [i32_w])
                        rfl
                      refine one_ (i := 23) (N := some 81) #[true, true, true, true, true, true, true, true, true, true, true, true, true, true, true, true, true, true, true, true, true, true, true, true, true, false, false, false, false] rfl rfl (one_of HT_.out (by kernel_rfl)) (by decide) (fun K hK => ?_)
                      refine goes_ Tryd.func13 (by kernel_rfl) rfl #[.agg #[.bool false, .string t392, .int .i64 t393], .agg #[.bool false, .string t392, .int .i64 t393]] (by rfl) rfl rfl (by (try simp only [List.map_toArray]); (try simp only [List.map_cons]); (try simp only [List.map_nil]); first | done | rfl | (simp only [List.length_drop, List.length_take]; rfl)) ?_
                      with_reducible refine (figureheadref05_Sum.calls kj4 false t392 t393 false t392 t393 t398 t399 t400 _ A33.out).mono ?_
                      rintro e w212 ⟨rfl, hb⟩
                      refine ⟨_, rfl, ?_⟩
                      have n0_ := Aside0.mk (blk_below (g := gb374) (o := .cells #[.bool a1_0, .string a1_1, .int .i64 a1_2] 23 (0, 0)) (by (with_reducible repeat (first | refine blk_drewN ?_ _ | refine blk_drew ?_ | refine blk_alloc ?_ _)); exact BK374.out) hb)
                      have n1_ := Aside0.mk (blk_below (g := gb382) (o := .cells #[.bool t378, .string t379, .int .i64 t380] 23 (0, 0)) (by (with_reducible repeat (first | refine blk_drewN ?_ _ | refine blk_drew ?_ | refine blk_alloc ?_ _)); exact BK382.out) hb)
                      have n2_ := Aside0.mk (blk_below (g := gb387) (o := .cells #[.bool t383, .string t384, .int .i64 t385] 23 (0, 0)) (by (with_reducible repeat (first | refine blk_drewN ?_ _ | refine blk_drew ?_ | refine blk_alloc ?_ _)); exact BK387.out) hb)
                      have n3_ := Aside0.mk (blk_below (g := gb394) (o := .cells #[.bool t391, .string t392, .int .i64 t393] 23 (0, 0)) (by (with_reducible repeat (first | refine blk_drewN ?_ _ | refine blk_drew ?_ | refine blk_alloc ?_ _)); exact BK394.out) hb)
                      have n4_ := Aside0.mk (blk_below (g := gb395) (o := .cells #[.bool false, .string t392, .int .i64 t393] 23 (0, 0)) (by (with_reducible repeat (first | refine blk_drewN ?_ _ | refine blk_drew ?_ | refine blk_alloc ?_ _)); exact BK395.out) hb)
                      have n5_ := Aside0.mk (blk_below (g := gb396) (o := .cells #[.bool false, .string a2, .int .i64 a3] 23 (0, 0)) (by (with_reducible repeat (first | refine blk_drewN ?_ _ | refine blk_drew ?_ | refine blk_alloc ?_ _)); exact BK396.out) hb)
                      have n6_ := Aside0.mk (below_step (by repeat (first | (with_reducible first | exact HB.out | apply below_alloc | apply pw_below_drewN | apply below_drew1 | refine below_set ?_ GE374.out | refine below_set ?_ GE382.out | refine below_set ?_ GE387.out | refine below_set ?_ GE394.out | refine below_set ?_ GE395.out | refine below_set ?_ GE396.out) | exact HB.out)) hb)
                      clear BK374
                      clear BK382
                      clear BK387
                      clear BK394
                      clear BK395
                      clear BK396
                      clear HB
                      have BK374 := n0_
                      have BK382 := n1_
                      have BK387 := n2_
                      have BK394 := n3_
                      have BK395 := n4_
                      have BK396 := n5_
                      have HB := n6_
                      clear n0_ n1_ n2_ n3_ n4_ n5_ n6_
                      (try clear hb)
                      (try clear hb2)
                      (try clear hk)
                      (try clear hi)
                      refine hK.out _ _ ⟨(blk_cell BK387.out 0).trans rfl, (blk_cell BK387.out 1).trans rfl, (blk_cell BK387.out 2).trans rfl, (blk_cell BK382.out 0).trans rfl, (blk_cell BK382.out 1).trans rfl, (blk_cell BK382.out 2).trans rfl, (blk_cell BK395.out 0).trans rfl, (blk_cell BK395.out 1).trans rfl, (blk_cell BK395.out 2).trans rfl, (blk_cell BK396.out 0).trans rfl, (blk_cell BK396.out 1).trans rfl, (blk_cell BK396.out 2).trans rfl⟩ (fun hHeld => ?_)
                      clear hK K
                      refine norm_ (a' := ?_) ?_ ?_
                      rotate_left
                      · show Act.put _ (some 81) _ = _
                        simp only [Act.put, List.setIfInBounds_toArray, List.set_cons_zero, List.set_cons_succ]; (try simp only [i64_w]); (try simp only [i32_w])
                        rfl
                      refine one_ (i := 25) (N := some 83) #[true, true, true, true, true, true, true, true, true, true, true, true, true, true, true, true, true, true, true, true, true, true, true, true, true, true, false, false, false] rfl rfl (one_of HT_.out (by kernel_rfl)) (by decide) (fun K hK => ?_)
                      refine goes_ Tryd.func15 (by kernel_rfl) rfl #[.agg #[.bool t398, .string t399, .int .i64 t400], .agg #[.bool false, .string a2, .int .i64 a3]] (by rfl) rfl rfl (by (try simp only [List.map_toArray]); (try simp only [List.map_cons]); (try simp only [List.map_nil]); first | done | rfl | (simp only [List.length_drop, List.length_take]; rfl)) ?_
                      with_reducible refine (figureheadref05_Cmp.calls kj4 t398 t399 t400 false a2 a3 t401 _ A34.out).mono ?_
                      rintro e w213 ⟨rfl, hb⟩
                      refine ⟨_, rfl, ?_⟩
                      have n0_ := Aside0.mk (blk_below (g := gb374) (o := .cells #[.bool a1_0, .string a1_1, .int .i64 a1_2] 23 (0, 0)) (by (with_reducible repeat (first | refine blk_drewN ?_ _ | refine blk_drew ?_ | refine blk_alloc ?_ _)); exact BK374.out) hb)
                      have n1_ := Aside0.mk (blk_below (g := gb382) (o := .cells #[.bool t378, .string t379, .int .i64 t380] 23 (0, 0)) (by (with_reducible repeat (first | refine blk_drewN ?_ _ | refine blk_drew ?_ | refine blk_alloc ?_ _)); exact BK382.out) hb)
                      have n2_ := Aside0.mk (blk_below (g := gb387) (o := .cells #[.bool t383, .string t384, .int .i64 t385] 23 (0, 0)) (by (with_reducible repeat (first | refine blk_drewN ?_ _ | refine blk_drew ?_ | refine blk_alloc ?_ _)); exact BK387.out) hb)
                      have n3_ := Aside0.mk (blk_below (g := gb394) (o := .cells #[.bool t391, .string t392, .int .i64 t393] 23 (0, 0)) (by (with_reducible repeat (first | refine blk_drewN ?_ _ | refine blk_drew ?_ | refine blk_alloc ?_ _)); exact BK394.out) hb)
                      have n4_ := Aside0.mk (blk_below (g := gb395) (o := .cells #[.bool false, .string t392, .int .i64 t393] 23 (0, 0)) (by (with_reducible repeat (first | refine blk_drewN ?_ _ | refine blk_drew ?_ | refine blk_alloc ?_ _)); exact BK395.out) hb)
                      have n5_ := Aside0.mk (blk_below (g := gb396) (o := .cells #[.bool false, .string a2, .int .i64 a3] 23 (0, 0)) (by (with_reducible repeat (first | refine blk_drewN ?_ _ | refine blk_drew ?_ | refine blk_alloc ?_ _)); exact BK396.out) hb)
                      have n6_ := Aside0.mk (below_step (by repeat (first | (with_reducible first | exact HB.out | apply below_alloc | apply pw_below_drewN | apply below_drew1 | refine below_set ?_ GE374.out | refine below_set ?_ GE382.out | refine below_set ?_ GE387.out | refine below_set ?_ GE394.out | refine below_set ?_ GE395.out | refine below_set ?_ GE396.out) | exact HB.out)) hb)
                      clear BK374
                      clear BK382
                      clear BK387
                      clear BK394
                      clear BK395
                      clear BK396
                      clear HB
                      have BK374 := n0_
                      have BK382 := n1_
                      have BK387 := n2_
                      have BK394 := n3_
                      have BK395 := n4_
                      have BK396 := n5_
                      have HB := n6_
                      clear n0_ n1_ n2_ n3_ n4_ n5_ n6_
                      (try clear hb)
                      (try clear hb2)
                      (try clear hk)
                      (try clear hi)
                      refine hK.out _ _ ⟨(blk_cell BK387.out 0).trans rfl, (blk_cell BK387.out 1).trans rfl, (blk_cell BK387.out 2).trans rfl, (blk_cell BK382.out 0).trans rfl, (blk_cell BK382.out 1).trans rfl, (blk_cell BK382.out 2).trans rfl, (blk_cell BK395.out 0).trans rfl, (blk_cell BK395.out 1).trans rfl, (blk_cell BK395.out 2).trans rfl, (blk_cell BK396.out 0).trans rfl, (blk_cell BK396.out 1).trans rfl, (blk_cell BK396.out 2).trans rfl⟩ (fun hHeld => ?_)
                      clear hK K
                      refine norm_ (a' := ?_) ?_ ?_
                      rotate_left
                      · show Act.put _ (some 83) _ = _
                        simp only [Act.put, List.setIfInBounds_toArray, List.set_cons_zero, List.set_cons_succ]; (try simp only [i64_w]); (try simp only [i32_w])
                        rfl
                      refine pure_ (i := 26) (N := some 84) (v := ?_) (a' := ?_) #[true, true, true, true, true, true, true, true, true, true, true, true, true, true, true, true, true, true, true, true, true, true, true, true, true, true, true, false, false] rfl rfl (any_of HT_.out (by kernel_rfl)) (fun _ _ _ h => h) (Or.inl ⟨by rfl, ?_⟩) ?_ ?_
                      rotate_left
                      · intro w'
                        go_simp
                        with_reducible rfl
                      rotate_left
                      · simp only [Act.put, List.setIfInBounds_toArray, List.set_cons_zero, List.set_cons_succ]; (try simp only [i64_w]); (try simp only [i32_w])
                        rfl
                      refine pure_ (i := 27) (N := some 85) (v := ?_) (a' := ?_) #[true, true, true, true, true, true, true, true, true, true, true, true, true, true, true, true, true, true, true, true, true, true, true, true, true, true, true, true, false] rfl rfl (any_of HT_.out (by kernel_rfl)) (fun _ _ _ h => h) (Or.inl ⟨by rfl, ?_⟩) ?_ ?_
                      rotate_left
                      · intro w'
                        go_simp
                        with_reducible rfl
                      rotate_left
                      · simp only [Act.put, List.setIfInBounds_toArray, List.set_cons_zero, List.set_cons_succ]; (try simp only [i64_w]); (try simp only [i32_w])
                        rfl
                      refine pure_ (i := 28) (N := some 86) (v := ?_) (a' := ?_) #[true, true, true, true, true, true, true, true, true, true, true, true, true, true, true, true, true, true, true, true, true, true, true, true, true, true, true, true, true] rfl rfl (any_of HT_.out (by kernel_rfl)) (fun _ _ _ h => h) (Or.inl ⟨by rfl, ?_⟩) ?_ ?_
                      rotate_left
                      · intro w'
                        go_simp
                        with_reducible rfl
                      rotate_left
                      · simp only [Act.put, List.setIfInBounds_toArray, List.set_cons_zero, List.set_cons_succ]; (try simp only [i64_w]); (try simp only [i32_w])
                        rfl
                      refine done_ (done_of HT_.out (by kernel_rfl)) ?_
                      try go_wp2_with (first | ((with_reducible refine gate_callee (f := 9) rfl ?_); refine goesL_ (some 87) rfl rfl Tryd.func9 (by kernel_rfl) rfl #[] rfl (by (try simp only [List.map_toArray]); (try simp only [List.map_cons]); (try simp only [List.map_nil]); first | done | rfl | (simp only [List.length_drop, List.length_take]; rfl)) ?_; (with_reducible refine (figureheadlaw10_answers.calls kj4  true _ ?side1 ?side2 A36.out).mono ?_); (case side1 => exact Fig.Glob.below HG.out (by repeat (first | (with_reducible first | exact HB.out | apply below_alloc | apply pw_below_drewN | apply below_drew1 | refine below_set ?_ GE374.out | refine below_set ?_ GE382.out | refine below_set ?_ GE387.out | refine below_set ?_ GE394.out | refine below_set ?_ GE395.out | refine below_set ?_ GE396.out) | exact HB.out))); (case side2 => exact ⟨by first | rfl | exact HT.out⟩); rintro e w214 ⟨rfl, hb⟩; refine ⟨_, rfl, ?_⟩; have n0_ := Aside0.mk (blk_below (g := gb374) (o := .cells #[.bool a1_0, .string a1_1, .int .i64 a1_2] 23 (0, 0)) (by (with_reducible repeat (first | refine blk_drewN ?_ _ | refine blk_drew ?_ | refine blk_alloc ?_ _)); exact BK374.out) hb); have n1_ := Aside0.mk (blk_below (g := gb382) (o := .cells #[.bool t378, .string t379, .int .i64 t380] 23 (0, 0)) (by (with_reducible repeat (first | refine blk_drewN ?_ _ | refine blk_drew ?_ | refine blk_alloc ?_ _)); exact BK382.out) hb); have n2_ := Aside0.mk (blk_below (g := gb387) (o := .cells #[.bool t383, .string t384, .int .i64 t385] 23 (0, 0)) (by (with_reducible repeat (first | refine blk_drewN ?_ _ | refine blk_drew ?_ | refine blk_alloc ?_ _)); exact BK387.out) hb); have n3_ := Aside0.mk (blk_below (g := gb394) (o := .cells #[.bool t391, .string t392, .int .i64 t393] 23 (0, 0)) (by (with_reducible repeat (first | refine blk_drewN ?_ _ | refine blk_drew ?_ | refine blk_alloc ?_ _)); exact BK394.out) hb); have n4_ := Aside0.mk (blk_below (g := gb395) (o := .cells #[.bool false, .string t392, .int .i64 t393] 23 (0, 0)) (by (with_reducible repeat (first | refine blk_drewN ?_ _ | refine blk_drew ?_ | refine blk_alloc ?_ _)); exact BK395.out) hb); have n5_ := Aside0.mk (blk_below (g := gb396) (o := .cells #[.bool false, .string a2, .int .i64 a3] 23 (0, 0)) (by (with_reducible repeat (first | refine blk_drewN ?_ _ | refine blk_drew ?_ | refine blk_alloc ?_ _)); exact BK396.out) hb); have n6_ := Aside0.mk (below_step (by repeat (first | (with_reducible first | exact HB.out | apply below_alloc | apply pw_below_drewN | apply below_drew1 | refine below_set ?_ GE374.out | refine below_set ?_ GE382.out | refine below_set ?_ GE387.out | refine below_set ?_ GE394.out | refine below_set ?_ GE395.out | refine below_set ?_ GE396.out) | exact HB.out)) hb); clear BK374; clear BK382; clear BK387; clear BK394; clear BK395; clear BK396; clear HB; have BK374 := n0_; have BK382 := n1_; have BK387 := n2_; have BK394 := n3_; have BK395 := n4_; have BK396 := n5_; have HB := n6_; clear n0_ n1_ n2_ n3_ n4_ n5_ n6_; (try clear hb); (try clear hb2); (try clear hk); (try clear hi); have hcz215_0 : w214.cell? ⟨gb394, 0, none⟩ = some (.bool t391) := (blk_cell BK394.out 0).trans rfl; have hcz215_1 : w214.cell? ⟨gb394, 1, none⟩ = some (.string t392) := (blk_cell BK394.out 1).trans rfl; have hcz215_2 : w214.cell? ⟨gb394, 2, none⟩ = some (.int .i64 t393) := (blk_cell BK394.out 2).trans rfl; have hfz215_0 := blk_frozen BK394.out 0; have hfz215_1 := blk_frozen BK394.out 1; have hfz215_2 := blk_frozen BK394.out 2))
                      all_goals go_ret
                      all_goals refine ⟨?_, by repeat (first | (with_reducible first | exact HB.out | apply below_alloc | apply pw_below_drewN | apply below_drew1 | refine below_set ?_ GE374.out | refine below_set ?_ GE382.out | refine below_set ?_ GE387.out | refine below_set ?_ GE394.out | refine below_set ?_ GE395.out | refine below_set ?_ GE396.out) | exact HB.out)⟩
                      all_goals (first | rfl | (have f0_ := F0_.out; have f1_ := F1_.out; clear F0_ F1_; simp_all; done) | (have f0_ := F0_.out; have f1_ := F1_.out; simp_all <;> omega))
                    · replace c37 := Bool.eq_false_iff.mpr c37
                      subst c37
                      have H1 : (some false) = some r := by rw [if_neg (show ¬ (false = true) by decide)] at H; exact H
                      clear H
                      have H := H1
                      clear H1
                      exact absurd ((Option.some.inj H).trans HT.out) (by decide)
                · exact absurd (by have hz2_ := hz_.out; omega : a0 ≥ 4) c32
          · rw [if_neg c28] at H
            have c28b0 : (t386 == 0) = false := beq_eq_false_iff_ne.mpr c28
            have c28b1 : (t386 != 0) = true := bne_iff_ne.mpr c28
            exact absurd ((Option.some.inj H).trans HT.out) (by decide)
        · rw [if_neg c27] at H
          have c27b0 : (t381 == 0) = false := beq_eq_false_iff_ne.mpr c27
          have c27b1 : (t381 != 0) = true := bne_iff_ne.mpr c27
          exact absurd ((Option.some.inj H).trans HT.out) (by decide)
end Go.Proofs.YtekkpmoppihlaaaDoor.Px
end
