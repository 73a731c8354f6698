/- The functions that the law TenShifts reaches, told as plain functions, with what is proved of them (part 1). -/
import Derived.Test.YtnpibnjncjieaaaDoorPx0
import Derived.Test.YtnpibnjncjieaaaDoorCTenShifts0
namespace Go.Proofs.YtnpibnjncjieaaaDoor.Px
open Fig Go.RowKit Go.Proofs.YtnpibnjncjieaaaDoorW.PrintWords Go.Proofs.YtnpibnjncjieaaaDoorW.PrintLast Go.Proofs.YtnpibnjncjieaaaDoorW.PrintMore
attribute [local go_sem] max2_int min2_int max_two min_two max_three min_three max_four min_four   -- for this text's walks alone

/-! ### figureheadlaw04_TenShifts: function 5 -/
def figureheadlaw04_TenShifts.j0 : Nat → List Int → Int → Bool → Option (Bool)
  | 0, _, _, _ => none
  | k + 1, x0, x1, x17 => if x17 = true then ((figureheadlaw04_answers.f).bind fun t197 => (some t197)) else ((figureheadref01_Text.f k x0).bind fun t198 => ((figureheadref01_Zeros.f k (mx x1 0)).bind fun t199 => (if t198.size + t199.size ≤ 9223372036854775807 then ((figureheadref01_Strip.f k (t198 ++ t199)).bind fun t200 => ((ten_Cut.f x0 x1).bind fun bt201 => ((figureheadlaw04_answers.f).bind fun t207 => (if t207 = true then ((ten_Shift.f x0 x1).bind fun t208 => ((figureheadref01_Number.f k t200).bind fun t211 => ((figureheadref01_Same.f k t208 t211).bind fun t214 => (if t214 = true then (if 0 ≤ (mx 0 (wrap64 ((t198.size : Int) - (mx x1 0)))) then (if (mx 0 (wrap64 ((t198.size : Int) - (mx x1 0)))) ≤ (t198.size : Int) then ((figureheadref01_Number.f k (t198.extract 0 ((mx 0 (wrap64 ((t198.size : Int) - (mx x1 0)))) : Int).toNat)).bind fun t215 => ((figureheadref01_Same.f k bt201.1 t215).bind fun t218 => (if t218 = true then ((figureheadref01_Number.f k (t198.extract ((mx 0 (wrap64 ((t198.size : Int) - (mx x1 0)))) : Int).toNat t198.size)).bind fun t219 => ((figureheadref01_Same.f k bt201.2 t219).bind fun t222 => (some t222))) else (some false)))) else (none)) else (none)) else (some false))))) else (some false))))) else (none))))
def figureheadlaw04_TenShifts.f (k : Nat) (l0 : List Int) (a1 : Int) : Option (Bool) := (figureheadlaw04_good.f k l0).bind fun t196 => (if t196 = true then (figureheadlaw04_TenShifts.j0 k l0 a1 (decide (a1 > 400))) else (figureheadlaw04_TenShifts.j0 k l0 a1 true))
theorem figureheadlaw04_TenShifts.mono_l : ∀ k, (∀ y0 y1 y2, LeO (figureheadlaw04_TenShifts.j0 k y0 y1 y2) (figureheadlaw04_TenShifts.j0 (k + 1) y0 y1 y2))
  | 0 => fun _ _ _ r h => by simp [figureheadlaw04_TenShifts.j0] at h
  | k + 1 => by
    have ih0 := figureheadlaw04_TenShifts.mono_l k
    · intro y0 y1 y2
      unfold figureheadlaw04_TenShifts.j0
      repeat' first
      | (with_reducible exact ih0 _ _ _)
      | (with_reducible exact figureheadlaw04_good.mono _ _)
      | (with_reducible exact figureheadref01_Number.mono _ _)
      | (with_reducible exact figureheadref01_Same.mono _ _ _)
      | (with_reducible exact figureheadref01_Strip.mono _ _)
      | (with_reducible exact figureheadref01_Text.mono _ _)
      | (with_reducible exact figureheadref01_Zeros.mono _ _)
      | (with_reducible exact LeO.refl _)
      | (with_reducible exact LeO.none _)
      | (with_reducible refine LeO.ite ?_ ?_)
      | (with_reducible refine LeO.bind ?_ (fun _ => ?_))
      | exact ih0 _ _ _
      | exact figureheadlaw04_good.mono _ _
      | exact figureheadref01_Number.mono _ _
      | exact figureheadref01_Same.mono _ _ _
      | exact figureheadref01_Strip.mono _ _
      | exact figureheadref01_Text.mono _ _
      | exact figureheadref01_Zeros.mono _ _
      | exact LeO.none _
      | refine LeO.ite ?_ ?_
      | refine LeO.bind ?_ (fun _ => ?_)
theorem figureheadlaw04_TenShifts.mono : ∀ a0 a1 k, LeO (figureheadlaw04_TenShifts.f k a0 a1) (figureheadlaw04_TenShifts.f (k + 1) a0 a1) := by
  intro a0 a1 k
  have ih0 := figureheadlaw04_TenShifts.mono_l k
  unfold figureheadlaw04_TenShifts.f
  repeat' first
      | (with_reducible exact ih0 _ _ _)
      | (with_reducible exact figureheadlaw04_good.mono _ _)
      | (with_reducible exact figureheadref01_Number.mono _ _)
      | (with_reducible exact figureheadref01_Same.mono _ _ _)
      | (with_reducible exact figureheadref01_Strip.mono _ _)
      | (with_reducible exact figureheadref01_Text.mono _ _)
      | (with_reducible exact figureheadref01_Zeros.mono _ _)
      | (with_reducible exact LeO.refl _)
      | (with_reducible exact LeO.none _)
      | (with_reducible refine LeO.ite ?_ ?_)
      | (with_reducible refine LeO.bind ?_ (fun _ => ?_))
      | exact ih0 _ _ _
      | exact figureheadlaw04_good.mono _ _
      | exact figureheadref01_Number.mono _ _
      | exact figureheadref01_Same.mono _ _ _
      | exact figureheadref01_Strip.mono _ _
      | exact figureheadref01_Text.mono _ _
      | exact figureheadref01_Zeros.mono _ _
      | exact LeO.none _
      | refine LeO.ite ?_ ?_
      | refine LeO.bind ?_ (fun _ => ?_)
set_option maxHeartbeats 8000000 in
set_option maxRecDepth 100000 in
theorem figureheadlaw04_TenShifts.calls (k : Nat) (A0 : Option Addr) (c0 : Nat) (l0 : List Int) (a1 : Int) (r : Bool) (w : World) (hG : Fig.Glob w) (HT : Aside0 (r = true)) (hr0 : Kd.C (Kd.int .u32) w A0 l0.length l0) (hc0 : l0.length ≤ c0) (h : figureheadlaw04_TenShifts.f k l0 a1 = some r) :
    Calls Tryd.prog 5 #[.slice A0 l0.length c0, .int .i64 a1] w fun e w' => e = .returned (.bool r) ∧ Below w.heap.size w w' := by
  have HG := Aside0.mk hG
  clear hG
  have HR0 := Aside0.mk hr0
  have HC0 := Aside0.mk hc0
  clear hr0 hc0
  have HB := Aside0.mk (Below.refl w.heap.size w)
  have H : ((figureheadlaw04_good.f k l0).bind fun t196 => (if t196 = true then (figureheadlaw04_TenShifts.j0 k l0 a1 (decide (a1 > 400))) else (figureheadlaw04_TenShifts.j0 k l0 a1 true))) = some r := h
  clear h
  have HC3 := Aside0.mk H
  clear H
  go_enter Tryd.func5, Tryd.ntmps5
  go_upto_region 1 with (fail)
  go_cut [17] (fun v17 wc => ∃ (kq : Nat) (x17_2 : Bool), v17 = .bool x17_2 ∧ Aside0 (figureheadlaw04_TenShifts.j0 kq l0 a1 x17_2 = some r) ∧ Aside0 (kq ≤ k) ∧ Aside0 (Below w.heap.size w wc))
  case first =>
    have H := HC3.out
    clear HC3
    replace H := Option.bind_eq_some_iff.mp H
    obtain ⟨t196, A40, H⟩ := H
    replace H : (if t196 = true then (figureheadlaw04_TenShifts.j0 k l0 a1 (decide (a1 > 400))) else (figureheadlaw04_TenShifts.j0 k l0 a1 true)) = some r := H
    have A4 := Aside0.mk A40
    clear A40
    by_cases c5 : t196 = true
    · subst c5
      have H1 : (figureheadlaw04_TenShifts.j0 k l0 a1 (decide (a1 > 400))) = some r := by rw [if_pos rfl] at H; exact H
      clear H
      have H := H1
      clear H1
      have H' := Aside0.mk H
      clear H
      go_wp2_with (first | ((with_reducible refine gate_callee (f := 8) rfl ?_); refine goesL_ (some 12) rfl rfl Tryd.func8 (by kernel_rfl) rfl #[.slice A0 l0.length c0] rfl (by (try simp only [List.map_toArray, List.map_cons, List.map_nil]); first | done | rfl | (simp only [List.length_drop, List.length_take]; rfl)) ?_; (with_reducible refine (figureheadlaw04_good.calls k _ _ l0 true _ ?side1 ?side2 A4.out).mono ?_); (case side1 => repeat (first | exact (Kd.C_below HR0.out HB.out) | (with_reducible refine Kd.C_alloc ?_ _) | (with_reducible refine Kd.C_drewN ?_ _) | (with_reducible refine Kd.C_drew ?_))); (case side2 => exact HC0.out); rintro e w' ⟨rfl, ⟨nd, rfl⟩⟩; refine ⟨_, rfl, ?_⟩))
      go_meet
      case rel => exact ⟨_, (decide (a1 > 400)), (by first | rfl | (simp; done) | (simp [*]; done) | (simp [*, Fig.bne_nil]; done)), H', ⟨by first | omega | exact Nat.le_refl _⟩, ⟨by repeat (first | (with_reducible first | exact HB.out | apply below_alloc | apply pw_below_drewN | apply below_drew1) | exact HB.out)⟩⟩
    · replace c5 := Bool.eq_false_iff.mpr c5
      subst c5
      have H1 : (figureheadlaw04_TenShifts.j0 k l0 a1 true) = some r := by rw [if_neg (show ¬ (false = true) by decide)] at H; exact H
      clear H
      have H := H1
      clear H1
      have H' := Aside0.mk H
      clear H
      go_wp2_with (first | ((with_reducible refine gate_callee (f := 8) rfl ?_); refine goesL_ (some 12) rfl rfl Tryd.func8 (by kernel_rfl) rfl #[.slice A0 l0.length c0] rfl (by (try simp only [List.map_toArray, List.map_cons, List.map_nil]); first | done | rfl | (simp only [List.length_drop, List.length_take]; rfl)) ?_; (with_reducible refine (figureheadlaw04_good.calls k _ _ l0 false _ ?side1 ?side2 A4.out).mono ?_); (case side1 => repeat (first | exact (Kd.C_below HR0.out HB.out) | (with_reducible refine Kd.C_alloc ?_ _) | (with_reducible refine Kd.C_drewN ?_ _) | (with_reducible refine Kd.C_drew ?_))); (case side2 => exact HC0.out); rintro e w' ⟨rfl, ⟨nd, rfl⟩⟩; refine ⟨_, rfl, ?_⟩))
      go_meet
      case rel => exact ⟨_, (true), (by first | rfl | (simp; done) | (simp [*]; done) | (simp [*, Fig.bne_nil]; done)), H', ⟨by first | omega | exact Nat.le_refl _⟩, ⟨by repeat (first | (with_reducible first | exact HB.out | apply below_alloc | apply pw_below_drewN | apply below_drew1) | exact HB.out)⟩⟩
  case rest =>
    clear HC3
    try clear p2
    try clear c5
    obtain ⟨kq, x17_2, rfl, HA, HJ2, HB⟩ := hcut
    cases kq with
    | zero => exact absurd HA.out (by simp [figureheadlaw04_TenShifts.j0])
    | succ kj2 =>
      have H := HA.out
      clear HA
      simp only [figureheadlaw04_TenShifts.j0] at H
      by_cases c6 : x17_2 = true
      · subst c6
        have H1 : ((figureheadlaw04_answers.f).bind fun t197 => (some t197)) = some r := by rw [if_pos rfl] at H; exact H
        clear H
        have H := H1
        clear H1
        replace H := Option.bind_eq_some_iff.mp H
        obtain ⟨t197, A70, H⟩ := H
        replace H : (some t197) = some r := H
        have A7 := Aside0.mk A70
        clear A70
        obtain rfl := Option.some.inj H
        go_wp2_with (first | ((with_reducible refine gate_callee (f := 9) rfl ?_); refine goesL_ (some 18) rfl rfl Tryd.func9 (by kernel_rfl) rfl #[] rfl (by (try simp only [List.map_toArray, List.map_cons, List.map_nil]); first | done | rfl | (simp only [List.length_drop, List.length_take]; rfl)) ?_; (with_reducible refine (figureheadlaw04_answers.calls  t197 _ ?side1 ?side2 A7.out).mono ?_); (case side1 => exact Fig.Glob.below HG.out (by repeat (first | (with_reducible first | exact HB.out | apply below_alloc | apply pw_below_drewN | apply below_drew1) | exact HB.out))); (case side2 => exact ⟨by first | rfl | exact HT.out⟩); rintro e w8 ⟨rfl, hb⟩; refine ⟨_, rfl, ?_⟩; have n0_ := Aside0.mk (below_step (by repeat (first | (with_reducible first | exact HB.out | apply below_alloc | apply pw_below_drewN | apply below_drew1) | exact HB.out)) hb); clear HB; have HB := n0_; clear n0_; (try clear hb); (try clear hb2); (try clear hk); (try clear hi)))
        go_ret
        exact ⟨by first | rfl | (simp [errW_none, errW_some] <;> rfl) | (simp [*, errW_none, errW_some] <;> rfl), by repeat (first | (with_reducible first | exact HB.out | apply below_alloc | apply pw_below_drewN | apply below_drew1) | exact HB.out)⟩
      · replace c6 := Bool.eq_false_iff.mpr c6
        subst c6
        have H1 : ((figureheadref01_Text.f kj2 l0).bind fun t198 => ((figureheadref01_Zeros.f kj2 (mx a1 0)).bind fun t199 => (if t198.size + t199.size ≤ 9223372036854775807 then ((figureheadref01_Strip.f kj2 (t198 ++ t199)).bind fun t200 => ((ten_Cut.f l0 a1).bind fun bt201 => ((figureheadlaw04_answers.f).bind fun t207 => (if t207 = true then ((ten_Shift.f l0 a1).bind fun t208 => ((figureheadref01_Number.f kj2 t200).bind fun t211 => ((figureheadref01_Same.f kj2 t208 t211).bind fun t214 => (if t214 = true then (if 0 ≤ (mx 0 (wrap64 ((t198.size : Int) - (mx a1 0)))) then (if (mx 0 (wrap64 ((t198.size : Int) - (mx a1 0)))) ≤ (t198.size : Int) then ((figureheadref01_Number.f kj2 (t198.extract 0 ((mx 0 (wrap64 ((t198.size : Int) - (mx a1 0)))) : Int).toNat)).bind fun t215 => ((figureheadref01_Same.f kj2 bt201.1 t215).bind fun t218 => (if t218 = true then ((figureheadref01_Number.f kj2 (t198.extract ((mx 0 (wrap64 ((t198.size : Int) - (mx a1 0)))) : Int).toNat t198.size)).bind fun t219 => ((figureheadref01_Same.f kj2 bt201.2 t219).bind fun t222 => (some t222))) else (some false)))) else (none)) else (none)) else (some false))))) else (some false))))) else (none)))) = some r := by rw [if_neg (show ¬ (false = true) by decide)] at H; exact H
        clear H
        have H := H1
        clear H1
        obtain ⟨ji9, hji9⟩ : ∃ j_ : Int, (mx a1 0) = j_ := ⟨_, rfl⟩
        replace H : ((figureheadref01_Text.f kj2 l0).bind fun t198 => ((figureheadref01_Zeros.f kj2 (ji9)).bind fun t199 => (if t198.size + t199.size ≤ 9223372036854775807 then ((figureheadref01_Strip.f kj2 (t198 ++ t199)).bind fun t200 => ((ten_Cut.f l0 a1).bind fun bt201 => ((figureheadlaw04_answers.f).bind fun t207 => (if t207 = true then ((ten_Shift.f l0 a1).bind fun t208 => ((figureheadref01_Number.f kj2 t200).bind fun t211 => ((figureheadref01_Same.f kj2 t208 t211).bind fun t214 => (if t214 = true then (if 0 ≤ (mx 0 (wrap64 ((t198.size : Int) - (ji9)))) then (if (mx 0 (wrap64 ((t198.size : Int) - (ji9)))) ≤ (t198.size : Int) then ((figureheadref01_Number.f kj2 (t198.extract 0 ((mx 0 (wrap64 ((t198.size : Int) - (ji9)))) : Int).toNat)).bind fun t215 => ((figureheadref01_Same.f kj2 bt201.1 t215).bind fun t218 => (if t218 = true then ((figureheadref01_Number.f kj2 (t198.extract ((mx 0 (wrap64 ((t198.size : Int) - (ji9)))) : Int).toNat t198.size)).bind fun t219 => ((figureheadref01_Same.f kj2 bt201.2 t219).bind fun t222 => (some t222))) else (some false)))) else (none)) else (none)) else (some false))))) else (some false))))) else (none)))) = some r := by first | (rw [hji9] at H; exact H) | (simp only [hji9] at H ⊢; exact H)
        have hji9_ : (if a1 < 0 then 0 else a1) = ji9 := hji9
        replace H := Option.bind_eq_some_iff.mp H
        obtain ⟨t198, A100, H⟩ := H
        replace H : ((figureheadref01_Zeros.f kj2 (ji9)).bind fun t199 => (if t198.size + t199.size ≤ 9223372036854775807 then ((figureheadref01_Strip.f kj2 (t198 ++ t199)).bind fun t200 => ((ten_Cut.f l0 a1).bind fun bt201 => ((figureheadlaw04_answers.f).bind fun t207 => (if t207 = true then ((ten_Shift.f l0 a1).bind fun t208 => ((figureheadref01_Number.f kj2 t200).bind fun t211 => ((figureheadref01_Same.f kj2 t208 t211).bind fun t214 => (if t214 = true then (if 0 ≤ (mx 0 (wrap64 ((t198.size : Int) - (ji9)))) then (if (mx 0 (wrap64 ((t198.size : Int) - (ji9)))) ≤ (t198.size : Int) then ((figureheadref01_Number.f kj2 (t198.extract 0 ((mx 0 (wrap64 ((t198.size : Int) - (ji9)))) : Int).toNat)).bind fun t215 => ((figureheadref01_Same.f kj2 bt201.1 t215).bind fun t218 => (if t218 = true then ((figureheadref01_Number.f kj2 (t198.extract ((mx 0 (wrap64 ((t198.size : Int) - (ji9)))) : Int).toNat t198.size)).bind fun t219 => ((figureheadref01_Same.f kj2 bt201.2 t219).bind fun t222 => (some t222))) else (some false)))) else (none)) else (none)) else (some false))))) else (some false))))) else (none))) = some r := H
        have A10 := Aside0.mk A100
        clear A100
        replace H := Option.bind_eq_some_iff.mp H
        obtain ⟨t199, A110, H⟩ := H
        replace H : (if t198.size + t199.size ≤ 9223372036854775807 then ((figureheadref01_Strip.f kj2 (t198 ++ t199)).bind fun t200 => ((ten_Cut.f l0 a1).bind fun bt201 => ((figureheadlaw04_answers.f).bind fun t207 => (if t207 = true then ((ten_Shift.f l0 a1).bind fun t208 => ((figureheadref01_Number.f kj2 t200).bind fun t211 => ((figureheadref01_Same.f kj2 t208 t211).bind fun t214 => (if t214 = true then (if 0 ≤ (mx 0 (wrap64 ((t198.size : Int) - (ji9)))) then (if (mx 0 (wrap64 ((t198.size : Int) - (ji9)))) ≤ (t198.size : Int) then ((figureheadref01_Number.f kj2 (t198.extract 0 ((mx 0 (wrap64 ((t198.size : Int) - (ji9)))) : Int).toNat)).bind fun t215 => ((figureheadref01_Same.f kj2 bt201.1 t215).bind fun t218 => (if t218 = true then ((figureheadref01_Number.f kj2 (t198.extract ((mx 0 (wrap64 ((t198.size : Int) - (ji9)))) : Int).toNat t198.size)).bind fun t219 => ((figureheadref01_Same.f kj2 bt201.2 t219).bind fun t222 => (some t222))) else (some false)))) else (none)) else (none)) else (some false))))) else (some false))))) else (none)) = some r := H
        have A11 := Aside0.mk A110
        clear A110
        by_cases c12 : t198.size + t199.size ≤ 9223372036854775807
        · rw [if_pos c12] at H
          have c12b0 := eq_true c12
          have c12b1 : decide (t198.size + t199.size ≤ 9223372036854775807) = true := decide_eq_true c12
          try have c12b2 : (9223372036854775807 < t198.size + t199.size) = False := eq_false (Nat.not_lt.2 c12)
          replace H := Option.bind_eq_some_iff.mp H
          obtain ⟨t200, A130, H⟩ := H
          replace H : ((ten_Cut.f l0 a1).bind fun bt201 => ((figureheadlaw04_answers.f).bind fun t207 => (if t207 = true then ((ten_Shift.f l0 a1).bind fun t208 => ((figureheadref01_Number.f kj2 t200).bind fun t211 => ((figureheadref01_Same.f kj2 t208 t211).bind fun t214 => (if t214 = true then (if 0 ≤ (mx 0 (wrap64 ((t198.size : Int) - (ji9)))) then (if (mx 0 (wrap64 ((t198.size : Int) - (ji9)))) ≤ (t198.size : Int) then ((figureheadref01_Number.f kj2 (t198.extract 0 ((mx 0 (wrap64 ((t198.size : Int) - (ji9)))) : Int).toNat)).bind fun t215 => ((figureheadref01_Same.f kj2 bt201.1 t215).bind fun t218 => (if t218 = true then ((figureheadref01_Number.f kj2 (t198.extract ((mx 0 (wrap64 ((t198.size : Int) - (ji9)))) : Int).toNat t198.size)).bind fun t219 => ((figureheadref01_Same.f kj2 bt201.2 t219).bind fun t222 => (some t222))) else (some false)))) else (none)) else (none)) else (some false))))) else (some false)))) = some r := H
          have A13 := Aside0.mk A130
          clear A130
          replace H := Option.bind_eq_some_iff.mp H
          obtain ⟨⟨t201, t202⟩, A140, H⟩ := H
          replace H : ((figureheadlaw04_answers.f).bind fun t207 => (if t207 = true then ((ten_Shift.f l0 a1).bind fun t208 => ((figureheadref01_Number.f kj2 t200).bind fun t211 => ((figureheadref01_Same.f kj2 t208 t211).bind fun t214 => (if t214 = true then (if 0 ≤ (mx 0 (wrap64 ((t198.size : Int) - (ji9)))) then (if (mx 0 (wrap64 ((t198.size : Int) - (ji9)))) ≤ (t198.size : Int) then ((figureheadref01_Number.f kj2 (t198.extract 0 ((mx 0 (wrap64 ((t198.size : Int) - (ji9)))) : Int).toNat)).bind fun t215 => ((figureheadref01_Same.f kj2 t201 t215).bind fun t218 => (if t218 = true then ((figureheadref01_Number.f kj2 (t198.extract ((mx 0 (wrap64 ((t198.size : Int) - (ji9)))) : Int).toNat t198.size)).bind fun t219 => ((figureheadref01_Same.f kj2 t202 t219).bind fun t222 => (some t222))) else (some false)))) else (none)) else (none)) else (some false))))) else (some false))) = some r := H
          have A14 := Aside0.mk A140
          clear A140
          obtain ⟨ji15, hji15⟩ : ∃ j_ : Int, (mx 0 (wrap64 ((t198.size : Int) - (ji9)))) = j_ := ⟨_, rfl⟩
          replace H : ((figureheadlaw04_answers.f).bind fun t207 => (if t207 = true then ((ten_Shift.f l0 a1).bind fun t208 => ((figureheadref01_Number.f kj2 t200).bind fun t211 => ((figureheadref01_Same.f kj2 t208 t211).bind fun t214 => (if t214 = true then (if 0 ≤ (ji15) then (if (ji15) ≤ (t198.size : Int) then ((figureheadref01_Number.f kj2 (t198.extract 0 ((ji15) : Int).toNat)).bind fun t215 => ((figureheadref01_Same.f kj2 t201 t215).bind fun t218 => (if t218 = true then ((figureheadref01_Number.f kj2 (t198.extract ((ji15) : Int).toNat t198.size)).bind fun t219 => ((figureheadref01_Same.f kj2 t202 t219).bind fun t222 => (some t222))) else (some false)))) else (none)) else (none)) else (some false))))) else (some false))) = some r := by first | (rw [hji15] at H; exact H) | (simp only [hji15] at H ⊢; exact H)
          (try rw [hji15] at A10)
          (try rw [hji15] at A11)
          (try rw [hji15] at A13)
          (try rw [hji15] at A14)
          have hji15_ : (if 0 < (wrap64 ((t198.size : Int) - (ji9))) then (wrap64 ((t198.size : Int) - (ji9))) else 0) = ji15 := hji15
          replace H := Option.bind_eq_some_iff.mp H
          obtain ⟨t207, A160, H⟩ := H
          replace H : (if t207 = true then ((ten_Shift.f l0 a1).bind fun t208 => ((figureheadref01_Number.f kj2 t200).bind fun t211 => ((figureheadref01_Same.f kj2 t208 t211).bind fun t214 => (if t214 = true then (if 0 ≤ (ji15) then (if (ji15) ≤ (t198.size : Int) then ((figureheadref01_Number.f kj2 (t198.extract 0 ((ji15) : Int).toNat)).bind fun t215 => ((figureheadref01_Same.f kj2 t201 t215).bind fun t218 => (if t218 = true then ((figureheadref01_Number.f kj2 (t198.extract ((ji15) : Int).toNat t198.size)).bind fun t219 => ((figureheadref01_Same.f kj2 t202 t219).bind fun t222 => (some t222))) else (some false)))) else (none)) else (none)) else (some false))))) else (some false)) = some r := H
          have A16 := Aside0.mk A160
          clear A160
          by_cases c17 : t207 = true
          · subst c17
            have H1 : ((ten_Shift.f l0 a1).bind fun t208 => ((figureheadref01_Number.f kj2 t200).bind fun t211 => ((figureheadref01_Same.f kj2 t208 t211).bind fun t214 => (if t214 = true then (if 0 ≤ (ji15) then (if (ji15) ≤ (t198.size : Int) then ((figureheadref01_Number.f kj2 (t198.extract 0 ((ji15) : Int).toNat)).bind fun t215 => ((figureheadref01_Same.f kj2 t201 t215).bind fun t218 => (if t218 = true then ((figureheadref01_Number.f kj2 (t198.extract ((ji15) : Int).toNat t198.size)).bind fun t219 => ((figureheadref01_Same.f kj2 t202 t219).bind fun t222 => (some t222))) else (some false)))) else (none)) else (none)) else (some false))))) = some r := by rw [if_pos rfl] at H; exact H
            clear H
            have H := H1
            clear H1
            replace H := Option.bind_eq_some_iff.mp H
            obtain ⟨t208, A180, H⟩ := H
            replace H : ((figureheadref01_Number.f kj2 t200).bind fun t211 => ((figureheadref01_Same.f kj2 t208 t211).bind fun t214 => (if t214 = true then (if 0 ≤ (ji15) then (if (ji15) ≤ (t198.size : Int) then ((figureheadref01_Number.f kj2 (t198.extract 0 ((ji15) : Int).toNat)).bind fun t215 => ((figureheadref01_Same.f kj2 t201 t215).bind fun t218 => (if t218 = true then ((figureheadref01_Number.f kj2 (t198.extract ((ji15) : Int).toNat t198.size)).bind fun t219 => ((figureheadref01_Same.f kj2 t202 t219).bind fun t222 => (some t222))) else (some false)))) else (none)) else (none)) else (some false)))) = some r := H
            have A18 := Aside0.mk A180
            clear A180
            replace H := Option.bind_eq_some_iff.mp H
            obtain ⟨t211, A190, H⟩ := H
            replace H : ((figureheadref01_Same.f kj2 t208 t211).bind fun t214 => (if t214 = true then (if 0 ≤ (ji15) then (if (ji15) ≤ (t198.size : Int) then ((figureheadref01_Number.f kj2 (t198.extract 0 ((ji15) : Int).toNat)).bind fun t215 => ((figureheadref01_Same.f kj2 t201 t215).bind fun t218 => (if t218 = true then ((figureheadref01_Number.f kj2 (t198.extract ((ji15) : Int).toNat t198.size)).bind fun t219 => ((figureheadref01_Same.f kj2 t202 t219).bind fun t222 => (some t222))) else (some false)))) else (none)) else (none)) else (some false))) = some r := H
            have A19 := Aside0.mk A190
            clear A190
            replace H := Option.bind_eq_some_iff.mp H
            obtain ⟨t214, A200, H⟩ := H
            replace H : (if t214 = true then (if 0 ≤ (ji15) then (if (ji15) ≤ (t198.size : Int) then ((figureheadref01_Number.f kj2 (t198.extract 0 ((ji15) : Int).toNat)).bind fun t215 => ((figureheadref01_Same.f kj2 t201 t215).bind fun t218 => (if t218 = true then ((figureheadref01_Number.f kj2 (t198.extract ((ji15) : Int).toNat t198.size)).bind fun t219 => ((figureheadref01_Same.f kj2 t202 t219).bind fun t222 => (some t222))) else (some false)))) else (none)) else (none)) else (some false)) = some r := H
            have A20 := Aside0.mk A200
            clear A200
            by_cases c21 : t214 = true
            · subst c21
              have H1 : (if 0 ≤ (ji15) then (if (ji15) ≤ (t198.size : Int) then ((figureheadref01_Number.f kj2 (t198.extract 0 ((ji15) : Int).toNat)).bind fun t215 => ((figureheadref01_Same.f kj2 t201 t215).bind fun t218 => (if t218 = true then ((figureheadref01_Number.f kj2 (t198.extract ((ji15) : Int).toNat t198.size)).bind fun t219 => ((figureheadref01_Same.f kj2 t202 t219).bind fun t222 => (some t222))) else (some false)))) else (none)) else (none)) = some r := by rw [if_pos rfl] at H; exact H
              clear H
              have H := H1
              clear H1
              by_cases c22 : 0 ≤ (ji15)
              · rw [if_pos c22] at H
                have c22b0 := eq_true c22
                have c22b1 : decide (0 ≤ (ji15)) = true := decide_eq_true c22
                clear c22
                by_cases c23 : (ji15) ≤ (t198.size : Int)
                · rw [if_pos c23] at H
                  have c23b0 := eq_true c23
                  have c23b1 : decide ((ji15) ≤ (t198.size : Int)) = true := decide_eq_true c23
                  clear c23
                  replace H := Option.bind_eq_some_iff.mp H
                  obtain ⟨t215, A240, H⟩ := H
                  replace H : ((figureheadref01_Same.f kj2 t201 t215).bind fun t218 => (if t218 = true then ((figureheadref01_Number.f kj2 (t198.extract ((ji15) : Int).toNat t198.size)).bind fun t219 => ((figureheadref01_Same.f kj2 t202 t219).bind fun t222 => (some t222))) else (some false))) = some r := H
                  have A24 := Aside0.mk A240
                  clear A240
                  replace H := Option.bind_eq_some_iff.mp H
                  obtain ⟨t218, A250, H⟩ := H
                  replace H : (if t218 = true then ((figureheadref01_Number.f kj2 (t198.extract ((ji15) : Int).toNat t198.size)).bind fun t219 => ((figureheadref01_Same.f kj2 t202 t219).bind fun t222 => (some t222))) else (some false)) = some r := H
                  have A25 := Aside0.mk A250
                  clear A250
                  by_cases c26 : t218 = true
                  · subst c26
                    have H1 : ((figureheadref01_Number.f kj2 (t198.extract ((ji15) : Int).toNat t198.size)).bind fun t219 => ((figureheadref01_Same.f kj2 t202 t219).bind fun t222 => (some t222))) = some r := by rw [if_pos rfl] at H; exact H
                    clear H
                    have H := H1
                    clear H1
                    have c27b0 := eq_true (of_decide_eq_true (by first | (with_reducible assumption) | assumption) : 0 ≤ (ji15))
                    have c28b0 := eq_true (of_decide_eq_true (by first | (with_reducible assumption) | assumption) : (ji15) ≤ (t198.size : Int))
                    replace H := Option.bind_eq_some_iff.mp H
                    obtain ⟨t219, A290, H⟩ := H
                    replace H : ((figureheadref01_Same.f kj2 t202 t219).bind fun t222 => (some t222)) = some r := H
                    have A29 := Aside0.mk A290
                    clear A290
                    replace H := Option.bind_eq_some_iff.mp H
                    obtain ⟨t222, A300, H⟩ := H
                    replace H : (some t222) = some r := H
                    have A30 := Aside0.mk A300
                    clear A300
                    obtain rfl := Option.some.inj H
                    go_wp2_with (first | ((with_reducible refine gate_callee (f := 10) rfl ?_); refine goesL_ (some 22) rfl rfl Tryd.func10 (by kernel_rfl) rfl #[.slice A0 l0.length c0] rfl (by (try simp only [List.map_toArray, List.map_cons, List.map_nil]); first | done | rfl | (simp only [List.length_drop, List.length_take]; rfl)) ?_; (with_reducible refine (figureheadref01_Text.calls kj2 _ _ l0 t198 _ ?side1 ?side2 A10.out).mono ?_); (case side1 => repeat (first | exact (Kd.C_below HR0.out HB.out) | (with_reducible refine Kd.C_alloc ?_ _) | (with_reducible refine Kd.C_drewN ?_ _) | (with_reducible refine Kd.C_drew ?_))); (case side2 => exact HC0.out); rintro e w31 ⟨rfl, hb⟩; refine ⟨_, rfl, ?_⟩; have n0_ := Aside0.mk (below_step (by repeat (first | (with_reducible first | exact HB.out | apply below_alloc | apply pw_below_drewN | apply below_drew1) | exact HB.out)) hb); clear HB; have HB := n0_; clear n0_; (try clear hb); (try clear hb2); (try clear hk); (try clear hi)) | ((with_reducible refine gate_callee (f := 18) rfl ?_); refine goesL_ (some 25) rfl rfl Tryd.func18 (by kernel_rfl) rfl #[.int .i64 ji9] rfl (by (try simp only [List.map_toArray, List.map_cons, List.map_nil]); first | done | (simp only [hji9]; rfl) | rfl | (simp only [List.length_drop, List.length_take]; rfl)) ?_; (with_reducible refine (figureheadref01_Zeros.calls kj2 ji9 t199 _ A11.out).mono ?_); rintro e w32 ⟨rfl, hb⟩; refine ⟨_, rfl, ?_⟩; have n0_ := Aside0.mk (below_step (by repeat (first | (with_reducible first | exact HB.out | apply below_alloc | apply pw_below_drewN | apply below_drew1) | exact HB.out)) hb); clear HB; have HB := n0_; clear n0_; (try clear hb); (try clear hb2); (try clear hk); (try clear hi)) | ((with_reducible refine gate_callee (f := 17) rfl ?_); refine goesL_ (some 27) rfl rfl Tryd.func17 (by kernel_rfl) rfl #[.string (t198 ++ t199)] rfl (by (try simp only [List.map_toArray, List.map_cons, List.map_nil]); first | done | rfl | (simp only [List.length_drop, List.length_take]; rfl)) ?_; (with_reducible refine (figureheadref01_Strip.calls kj2 (t198 ++ t199) t200 _ A13.out).mono ?_); rintro e w' ⟨rfl, ⟨nd, rfl⟩⟩; refine ⟨_, rfl, ?_⟩) | ((with_reducible refine gate_callee (f := 19) rfl ?_); refine goesL_ (some 31) rfl rfl Tryd.func19 (by kernel_rfl) rfl #[.slice A0 l0.length c0, .int .i64 a1] rfl (by (try simp only [List.map_toArray, List.map_cons, List.map_nil]); first | done | rfl | (simp only [List.length_drop, List.length_take]; rfl)) ?_; (with_reducible refine (ten_Cut.calls _ _ l0 a1 t201 t202 _ ?side1 ?side2 ?side3 A14.out).mono ?_); (case side1 => exact Fig.Glob.below HG.out (by repeat (first | (with_reducible first | exact HB.out | apply below_alloc | apply pw_below_drewN | apply below_drew1) | exact HB.out))); (case side2 => repeat (first | exact (Kd.C_below HR0.out (by repeat (first | (with_reducible first | exact HB.out | apply below_alloc | apply pw_below_drewN | apply below_drew1) | exact HB.out))) | (with_reducible refine Kd.C_alloc ?_ _) | (with_reducible refine Kd.C_drewN ?_ _) | (with_reducible refine Kd.C_drew ?_))); (case side3 => exact HC0.out); rintro e w33 ⟨v203, v205, rfl, ho0, ho1, hb⟩; refine ⟨_, rfl, ?_⟩; have n0_ := Aside0.mk (Kd.R_lower ho0 (below_size (by repeat (first | (with_reducible first | exact HB.out | apply below_alloc | apply pw_below_drewN | apply below_drew1) | exact HB.out)))); have n1_ := Aside0.mk (Kd.R_lower ho1 (below_size (by repeat (first | (with_reducible first | exact HB.out | apply below_alloc | apply pw_below_drewN | apply below_drew1) | exact HB.out)))); have n2_ := Aside0.mk (below_step (by repeat (first | (with_reducible first | exact HB.out | apply below_alloc | apply pw_below_drewN | apply below_drew1) | exact HB.out)) hb); clear HB; have HO204 := n0_; have HO206 := n1_; have HB := n2_; clear n0_ n1_ n2_; (try clear hb); (try clear hb2); (try clear hk); (try clear hi); (try clear ho0); (try clear ho1)) | ((with_reducible refine gate_callee (f := 9) rfl ?_); refine goesL_ (some 39) rfl rfl Tryd.func9 (by kernel_rfl) rfl #[] rfl (by (try simp only [List.map_toArray, List.map_cons, List.map_nil]); first | done | rfl | (simp only [List.length_drop, List.length_take]; rfl)) ?_; (with_reducible refine (figureheadlaw04_answers.calls  true _ ?side1 ?side2 A16.out).mono ?_); (case side1 => exact Fig.Glob.below HG.out (by repeat (first | (with_reducible first | exact HB.out | apply below_alloc | apply pw_below_drewN | apply below_drew1) | exact HB.out))); (case side2 => exact ⟨by first | rfl | exact HT.out⟩); rintro e w34 ⟨rfl, hb⟩; refine ⟨_, rfl, ?_⟩; have n0_ := Aside0.mk (Kd.R_below (by (with_reducible repeat (first | apply Kd.R_alloc | apply Kd.R_drewN | apply Kd.R_drew)); exact HO204.out) hb); have n1_ := Aside0.mk (Kd.R_below (by (with_reducible repeat (first | apply Kd.R_alloc | apply Kd.R_drewN | apply Kd.R_drew)); exact HO206.out) hb); have n2_ := Aside0.mk (below_step (by repeat (first | (with_reducible first | exact HB.out | apply below_alloc | apply pw_below_drewN | apply below_drew1) | exact HB.out)) hb); clear HO204; clear HO206; clear HB; have HO204 := n0_; have HO206 := n1_; have HB := n2_; clear n0_ n1_ n2_; (try clear hb); (try clear hb2); (try clear hk); (try clear hi)) | ((with_reducible refine gate_dst (N := 43) rfl ?_); (refine gate_guard (by rfl) ?_; dsimp only); (with_reducible refine gate_callee (f := 20) rfl ?_); refine goesL_ (some 43) rfl rfl Tryd.func20 (by kernel_rfl) rfl #[.slice A0 l0.length c0, .int .i64 a1] rfl (by (try simp only [List.map_toArray, List.map_cons, List.map_nil]); first | done | rfl | (simp only [List.length_drop, List.length_take]; rfl)) ?_; (with_reducible refine (ten_Shift.calls _ _ l0 a1 t208 _ ?side1 ?side2 ?side3 A18.out).mono ?_); (case side1 => exact Fig.Glob.below HG.out (by repeat (first | (with_reducible first | exact HB.out | apply below_alloc | apply pw_below_drewN | apply below_drew1) | exact HB.out))); (case side2 => repeat (first | exact (Kd.C_below HR0.out HB.out) | (with_reducible refine Kd.C_alloc ?_ _) | (with_reducible refine Kd.C_drewN ?_ _) | (with_reducible refine Kd.C_drew ?_))); (case side3 => exact HC0.out); rintro e w35 ⟨v209, rfl, ho0, hb⟩; refine ⟨_, rfl, ?_⟩; have n0_ := Aside0.mk (Kd.R_elder' (by (with_reducible repeat (first | apply Kd.R_alloc | apply Kd.R_drewN | apply Kd.R_drew)); exact HO204.out) (Kd.R_base ho0) hb); have n1_ := Aside0.mk (Kd.R_elder' (by (with_reducible repeat (first | apply Kd.R_alloc | apply Kd.R_drewN | apply Kd.R_drew)); exact HO206.out) (Kd.R_base ho0) hb); have n2_ := Aside0.mk (Kd.R_lower (Kd.R_new' (Kd.R_new' ho0 (Kd.R_lt (by (with_reducible repeat (first | apply Kd.R_alloc | apply Kd.R_drewN | apply Kd.R_drew)); exact HO204.out))) (Kd.R_lt (by (with_reducible repeat (first | apply Kd.R_alloc | apply Kd.R_drewN | apply Kd.R_drew)); exact HO206.out))) (below_size (by repeat (first | (with_reducible first | exact HB.out | apply below_alloc | apply pw_below_drewN | apply below_drew1) | exact HB.out)))); have n3_ := Aside0.mk (below_step (by repeat (first | (with_reducible first | exact HB.out | apply below_alloc | apply pw_below_drewN | apply below_drew1) | exact HB.out)) hb); clear HO204; clear HO206; clear HB; have HO204 := n0_; have HO206 := n1_; have HO210 := n2_; have HB := n3_; clear n0_ n1_ n2_ n3_; (try clear hb); (try clear hb2); (try clear hk); (try clear hi); (try clear ho0)) | ((with_reducible refine gate_dst (N := 45) rfl ?_); (refine gate_guard (by rfl) ?_; dsimp only); (with_reducible refine gate_callee (f := 16) rfl ?_); refine goesL_ (some 45) rfl rfl Tryd.func16 (by kernel_rfl) rfl #[.string t200] rfl (by (try simp only [List.map_toArray, List.map_cons, List.map_nil]); first | done | rfl | (simp only [List.length_drop, List.length_take]; rfl)) ?_; (with_reducible refine (figureheadref01_Number.calls kj2 t200 t211 _ A19.out).mono ?_); rintro e w36 ⟨v212, rfl, ho0, hb⟩; refine ⟨_, rfl, ?_⟩; have n0_ := Aside0.mk (Kd.R_elder' (by (with_reducible repeat (first | apply Kd.R_alloc | apply Kd.R_drewN | apply Kd.R_drew)); exact HO204.out) (Kd.R_base ho0) hb); have n1_ := Aside0.mk (Kd.R_elder' (by (with_reducible repeat (first | apply Kd.R_alloc | apply Kd.R_drewN | apply Kd.R_drew)); exact HO206.out) (Kd.R_base ho0) hb); have n2_ := Aside0.mk (Kd.R_elder' (by (with_reducible repeat (first | apply Kd.R_alloc | apply Kd.R_drewN | apply Kd.R_drew)); exact HO210.out) (Kd.R_base ho0) hb); have n3_ := Aside0.mk (Kd.R_lower (Kd.R_new' (Kd.R_new' (Kd.R_new' ho0 (Kd.R_lt (by (with_reducible repeat (first | apply Kd.R_alloc | apply Kd.R_drewN | apply Kd.R_drew)); exact HO204.out))) (Kd.R_lt (by (with_reducible repeat (first | apply Kd.R_alloc | apply Kd.R_drewN | apply Kd.R_drew)); exact HO206.out))) (Kd.R_lt (by (with_reducible repeat (first | apply Kd.R_alloc | apply Kd.R_drewN | apply Kd.R_drew)); exact HO210.out))) (below_size (by repeat (first | (with_reducible first | exact HB.out | apply below_alloc | apply pw_below_drewN | apply below_drew1) | exact HB.out)))); have n4_ := Aside0.mk (below_step (by repeat (first | (with_reducible first | exact HB.out | apply below_alloc | apply pw_below_drewN | apply below_drew1) | exact HB.out)) hb); clear HO204; clear HO206; clear HO210; clear HB; have HO204 := n0_; have HO206 := n1_; have HO210 := n2_; have HO213 := n3_; have HB := n4_; clear n0_ n1_ n2_ n3_ n4_; (try clear hb); (try clear hb2); (try clear hk); (try clear hi); (try clear ho0); obtain ⟨Ao37, co37, eo37⟩ := Kd.R_slice HO210.out; subst eo37; obtain ⟨Ao38, co38, eo38⟩ := Kd.R_slice HO213.out; subst eo38) | ((with_reducible refine gate_dst (N := 46) rfl ?_); (refine gate_guard (by rfl) ?_; dsimp only); (with_reducible refine gate_callee (f := 15) rfl ?_); refine goesL_ (some 46) rfl rfl Tryd.func15 (by kernel_rfl) rfl #[.slice Ao37 t208.length co37, .slice Ao38 t211.length co38] rfl (by (try simp only [List.map_toArray, List.map_cons, List.map_nil]); first | done | rfl | (simp only [List.length_drop, List.length_take]; rfl)) ?_; (with_reducible refine (figureheadref01_Same.calls kj2 _ _ t208 _ _ t211 true _ ?side1 ?side2 ?side3 ?side4 A20.out).mono ?_); (case side1 => repeat (first | exact (Kd.R_reads' HO210.out).2.2 | (with_reducible refine Kd.C_alloc ?_ _) | (with_reducible refine Kd.C_drewN ?_ _) | (with_reducible refine Kd.C_drew ?_))); (case side2 => exact (Kd.R_reads' HO210.out).2.1); (case side3 => repeat (first | exact (Kd.R_reads' HO213.out).2.2 | (with_reducible refine Kd.C_alloc ?_ _) | (with_reducible refine Kd.C_drewN ?_ _) | (with_reducible refine Kd.C_drew ?_))); (case side4 => exact (Kd.R_reads' HO213.out).2.1); rintro e w' ⟨rfl, ⟨nd, rfl⟩⟩; refine ⟨_, rfl, ?_⟩) | ((with_reducible refine gate_dst (N := 53) rfl ?_); (refine gate_guard (by rfl) ?_; dsimp only); (with_reducible refine gate_callee (f := 16) rfl ?_); refine goesL_ (some 53) rfl rfl Tryd.func16 (by kernel_rfl) rfl #[.string (t198.extract 0 ((ji15) : Int).toNat)] rfl (by (try simp only [List.map_toArray, List.map_cons, List.map_nil]); first | done | (simp only [hji15]; rfl) | rfl | (simp only [List.length_drop, List.length_take]; rfl)) ?_; (with_reducible refine (figureheadref01_Number.calls kj2 (t198.extract 0 ((ji15) : Int).toNat) t215 _ A24.out).mono ?_); rintro e w39 ⟨v216, rfl, ho0, hb⟩; refine ⟨_, rfl, ?_⟩; have n0_ := Aside0.mk (Kd.R_elder' (by (with_reducible repeat (first | apply Kd.R_alloc | apply Kd.R_drewN | apply Kd.R_drew)); exact HO204.out) (Kd.R_base ho0) hb); have n1_ := Aside0.mk (Kd.R_elder' (by (with_reducible repeat (first | apply Kd.R_alloc | apply Kd.R_drewN | apply Kd.R_drew)); exact HO206.out) (Kd.R_base ho0) hb); have n2_ := Aside0.mk (Kd.R_elder' (by (with_reducible repeat (first | apply Kd.R_alloc | apply Kd.R_drewN | apply Kd.R_drew)); exact HO210.out) (Kd.R_base ho0) hb); have n3_ := Aside0.mk (Kd.R_elder' (by (with_reducible repeat (first | apply Kd.R_alloc | apply Kd.R_drewN | apply Kd.R_drew)); exact HO213.out) (Kd.R_base ho0) hb); have n4_ := Aside0.mk (Kd.R_lower (Kd.R_new' (Kd.R_new' (Kd.R_new' (Kd.R_new' ho0 (Kd.R_lt (by (with_reducible repeat (first | apply Kd.R_alloc | apply Kd.R_drewN | apply Kd.R_drew)); exact HO204.out))) (Kd.R_lt (by (with_reducible repeat (first | apply Kd.R_alloc | apply Kd.R_drewN | apply Kd.R_drew)); exact HO206.out))) (Kd.R_lt (by (with_reducible repeat (first | apply Kd.R_alloc | apply Kd.R_drewN | apply Kd.R_drew)); exact HO210.out))) (Kd.R_lt (by (with_reducible repeat (first | apply Kd.R_alloc | apply Kd.R_drewN | apply Kd.R_drew)); exact HO213.out))) (below_size (by repeat (first | (with_reducible first | exact HB.out | apply below_alloc | apply pw_below_drewN | apply below_drew1) | exact HB.out)))); have n5_ := Aside0.mk (below_step (by repeat (first | (with_reducible first | exact HB.out | apply below_alloc | apply pw_below_drewN | apply below_drew1) | exact HB.out)) hb); clear HO204; clear HO206; clear HO210; clear HO213; clear HB; have HO204 := n0_; have HO206 := n1_; have HO210 := n2_; have HO213 := n3_; have HO217 := n4_; have HB := n5_; clear n0_ n1_ n2_ n3_ n4_ n5_; (try clear hb); (try clear hb2); (try clear hk); (try clear hi); (try clear ho0); obtain ⟨Ao40, co40, eo40⟩ := Kd.R_slice HO204.out; subst eo40; obtain ⟨Ao41, co41, eo41⟩ := Kd.R_slice HO217.out; subst eo41) | ((with_reducible refine gate_dst (N := 54) rfl ?_); (refine gate_guard (by rfl) ?_; dsimp only); (with_reducible refine gate_callee (f := 15) rfl ?_); refine goesL_ (some 54) rfl rfl Tryd.func15 (by kernel_rfl) rfl #[.slice Ao40 t201.length co40, .slice Ao41 t215.length co41] rfl (by (try simp only [List.map_toArray, List.map_cons, List.map_nil]); first | done | rfl | (simp only [List.length_drop, List.length_take]; rfl)) ?_; (with_reducible refine (figureheadref01_Same.calls kj2 _ _ t201 _ _ t215 true _ ?side1 ?side2 ?side3 ?side4 A25.out).mono ?_); (case side1 => repeat (first | exact (Kd.R_reads' HO204.out).2.2 | (with_reducible refine Kd.C_alloc ?_ _) | (with_reducible refine Kd.C_drewN ?_ _) | (with_reducible refine Kd.C_drew ?_))); (case side2 => exact (Kd.R_reads' HO204.out).2.1); (case side3 => repeat (first | exact (Kd.R_reads' HO217.out).2.2 | (with_reducible refine Kd.C_alloc ?_ _) | (with_reducible refine Kd.C_drewN ?_ _) | (with_reducible refine Kd.C_drew ?_))); (case side4 => exact (Kd.R_reads' HO217.out).2.1); rintro e w' ⟨rfl, ⟨nd, rfl⟩⟩; refine ⟨_, rfl, ?_⟩) | ((with_reducible refine gate_dst (N := 61) rfl ?_); (refine gate_guard (by rfl) ?_; dsimp only); (with_reducible refine gate_callee (f := 16) rfl ?_); refine goesL_ (some 61) rfl rfl Tryd.func16 (by kernel_rfl) rfl #[.string (t198.extract ((ji15) : Int).toNat t198.size)] rfl (by (try simp only [List.map_toArray, List.map_cons, List.map_nil]); first | done | (simp only [hji15]; rfl) | rfl | (simp only [List.length_drop, List.length_take]; rfl)) ?_; (with_reducible refine (figureheadref01_Number.calls kj2 (t198.extract ((ji15) : Int).toNat t198.size) t219 _ A29.out).mono ?_); rintro e w42 ⟨v220, rfl, ho0, hb⟩; refine ⟨_, rfl, ?_⟩; have n0_ := Aside0.mk (Kd.R_elder' (by (with_reducible repeat (first | apply Kd.R_alloc | apply Kd.R_drewN | apply Kd.R_drew)); exact HO204.out) (Kd.R_base ho0) hb); have n1_ := Aside0.mk (Kd.R_elder' (by (with_reducible repeat (first | apply Kd.R_alloc | apply Kd.R_drewN | apply Kd.R_drew)); exact HO206.out) (Kd.R_base ho0) hb); have n2_ := Aside0.mk (Kd.R_elder' (by (with_reducible repeat (first | apply Kd.R_alloc | apply Kd.R_drewN | apply Kd.R_drew)); exact HO210.out) (Kd.R_base ho0) hb); have n3_ := Aside0.mk (Kd.R_elder' (by (with_reducible repeat (first | apply Kd.R_alloc | apply Kd.R_drewN | apply Kd.R_drew)); exact HO213.out) (Kd.R_base ho0) hb); have n4_ := Aside0.mk (Kd.R_elder' (by (with_reducible repeat (first | apply Kd.R_alloc | apply Kd.R_drewN | apply Kd.R_drew)); exact HO217.out) (Kd.R_base ho0) hb); have n5_ := Aside0.mk (Kd.R_lower (Kd.R_new' (Kd.R_new' (Kd.R_new' (Kd.R_new' (Kd.R_new' ho0 (Kd.R_lt (by (with_reducible repeat (first | apply Kd.R_alloc | apply Kd.R_drewN | apply Kd.R_drew)); exact HO204.out))) (Kd.R_lt (by (with_reducible repeat (first | apply Kd.R_alloc | apply Kd.R_drewN | apply Kd.R_drew)); exact HO206.out))) (Kd.R_lt (by (with_reducible repeat (first | apply Kd.R_alloc | apply Kd.R_drewN | apply Kd.R_drew)); exact HO210.out))) (Kd.R_lt (by (with_reducible repeat (first | apply Kd.R_alloc | apply Kd.R_drewN | apply Kd.R_drew)); exact HO213.out))) (Kd.R_lt (by (with_reducible repeat (first | apply Kd.R_alloc | apply Kd.R_drewN | apply Kd.R_drew)); exact HO217.out))) (below_size (by repeat (first | (with_reducible first | exact HB.out | apply below_alloc | apply pw_below_drewN | apply below_drew1) | exact HB.out)))); have n6_ := Aside0.mk (below_step (by repeat (first | (with_reducible first | exact HB.out | apply below_alloc | apply pw_below_drewN | apply below_drew1) | exact HB.out)) hb); clear HO204; clear HO206; clear HO210; clear HO213; clear HO217; clear HB; have HO204 := n0_; have HO206 := n1_; have HO210 := n2_; have HO213 := n3_; have HO217 := n4_; have HO221 := n5_; have HB := n6_; clear n0_ n1_ n2_ n3_ n4_ n5_ n6_; (try clear hb); (try clear hb2); (try clear hk); (try clear hi); (try clear ho0); obtain ⟨Ao43, co43, eo43⟩ := Kd.R_slice HO206.out; subst eo43; obtain ⟨Ao44, co44, eo44⟩ := Kd.R_slice HO221.out; subst eo44) | ((with_reducible refine gate_dst (N := 62) rfl ?_); (refine gate_guard (by rfl) ?_; dsimp only); (with_reducible refine gate_callee (f := 15) rfl ?_); refine goesL_ (some 62) rfl rfl Tryd.func15 (by kernel_rfl) rfl #[.slice Ao43 t202.length co43, .slice Ao44 t219.length co44] rfl (by (try simp only [List.map_toArray, List.map_cons, List.map_nil]); first | done | rfl | (simp only [List.length_drop, List.length_take]; rfl)) ?_; (with_reducible refine (figureheadref01_Same.calls kj2 _ _ t202 _ _ t219 t222 _ ?side1 ?side2 ?side3 ?side4 A30.out).mono ?_); (case side1 => repeat (first | exact (Kd.R_reads' HO206.out).2.2 | (with_reducible refine Kd.C_alloc ?_ _) | (with_reducible refine Kd.C_drewN ?_ _) | (with_reducible refine Kd.C_drew ?_))); (case side2 => exact (Kd.R_reads' HO206.out).2.1); (case side3 => repeat (first | exact (Kd.R_reads' HO221.out).2.2 | (with_reducible refine Kd.C_alloc ?_ _) | (with_reducible refine Kd.C_drewN ?_ _) | (with_reducible refine Kd.C_drew ?_))); (case side4 => exact (Kd.R_reads' HO221.out).2.1); rintro e w' ⟨rfl, ⟨nd, rfl⟩⟩; refine ⟨_, rfl, ?_⟩))
                    go_ret
                    exact ⟨by first | rfl | (simp [errW_none, errW_some] <;> rfl) | (simp only [← hji9, ← hji15]; first | rfl | (simp [errW_none, errW_some] <;> rfl)) | (simp [*, errW_none, errW_some] <;> rfl), by repeat (first | (with_reducible first | exact HB.out | apply below_alloc | apply pw_below_drewN | apply below_drew1) | exact HB.out)⟩
                  · replace c26 := Bool.eq_false_iff.mpr c26
                    subst c26
                    have H1 : (some false) = some r := by rw [if_neg (show ¬ (false = true) by decide)] at H; exact H
                    clear H
                    have H := H1
                    clear H1
                    exact absurd ((Option.some.inj H).trans HT.out) (by decide)
                · rw [if_neg c23] at H
                  exact absurd H (by simp)
              · rw [if_neg c22] at H
                exact absurd H (by simp)
            · replace c21 := Bool.eq_false_iff.mpr c21
              subst c21
              have H1 : (some false) = some r := by rw [if_neg (show ¬ (false = true) by decide)] at H; exact H
              clear H
              have H := H1
              clear H1
              exact absurd ((Option.some.inj H).trans HT.out) (by decide)
          · replace c17 := Bool.eq_false_iff.mpr c17
            subst c17
            have H1 : (some false) = some r := by rw [if_neg (show ¬ (false = true) by decide)] at H; exact H
            clear H
            have H := H1
            clear H1
            exact absurd ((Option.some.inj H).trans HT.out) (by decide)
        · rw [if_neg c12] at H
          exact absurd H (by simp)

end Go.Proofs.YtnpibnjncjieaaaDoor.Px

namespace Go.Proofs.YtnpibnjncjieaaaDoor.Px
open Fig Go.RowKit Go.Proofs.YtnpibnjncjieaaaDoorW.PrintWords Go.Proofs.YtnpibnjncjieaaaDoorW.PrintLast Go.Proofs.YtnpibnjncjieaaaDoorW.PrintMore
attribute [local go_sem] max2_int min2_int max_two min_two max_three min_three max_four min_four   -- for this text's walks alone

/-! plain facts: figureheadref01_Good -/
theorem Good_loop (l : List Int) (hl : l.length ≤ 4611686018427387904) (h0 : ∀ x ∈ l, 0 ≤ x) : ∀ (d n : Nat), l.length - n = d → n ≤ l.length → Ev (fun k => figureheadref01_Good.l0 k l (n : Int)) (goodL (l.drop n))
  | 0, n, hd, hn => by
    refine evDone (r' := true) (fun k => ?_) ?_
    · simp only [figureheadref01_Good.l0]; rw [if_neg (by omega)]
    · rw [List.drop_of_length_le (by omega)]; rfl
  | d + 1, n, hd, hn => by
    have hlt : n < l.length := by omega
    have hb := rd_get hlt
    have hc := List.drop_eq_getElem_cons hlt
    have hp := h0 _ (List.getElem_mem hlt)
    by_cases h9 : rd l (n : Int) > 999999999
    · refine evDone (r' := false) (fun k => ?_) ?_
      · simp only [figureheadref01_Good.l0]; rw [if_pos (by omega), if_pos (by omega), if_pos h9]
      · rw [hc]; symm; rw [Bool.eq_false_iff]; intro e; have := (goodL_cons.1 e).1; omega
    · refine Ev.step (f := fun k => figureheadref01_Good.l0 k l ((n + 1 : Nat) : Int)) (fun k => ?_) ?_
      · simp only [figureheadref01_Good.l0]; rw [if_pos (by omega), if_pos (by omega), if_neg h9, w64 (by omega) (by omega)]; rfl
      · have := Good_loop l hl h0 d (n + 1) (by omega) (by omega)
        rw [hc]
        have e : goodL (l[n] :: l.drop (n + 1)) = goodL (l.drop (n + 1)) := by
          rw [Bool.eq_iff_iff, goodL_cons]
          exact ⟨fun h => h.2, fun h => ⟨⟨hp, by omega⟩, h⟩⟩
        rw [e]; exact this
theorem Good_ev {l : List Int} (hl : l.length ≤ 4611686018427387904) (h0 : ∀ x ∈ l, 0 ≤ x) : Ev (fun k => figureheadref01_Good.f k l) (goodL l) := by
  have := Good_loop l hl h0 l.length 0 (by omega) (by omega)
  simpa [figureheadref01_Good.f] using this

end Go.Proofs.YtnpibnjncjieaaaDoor.Px

namespace Go.Proofs.YtnpibnjncjieaaaDoor.Px
open Fig Go.RowKit Go.Proofs.YtnpibnjncjieaaaDoorW.PrintWords Go.Proofs.YtnpibnjncjieaaaDoorW.PrintLast Go.Proofs.YtnpibnjncjieaaaDoorW.PrintMore
attribute [local go_sem] max2_int min2_int max_two min_two max_three min_three max_four min_four   -- for this text's walks alone

/-! plain facts: figureheadlaw04_good -/
theorem good04_ev {l : List Int} (h0 : ∀ x ∈ l, 0 ≤ x ∧ x < 4294967296) (hl : l.length ≤ 1000000000000000000) : Ev (fun k => figureheadlaw04_good.f k l) (decide (l.length ≤ 40) && goodL l) := by
  unfold figureheadlaw04_good.f
  by_cases h : l.length ≤ 40
  · have h2 : (l.length : Int) ≤ 40 := by omega
    simp only [h2, h, if_true, decide_true, Bool.true_and]
    exact Ev.bind (Good_ev (by omega) (fun x hx => (h0 x hx).1)) (Ev.now _)
  · have h2 : ¬ (l.length : Int) ≤ 40 := by omega
    simp only [h2, h, if_false, decide_false, Bool.false_and]
    exact Ev.now _

end Go.Proofs.YtnpibnjncjieaaaDoor.Px

namespace Go.Proofs.YtnpibnjncjieaaaDoor.Px
open Fig Go.RowKit Go.Proofs.YtnpibnjncjieaaaDoorW.PrintWords Go.Proofs.YtnpibnjncjieaaaDoorW.PrintLast Go.Proofs.YtnpibnjncjieaaaDoorW.PrintMore
attribute [local go_sem] max2_int min2_int max_two min_two max_three min_three max_four min_four   -- for this text's walks alone

/-! plain facts: figureheadlaw04_answers -/
theorem limbs_eq {l : List Int} {n : Nat} (g : goodL l = true) (ht : trimL l = l) (hv : valL l = n) : limbs n = l := by rw [← hv, ← trimL_eq g, ht]
theorem answers04 : figureheadlaw04_answers.f = some true := by
  have n1 : ten_Number.f (⟨#[48, 48, 49, 50, 48, 48, 48, 48, 48, 48, 48, 51, 52]⟩ : ByteArray) = some ([34, 12], true) := by
    unfold ten_Number.f
    rw [if_pos (by decide), if_pos ⟨by decide, by decide⟩, limbs_eq (l := [34, 12]) (by decide) (by decide) (by decide)]
  have n2 : ten_Number.f (⟨#[]⟩ : ByteArray) = some ([], false) := by
    unfold ten_Number.f
    rw [if_pos (by decide), if_neg (by decide)]
  have c1 : ten_Cut.f [1234] 2 = some ([12], [34]) := by
    unfold ten_Cut.f
    rw [if_pos (by decide)]
    rw [limbs_eq (l := [12]) (by decide) (by decide) (by decide), limbs_eq (l := [34]) (by decide) (by decide) (by decide)]
  have hd : digB 12000000034 = (⟨#[49, 50, 48, 48, 48, 48, 48, 48, 48, 51, 52]⟩ : ByteArray) := by
    have := stripB_eq (s := (⟨#[49, 50, 48, 48, 48, 48, 48, 48, 48, 51, 52]⟩ : ByteArray)) (by decide)
    rw [show vB (⟨#[49, 50, 48, 48, 48, 48, 48, 48, 48, 51, 52]⟩ : ByteArray) = 12000000034 by decide] at this
    rw [← this]; rfl
  have dg : ten_Digits.f [34, 12] = some (⟨#[49, 50, 48, 48, 48, 48, 48, 48, 48, 51, 52]⟩ : ByteArray) := by
    unfold ten_Digits.f
    rw [if_pos (by decide), show valL [34, 12] = 12000000034 by decide, zeroB, if_neg (by decide), hd]
  have ln : ten_Len.f [34, 12] = some 11 := by
    unfold ten_Len.f
    rw [show nat_Trim.f [34, 12] = some [34, 12] by unfold nat_Trim.f trimF; rw [if_pos (by decide)]; decide]
    simp only [Option.bind_some]
    rw [if_neg (by decide), dg]; rfl
  unfold figureheadlaw04_answers.f
  rw [n1, n2, c1]
  simp only [Option.bind_some]
  rw [dg, ln]
  simp [rd]

end Go.Proofs.YtnpibnjncjieaaaDoor.Px

namespace Go.Proofs.YtnpibnjncjieaaaDoor.Px
open Fig Go.RowKit Go.Proofs.YtnpibnjncjieaaaDoorW.PrintWords Go.Proofs.YtnpibnjncjieaaaDoorW.PrintLast Go.Proofs.YtnpibnjncjieaaaDoorW.PrintMore
attribute [local go_sem] max2_int min2_int max_two min_two max_three min_three max_four min_four   -- for this text's walks alone

/-! plain facts: figureheadref01_Strip -/
theorem Strip_loop (s : ByteArray) (hs : s.size ≤ 4611686018427387904) : ∀ (d n : Nat), s.size - n = d → n ≤ s.size → Ev (fun k => figureheadref01_Strip.l0 k s (n : Int)) (⟨(stripL (s.data.toList.drop n)).toArray⟩ : ByteArray)
  | 0, n, hd, hn => by
    refine evDone (r' := s.extract n s.size) (fun k => ?_) ?_
    · simp only [figureheadref01_Strip.l0]; rw [if_neg (by omega), if_pos (by omega), if_pos (by omega)]; simp
    · apply B_ext; rw [B_from]
      have : s.data.toList.drop n = [] := List.drop_of_length_le (by rw [← size_eq]; omega)
      rw [this]; rfl
  | d + 1, n, hd, hn => by
    have hlt : n < s.size := by omega
    have hb := bt_get hlt
    have hc := List.drop_eq_getElem_cons (l := s.data.toList) (i := n) (by rw [← size_eq]; exact hlt)
    by_cases h48 : bt s (n : Int) = 48
    · refine Ev.step (f := fun k => figureheadref01_Strip.l0 k s ((n + 1 : Nat) : Int)) (fun k => ?_) ?_
      · simp only [figureheadref01_Strip.l0]; rw [if_pos (by omega), if_pos (by omega), if_pos h48, w64 (by omega) (by omega)]; rfl
      · have := Strip_loop s hs d (n + 1) (by omega) (by omega)
        rw [hc]
        have h2 : s.data.toList[n]'(by rw [← size_eq]; exact hlt) = 48 := UInt8.toNat.inj (by rw [hb] at h48; show _ = 48; omega)
        rw [h2]
        simpa [stripL] using this
    · refine evDone (r' := s.extract n s.size) (fun k => ?_) ?_
      · simp only [figureheadref01_Strip.l0]; rw [if_pos (by omega), if_pos (by omega), if_neg h48, if_pos (by omega)]; simp
      · apply B_ext; rw [B_from]
        refine (stripL_of_head ?_).symm
        rw [hc, List.head?_cons]
        intro e
        injection e with e
        rw [hb, e] at h48; exact h48 rfl
theorem Strip_ev {s : ByteArray} (hs : s.size ≤ 4611686018427387904) : Ev (fun k => figureheadref01_Strip.f k s) (stripB s) := by
  have := Strip_loop s hs s.size 0 (by omega) (by omega)
  simpa [figureheadref01_Strip.f, stripB] using this
theorem StripD_ev {s : ByteArray} (hs : s.size ≤ 4611686018427387904) (h : dB s = true) : Ev (fun k => figureheadref01_Strip.f k s) (digB (vB s)) := by
  rw [← stripB_eq h]; exact Strip_ev hs

end Go.Proofs.YtnpibnjncjieaaaDoor.Px

namespace Go.Proofs.YtnpibnjncjieaaaDoor.Px
open Fig Go.RowKit Go.Proofs.YtnpibnjncjieaaaDoorW.PrintWords Go.Proofs.YtnpibnjncjieaaaDoorW.PrintLast Go.Proofs.YtnpibnjncjieaaaDoorW.PrintMore
attribute [local go_sem] max2_int min2_int max_two min_two max_three min_three max_four min_four   -- for this text's walks alone

/-! plain facts: figureheadref01_Text -/
theorem pow_split (n m : Nat) : 10 ^ (n + m) = 10 ^ n * 10 ^ m := Nat.pow_add 10 n m
theorem one_char {c : Nat} (h : c ≤ 9) : dB (strOfNums [((48 : Int) + (c : Int)) % 4294967296 % 256]) = true ∧ vB (strOfNums [((48 : Int) + (c : Int)) % 4294967296 % 256]) = c ∧ (strOfNums [((48 : Int) + (c : Int)) % 4294967296 % 256]).size = 1 := by
  have e : ((48 : Int) + (c : Int)) % 4294967296 % 256 = ((48 + c : Nat) : Int) := by omega
  have e2 : (UInt8.ofNat (48 + c)).toNat = 48 + c := by rw [UInt8.toNat_ofNat']; omega
  rw [e]
  refine ⟨?_, ?_, ?_⟩
  · unfold dB; rw [B_nums]; simp only [List.map_cons, List.map_nil, Int.toNat_natCast]; rw [digL_cons, isD_iff, e2]; exact ⟨by omega, rfl⟩
  · unfold vB; rw [B_nums]; simp only [List.map_cons, List.map_nil, Int.toNat_natCast, List.reverse_singleton, rv, e2]; omega
  · rw [strOfNums_size]; rfl
theorem Text_in (l : List Int) (i : Nat) (hi : i < 4611686018427387904) (r : ByteArray) : ∀ (m : Nat) (s : ByteArray) (v : Nat), m ≤ 9 → v < 4294967296 → dB s = true → s.size + m ≤ 4611686018427387904 →
    (∀ s', dB s' = true → vB s' = vB s + 10 ^ s.size * (v % 10 ^ m) → s'.size = s.size + m → Ev (fun k => figureheadref01_Text.l0 k l s' ((i + 1 : Nat) : Int)) r) →
    Ev (fun k => figureheadref01_Text.l1 k l s (i : Int) (v : Int) ((9 - m : Nat) : Int)) r
  | 0, s, v, hm, hv, hd, hs, h => by
    refine Ev.step (f := fun k => figureheadref01_Text.l0 k l s ((i + 1 : Nat) : Int)) (fun k => ?_) (h s hd (by simp [Nat.mod_one]) rfl)
    simp only [figureheadref01_Text.l1]; rw [if_neg (by omega), w64 (by omega) (by omega)]; rfl
  | m + 1, s, v, hm, hv, hd, hs, h => by
    obtain ⟨c1, c2, c3⟩ := one_char (c := v % 10) (by omega)
    have et : Int.tmod (v : Int) 10 = ((v % 10 : Nat) : Int) := by rw [Int.tmod_eq_emod_of_nonneg (by omega)]; omega
    have ed : (Int.tdiv (v : Int) 10) % 4294967296 = ((v / 10 : Nat) : Int) := by rw [Int.tdiv_eq_ediv_of_nonneg (by omega)]; omega
    refine Ev.step (f := fun k => figureheadref01_Text.l1 k l (strOfNums [((48 : Int) + ((v % 10 : Nat) : Int)) % 4294967296 % 256] ++ s) (i : Int) ((v / 10 : Nat) : Int) ((9 - m : Nat) : Int)) (fun k => ?_) (Text_in l i hi r m _ (v / 10) (by omega) (by omega) (dB_append.2 ⟨c1, hd⟩) (by rw [ByteArray.size_append]; omega) ?_)
    · simp only [figureheadref01_Text.l1, Option.bind_some]; rw [if_pos (by omega), et, ed, if_pos (by omega), w64 (by omega) (by omega)]
      congr 1; omega
    · intro s' d' v' z'
      rw [ByteArray.size_append, c3] at z' v'
      refine h s' d' ?_ (by omega)
      rw [v', vB_append, c2]
      have e3 : v % 10 ^ (m + 1) = v % 10 + 10 * (v / 10 % 10 ^ m) := by rw [Nat.pow_succ, Nat.mul_comm (10 ^ m) 10, Nat.mod_mul]
      rw [e3, Nat.mul_add, Nat.add_comm 1 s.size, Nat.pow_succ, Nat.mul_comm (v % 10), ← Nat.mul_assoc]; omega
theorem Text_loop (l : List Int) (hg : goodL l = true) (hl : l.length ≤ 1000000000000) : ∀ (d n : Nat) (s : ByteArray), l.length - n = d → n ≤ l.length → dB s = true → s.size = 9 * n →
    Ev (fun k => figureheadref01_Text.l0 k l s (n : Int)) (digB (vB s + 10 ^ s.size * valL (l.drop n)))
  | 0, n, s, hd, hn, hs, hz => by
    refine Ev.step (f := fun k => (figureheadref01_Strip.f k s).bind fun t => some t) (fun k => ?_) (Ev.bind (StripD_ev (by omega) hs) ?_)
    · simp only [figureheadref01_Text.l0]; rw [if_neg (by omega)]
    · rw [List.drop_of_length_le (by omega)]; simpa [valL] using Ev.now _
  | d + 1, n, s, hd, hn, hs, hz => by
    have hlt : n < l.length := by omega
    have hb := rd_get hlt
    have hc := List.drop_eq_getElem_cons hlt
    have hp := goodL_iff.1 hg _ (List.getElem_mem hlt)
    refine Ev.step (f := fun k => figureheadref01_Text.l1 k l s (n : Int) ((l[n].toNat : Nat) : Int) ((9 - 9 : Nat) : Int)) (fun k => ?_) (Text_in l n (by omega) _ 9 s l[n].toNat (by omega) (by omega) hs (by omega) ?_)
    · simp only [figureheadref01_Text.l0]; rw [if_pos (by omega), if_pos (by omega), hb, Int.toNat_of_nonneg hp.1]; rfl
    · intro s' d' v' z'
      refine evIs (Text_loop l hg hl d (n + 1) s' (by omega) (by omega) d' (by omega)) ?_
      rw [v', z', hc]
      simp only [valL]
      rw [Nat.mod_eq_of_lt (by omega), pow_split, Nat.mul_add, Nat.mul_assoc]
      congr 1; rw [show (10 : Nat) ^ 9 = 1000000000 from rfl]; omega
theorem Text_ev {l : List Int} (hg : goodL l = true) (hl : l.length ≤ 1000000000000) : Ev (fun k => figureheadref01_Text.f k l) (digB (valL l)) := by
  have := Text_loop l hg hl l.length 0 (⟨#[]⟩ : ByteArray) (by omega) (by omega) rfl rfl
  refine evIs this ?_
  congr 1
  show rv [] + 10 ^ 0 * valL l = valL l
  simp [rv]
theorem Text_any_loop (l : List Int) (h0 : ∀ x ∈ l, 0 ≤ x ∧ x < 4294967296) (hl : l.length ≤ 100000000000000000) : ∀ (d n : Nat) (s : ByteArray), l.length - n = d → n ≤ l.length → dB s = true → s.size = 9 * n → ∃ r, Ev (fun k => figureheadref01_Text.l0 k l s (n : Int)) r
  | 0, n, s, hd, hn, hs, hz => by
    refine ⟨_, Ev.step (f := fun k => (figureheadref01_Strip.f k s).bind fun t => some t) (fun k => ?_) (Ev.bind (StripD_ev (by omega) hs) (Ev.now _))⟩
    simp only [figureheadref01_Text.l0]; rw [if_neg (by omega)]
  | d + 1, n, s, hd, hn, hs, hz => by
    have hlt : n < l.length := by omega
    have hb := rd_get hlt
    have hp := h0 _ (List.getElem_mem hlt)
    have key : ∃ r, ∀ s', dB s' = true → vB s' = vB s + 10 ^ s.size * (l[n].toNat % 10 ^ 9) → s'.size = s.size + 9 → Ev (fun k => figureheadref01_Text.l0 k l s' ((n + 1 : Nat) : Int)) r := by
      rcases Classical.em (∃ s', dB s' = true ∧ vB s' = vB s + 10 ^ s.size * (l[n].toNat % 10 ^ 9) ∧ s'.size = s.size + 9) with ⟨s0, a1, a2, a3⟩ | hno
      · obtain ⟨r, hr⟩ := Text_any_loop l h0 hl d (n + 1) s0 (by omega) (by omega) a1 (by omega)
        refine ⟨r, fun s' b1 b2 b3 => ?_⟩
        have : s' = s0 := by
          apply B_ext
          have e := rv_inj (a := s'.data.toList.reverse) (b := s0.data.toList.reverse) (by rw [digL_reverse]; exact b1) (by rw [digL_reverse]; exact a1) (by rw [List.length_reverse, List.length_reverse, ← size_eq, ← size_eq, b3, a3]) (b2.trans a2.symm)
          have e2 := congrArg List.reverse e
          rwa [List.reverse_reverse, List.reverse_reverse] at e2
        rw [this]; exact hr
      · exact ⟨⟨#[]⟩, fun s' b1 b2 b3 => absurd ⟨s', b1, b2, b3⟩ hno⟩
    obtain ⟨r, hr⟩ := key
    refine ⟨r, Ev.step (f := fun k => figureheadref01_Text.l1 k l s (n : Int) ((l[n].toNat : Nat) : Int) ((9 - 9 : Nat) : Int)) (fun k => ?_) (Text_in l n (by omega) _ 9 s l[n].toNat (by omega) (by omega) hs (by omega) hr)⟩
    simp only [figureheadref01_Text.l0]; rw [if_pos (by omega), if_pos (by omega), hb, Int.toNat_of_nonneg hp.1]; rfl
theorem Text_any {l : List Int} (h0 : ∀ x ∈ l, 0 ≤ x ∧ x < 4294967296) (hl : l.length ≤ 100000000000000000) : ∃ r, Ev (fun k => figureheadref01_Text.f k l) r :=
  Text_any_loop l h0 hl l.length 0 (⟨#[]⟩ : ByteArray) (by omega) (by omega) rfl rfl

end Go.Proofs.YtnpibnjncjieaaaDoor.Px

namespace Go.Proofs.YtnpibnjncjieaaaDoor.Px
open Fig Go.RowKit Go.Proofs.YtnpibnjncjieaaaDoorW.PrintWords Go.Proofs.YtnpibnjncjieaaaDoorW.PrintLast Go.Proofs.YtnpibnjncjieaaaDoorW.PrintMore
attribute [local go_sem] max2_int min2_int max_two min_two max_three min_three max_four min_four   -- for this text's walks alone

/-! plain facts: figureheadref01_Same -/
theorem Same_loop (a b : List Int) (hl : a.length ≤ 4611686018427387904) (he : a.length = b.length) : ∀ (d n : Nat), a.length - n = d → n ≤ a.length → Ev (fun k => figureheadref01_Same.l0 k a b (n : Int)) (decide (a.drop n = b.drop n))
  | 0, n, hd, hn => by
    refine evDone (r' := true) (fun k => ?_) ?_
    · simp only [figureheadref01_Same.l0]; rw [if_neg (by omega)]
    · rw [List.drop_of_length_le (by omega), List.drop_of_length_le (by omega)]; simp
  | d + 1, n, hd, hn => by
    have ha := rd_get (l := a) (n := n) (by omega)
    have hb := rd_get (l := b) (n := n) (by omega)
    have ca := List.drop_eq_getElem_cons (l := a) (i := n) (by omega)
    have cb := List.drop_eq_getElem_cons (l := b) (i := n) (by omega)
    by_cases h9 : rd a (n : Int) = rd b (n : Int)
    · refine Ev.step (f := fun k => figureheadref01_Same.l0 k a b ((n + 1 : Nat) : Int)) (fun k => ?_) ?_
      · simp only [figureheadref01_Same.l0]; rw [if_pos (by omega), if_pos (by omega), if_pos (by omega), if_pos h9, w64 (by omega) (by omega)]; rfl
      · have := Same_loop a b hl he d (n + 1) (by omega) (by omega)
        refine evIs this ?_
        rw [ca, cb, show a[n] = b[n] by rw [← ha, ← hb, h9]]
        simp only [List.cons.injEq, true_and]
    · refine evDone (r' := false) (fun k => ?_) ?_
      · simp only [figureheadref01_Same.l0]; rw [if_pos (by omega), if_pos (by omega), if_pos (by omega), if_neg h9]
      · rw [ca, cb]; symm; rw [decide_eq_false_iff_not]; intro e; injection e with e _
        rw [ha, hb] at h9; exact h9 e
theorem Same_ev {a b : List Int} (hl : a.length ≤ 4611686018427387904) : Ev (fun k => figureheadref01_Same.f k a b) (decide (a = b)) := by
  by_cases he : a.length = b.length
  · have := Same_loop a b hl he a.length 0 (by omega) (by omega)
    simp only [figureheadref01_Same.f, he, if_true]
    simpa using this
  · refine ⟨0, fun k _ => ?_⟩
    simp only [figureheadref01_Same.f]
    rw [if_neg (by omega)]; congr 1; symm; rw [decide_eq_false_iff_not]; rintro rfl; exact he rfl
theorem Same_self {a : List Int} (hl : a.length ≤ 4611686018427387904) : Ev (fun k => figureheadref01_Same.f k a a) true := by
  simpa using Same_ev (a := a) (b := a) hl
theorem Same_true {a b : List Int} (h : a = b) (hl : a.length ≤ 4611686018427387904) : Ev (fun k => figureheadref01_Same.f k a b) true := by subst h; exact Same_self hl

end Go.Proofs.YtnpibnjncjieaaaDoor.Px

namespace Go.Proofs.YtnpibnjncjieaaaDoor.Px
open Fig Go.RowKit Go.Proofs.YtnpibnjncjieaaaDoorW.PrintWords Go.Proofs.YtnpibnjncjieaaaDoorW.PrintLast Go.Proofs.YtnpibnjncjieaaaDoorW.PrintMore
attribute [local go_sem] max2_int min2_int max_two min_two max_three min_three max_four min_four   -- for this text's walks alone

/-! plain facts: figureheadref01_Number -/
theorem Number_in (s : ByteArray) (hd : dB s = true) (hs : s.size ≤ 1000000000000) (out : List Int) (ho : out.length ≤ 1000000000000) (fr : Nat) (hf : fr ≤ s.size) (r : List Int) : ∀ (d i x : Nat), s.size - i = d → fr ≤ i → i ≤ s.size → s.size - fr ≤ 9 → x < 10 ^ (i - fr) →
    Ev (fun k => figureheadref01_Number.l0 k (s.extract 0 fr) (out ++ [((x * 10 ^ d + rv (s.data.toList.drop i).reverse : Nat) : Int)])) r → Ev (fun k => figureheadref01_Number.l1 k s out (fr : Int) (x : Int) (i : Int)) r
  | 0, i, x, h1, h2, h3, h4, h5, h => by
    refine Ev.step (fun k => ?_) h
    have e : s.data.toList.drop i = [] := List.drop_of_length_le (by rw [← size_eq]; omega)
    simp only [figureheadref01_Number.l1]; rw [if_neg (by omega), if_pos (by omega), if_pos (by omega), if_pos (by omega), e]; simp [rv]
  | d + 1, i, x, h1, h2, h3, h4, h5, h => by
    have hlt : i < s.size := by omega
    have hb := bt_get hlt
    have hc := List.drop_eq_getElem_cons (l := s.data.toList) (i := i) (by rw [← size_eq]; exact hlt)
    have hdig := isD_iff.1 (digL_iff.1 hd _ (List.getElem_mem (l := s.data.toList) (n := i) (by rw [← size_eq]; exact hlt)))
    generalize hcc : s.data.toList[i]'(by rw [← size_eq]; exact hlt) = c at *
    have p1 : 10 ^ (i - fr) ≤ 10 ^ 8 := Nat.pow_le_pow_right (by omega) (by omega)
    have p8 : (10 : Nat) ^ 8 = 100000000 := rfl
    have p2 : 10 ^ (i + 1 - fr) = 10 ^ (i - fr) * 10 := by rw [show i + 1 - fr = (i - fr) + 1 by omega, Nat.pow_succ]
    refine Ev.step (f := fun k => figureheadref01_Number.l1 k s out (fr : Int) ((x * 10 + (c.toNat - 48) : Nat) : Int) ((i + 1 : Nat) : Int)) (fun k => ?_) (Number_in s hd hs out ho fr hf r d (i + 1) (x * 10 + (c.toNat - 48)) (by omega) (by omega) (by omega) h4 (by omega) ?_)
    · simp only [figureheadref01_Number.l1]; rw [if_pos (by omega), if_pos (by omega), hb, w64 (by omega) (by omega)]
      congr 1; omega
    · refine evIs h rfl |> fun h => ?_
      have e : x * 10 ^ (d + 1) + rv (s.data.toList.drop i).reverse = (x * 10 + (c.toNat - 48)) * 10 ^ d + rv (s.data.toList.drop (i + 1)).reverse := by
        have hl : (s.data.toList.drop (i + 1)).length = d := by rw [List.length_drop, ← size_eq]; omega
        rw [hc, List.reverse_cons, rv_append, List.length_reverse, hl]
        simp only [rv, Nat.mul_zero, Nat.add_zero]
        rw [Nat.pow_succ, Nat.add_mul, Nat.mul_comm (c.toNat - 48), Nat.mul_comm (10 ^ d) 10, ← Nat.mul_assoc]; omega
      rw [← e]; exact h
theorem vB_nonzero {s : ByteArray} (hd : dB s = true) (hh : s.data.toList.head? ≠ some 48) (hs : 0 < s.size) : vB s ≠ 0 := by
  intro h
  have := rv_zero (l := s.data.toList.reverse) (by rw [digL_reverse]; exact hd) (canonR_of_head hh) h
  rw [List.reverse_eq_nil_iff] at this
  rw [size_eq, this] at hs; simp at hs
theorem Number_loop : ∀ (z : Nat) (s : ByteArray) (out : List Int), s.size = z → dB s = true → s.data.toList.head? ≠ some 48 → s.size ≤ 1000000000000 → out.length + s.size ≤ 1000000000000 → Ev (fun k => figureheadref01_Number.l0 k s out) (out ++ limbs (vB s)) := by
  intro z
  induction z using Nat.strongRecOn with
  | _ z ih =>
  intro s out hz hd hh hs ho
  by_cases h0 : s.size = 0
  · refine evDone (r' := out) (fun k => ?_) ?_
    · simp only [figureheadref01_Number.l0]; rw [if_neg (by omega)]
    · have : s.data.toList = [] := List.eq_nil_of_length_eq_zero (by rw [← size_eq]; exact h0)
      unfold vB; rw [this]; simp [rv, limbs_zero]
  · obtain ⟨fr, hfr⟩ : ∃ fr : Nat, fr = s.size - 9 := ⟨_, rfl⟩
    have em : mx 0 (wrap64 ((s.size : Int) - 9)) = (fr : Int) := by rw [w64 (by omega) (by omega)]; unfold mx; split <;> omega
    refine Ev.step (f := fun k => figureheadref01_Number.l1 k s out (fr : Int) ((0 : Nat) : Int) (fr : Int)) (fun k => ?_) (Number_in s hd hs out (by omega) fr (by omega) _ (s.size - fr) fr 0 rfl (by omega) (by omega) (by omega) (by simp) ?_)
    · simp only [figureheadref01_Number.l0]; rw [if_pos (by omega), em]; rfl
    · have e1 : (s.extract 0 fr).data.toList = s.data.toList.take fr := B_to s fr
      have e2 : (s.extract 0 fr).size = fr := by rw [size_eq, e1, List.length_take, ← size_eq]; omega
      have hd2 : dB (s.extract 0 fr) = true := by unfold dB; rw [e1]; exact digL_take hd _
      have hv : vB s = rv (s.data.toList.drop fr).reverse + 10 ^ (s.size - fr) * vB (s.extract 0 fr) := by
        unfold vB; rw [e1]
        conv => lhs; rw [← List.take_append_drop fr s.data.toList, List.reverse_append, rv_append]
        rw [List.length_reverse, List.length_drop, ← size_eq]
      have hx : rv (s.data.toList.drop fr).reverse < 10 ^ (s.size - fr) := by
        have := rv_lt (l := (s.data.toList.drop fr).reverse) (by rw [digL_reverse]; exact digL_drop hd _)
        rwa [List.length_reverse, List.length_drop, ← size_eq] at this
      have hp : 10 ^ (s.size - fr) ≤ 10 ^ 9 := Nat.pow_le_pow_right (by omega) (by omega)
      have p9 : (10 : Nat) ^ 9 = 1000000000 := rfl
      generalize hxx : rv (s.data.toList.drop fr).reverse = x at *
      rw [Nat.zero_mul, Nat.zero_add]
      have hne : vB s ≠ 0 := vB_nonzero hd hh (by omega)
      have hh2 : (s.extract 0 fr).data.toList.head? ≠ some 48 := by
        rw [e1]
        rcases hfz : fr with _ | f
        · simp
        · rcases hll : s.data.toList with _ | ⟨c, l⟩
          · simp
          · rw [hll] at hh; simpa using hh
      refine evIs (ih fr (by omega) (s.extract 0 fr) (out ++ [(x : Int)]) e2 hd2 hh2 (by omega) (by rw [List.length_append, e2]; simp; omega)) ?_
      rw [List.append_assoc, List.singleton_append]
      congr 1
      rw [hv]
      by_cases hf0 : fr = 0
      · have hz0 : vB (s.extract 0 fr) = 0 := by
          have : (s.extract 0 fr).data.toList = [] := List.eq_nil_of_length_eq_zero (by rw [← size_eq]; omega)
          unfold vB; rw [this]; rfl
        rw [hz0] at hv ⊢
        have := limbs_cons (x := (x : Int)) ⟨by omega, by omega⟩ 0 (.inr (by omega))
        rw [this]; congr 1
      · have := limbs_cons (x := (x : Int)) ⟨by omega, by omega⟩ (vB (s.extract 0 fr)) (.inl (vB_nonzero hd2 hh2 (by omega)))
        rw [this, show s.size - fr = 9 by omega, p9]; congr 1
theorem Number_ev {s : ByteArray} (hd : dB s = true) (hs : s.size ≤ 1000000000000) : Ev (fun k => figureheadref01_Number.f k s) (limbs (vB s)) := by
  refine Ev.bind (StripD_ev (by omega) hd) ?_
  have hz : (digB (vB s)).size ≤ s.size := by rw [← stripB_eq hd, size_eq, size_eq]; exact stripL_len _
  refine evIs (Number_loop _ (digB (vB s)) [] rfl (dB_digB _) (digs_head _) (by omega) (by simpa using (by omega))) ?_
  rw [vB_digB]; rfl

end Go.Proofs.YtnpibnjncjieaaaDoor.Px

namespace Go.Proofs.YtnpibnjncjieaaaDoor.Px
open Fig Go.RowKit Go.Proofs.YtnpibnjncjieaaaDoorW.PrintWords Go.Proofs.YtnpibnjncjieaaaDoorW.PrintLast Go.Proofs.YtnpibnjncjieaaaDoorW.PrintMore
attribute [local go_sem] max2_int min2_int max_two min_two max_three min_three max_four min_four   -- for this text's walks alone

/-! plain facts: figureheadref01_Zeros -/
theorem Zeros_loop (m : Nat) (hm : m ≤ 1000000) : ∀ (d n : Nat), m - n = d → n ≤ m → Ev (fun k => figureheadref01_Zeros.l0 k (m : Int) (List.replicate n 48) (n : Int)) (strOfNums (List.replicate m 48))
  | 0, n, hd, hn => by
    obtain rfl : n = m := by omega
    refine evDone (r' := strOfNums (List.replicate n 48)) (fun k => ?_) rfl
    simp only [figureheadref01_Zeros.l0]; rw [if_neg (by omega)]
  | d + 1, n, hd, hn => by
    refine Ev.step (f := fun k => figureheadref01_Zeros.l0 k (m : Int) (List.replicate (n + 1) 48) ((n + 1 : Nat) : Int)) (fun k => ?_) (Zeros_loop m hm d (n + 1) (by omega) (by omega))
    simp only [figureheadref01_Zeros.l0]
    rw [if_pos (by omega), if_pos (by rw [List.length_replicate]; omega), List.replicate_succ', w64 (by omega) (by omega)]; rfl
/-- so many noughts -/
def zerosB (m : Nat) : ByteArray := strOfNums (List.replicate m 48)
theorem Zeros_ev {m : Nat} (hm : m ≤ 1000000) : Ev (fun k => figureheadref01_Zeros.f k (m : Int)) (zerosB m) := Zeros_loop m hm m 0 (by omega) (by omega)
theorem zerosB_list (m : Nat) : (zerosB m).data.toList = List.replicate m 48 := by rw [zerosB, B_nums, List.map_replicate]; rfl
theorem zerosB_size (m : Nat) : (zerosB m).size = m := by rw [size_eq, zerosB_list, List.length_replicate]
theorem zerosB_dig (m : Nat) : dB (zerosB m) = true := by
  unfold dB digL; rw [zerosB_list, List.all_eq_true]; intro x hx; rw [List.eq_of_mem_replicate hx]; rfl
theorem zerosB_val (m : Nat) : vB (zerosB m) = 0 := by
  unfold vB; rw [zerosB_list, List.reverse_replicate]
  induction m with
  | zero => rfl
  | succ m ih => rw [List.replicate_succ, rv, ih]; rfl

end Go.Proofs.YtnpibnjncjieaaaDoor.Px

namespace Go.Proofs.YtnpibnjncjieaaaDoor.Px
open Fig Go.RowKit Go.Proofs.YtnpibnjncjieaaaDoorW.PrintWords Go.Proofs.YtnpibnjncjieaaaDoorW.PrintLast Go.Proofs.YtnpibnjncjieaaaDoorW.PrintMore
attribute [local go_sem] max2_int min2_int max_two min_two max_three min_three max_four min_four   -- for this text's walks alone

/-! ### figureheadlaw04_TenBack: function 6 -/
def figureheadlaw04_TenBack.f (k : Nat) (l0 : List Int) (a1 : Int) (a2 : Int) : Option (Bool) := (figureheadlaw04_good.f k l0).bind fun t223 => (if t223 = true then ((ten_Shift.f l0 (wrap64 (a1))).bind fun t225 => ((ten_Cut.f t225 (wrap64 (a1))).bind fun bt228 => ((figureheadlaw04_answers.f).bind fun t234 => (if t234 = true then ((figureheadref01_Text.f k l0).bind fun t235 => ((figureheadref01_Number.f k t235).bind fun t236 => ((figureheadref01_Same.f k bt228.1 t236).bind fun t239 => (if t239 = true then (if (bt228.2.length : Int) = 0 then ((ten_Shift.f l0 (wrap64 (a1))).bind fun t240 => ((ten_Shift.f t240 (wrap64 (a2))).bind fun t243 => ((ten_Shift.f l0 (wrap64 ((wrap64 (a1)) + (wrap64 (a2))))).bind fun t246 => ((figureheadref01_Same.f k t243 t246).bind fun t249 => (some t249))))) else (some false)) else (some false))))) else (some false))))) else ((figureheadlaw04_answers.f).bind fun t224 => (some t224)))
theorem figureheadlaw04_TenBack.mono : ∀ a0 a1 a2 k, LeO (figureheadlaw04_TenBack.f k a0 a1 a2) (figureheadlaw04_TenBack.f (k + 1) a0 a1 a2) := by
  intro a0 a1 a2 k
  unfold figureheadlaw04_TenBack.f
  repeat' first
      | (with_reducible exact figureheadlaw04_good.mono _ _)
      | (with_reducible exact figureheadref01_Number.mono _ _)
      | (with_reducible exact figureheadref01_Same.mono _ _ _)
      | (with_reducible exact figureheadref01_Text.mono _ _)
      | (with_reducible exact LeO.refl _)
      | (with_reducible exact LeO.none _)
      | (with_reducible refine LeO.ite ?_ ?_)
      | (with_reducible refine LeO.bind ?_ (fun _ => ?_))
      | exact figureheadlaw04_good.mono _ _
      | exact figureheadref01_Number.mono _ _
      | exact figureheadref01_Same.mono _ _ _
      | exact figureheadref01_Text.mono _ _
      | exact LeO.none _
      | refine LeO.ite ?_ ?_
      | refine LeO.bind ?_ (fun _ => ?_)
set_option maxHeartbeats 8000000 in
set_option maxRecDepth 100000 in
theorem figureheadlaw04_TenBack.calls (k : Nat) (A0 : Option Addr) (c0 : Nat) (l0 : List Int) (a1 : Int) (a2 : Int) (r : Bool) (w : World) (hG : Fig.Glob w) (HT : Aside0 (r = true)) (hr0 : Kd.C (Kd.int .u32) w A0 l0.length l0) (hc0 : l0.length ≤ c0) (h : figureheadlaw04_TenBack.f k l0 a1 a2 = some r) :
    Calls Tryd.prog 6 #[.slice A0 l0.length c0, .int .u8 a1, .int .u8 a2] w fun e w' => e = .returned (.bool r) ∧ Below w.heap.size w w' := by
  have HG := Aside0.mk hG
  clear hG
  have HR0 := Aside0.mk hr0
  have HC0 := Aside0.mk hc0
  clear hr0 hc0
  have HB := Aside0.mk (Below.refl w.heap.size w)
  have H : ((figureheadlaw04_good.f k l0).bind fun t223 => (if t223 = true then ((ten_Shift.f l0 (wrap64 (a1))).bind fun t225 => ((ten_Cut.f t225 (wrap64 (a1))).bind fun bt228 => ((figureheadlaw04_answers.f).bind fun t234 => (if t234 = true then ((figureheadref01_Text.f k l0).bind fun t235 => ((figureheadref01_Number.f k t235).bind fun t236 => ((figureheadref01_Same.f k bt228.1 t236).bind fun t239 => (if t239 = true then (if (bt228.2.length : Int) = 0 then ((ten_Shift.f l0 (wrap64 (a1))).bind fun t240 => ((ten_Shift.f t240 (wrap64 (a2))).bind fun t243 => ((ten_Shift.f l0 (wrap64 ((wrap64 (a1)) + (wrap64 (a2))))).bind fun t246 => ((figureheadref01_Same.f k t243 t246).bind fun t249 => (some t249))))) else (some false)) else (some false))))) else (some false))))) else ((figureheadlaw04_answers.f).bind fun t224 => (some t224)))) = some r := h
  clear h
  replace H := Option.bind_eq_some_iff.mp H
  obtain ⟨t223, A40, H⟩ := H
  replace H : (if t223 = true then ((ten_Shift.f l0 (wrap64 (a1))).bind fun t225 => ((ten_Cut.f t225 (wrap64 (a1))).bind fun bt228 => ((figureheadlaw04_answers.f).bind fun t234 => (if t234 = true then ((figureheadref01_Text.f k l0).bind fun t235 => ((figureheadref01_Number.f k t235).bind fun t236 => ((figureheadref01_Same.f k bt228.1 t236).bind fun t239 => (if t239 = true then (if (bt228.2.length : Int) = 0 then ((ten_Shift.f l0 (wrap64 (a1))).bind fun t240 => ((ten_Shift.f t240 (wrap64 (a2))).bind fun t243 => ((ten_Shift.f l0 (wrap64 ((wrap64 (a1)) + (wrap64 (a2))))).bind fun t246 => ((figureheadref01_Same.f k t243 t246).bind fun t249 => (some t249))))) else (some false)) else (some false))))) else (some false))))) else ((figureheadlaw04_answers.f).bind fun t224 => (some t224))) = some r := H
  have A4 := Aside0.mk A40
  clear A40
  by_cases c5 : t223 = true
  · subst c5
    have H1 : ((ten_Shift.f l0 (wrap64 (a1))).bind fun t225 => ((ten_Cut.f t225 (wrap64 (a1))).bind fun bt228 => ((figureheadlaw04_answers.f).bind fun t234 => (if t234 = true then ((figureheadref01_Text.f k l0).bind fun t235 => ((figureheadref01_Number.f k t235).bind fun t236 => ((figureheadref01_Same.f k bt228.1 t236).bind fun t239 => (if t239 = true then (if (bt228.2.length : Int) = 0 then ((ten_Shift.f l0 (wrap64 (a1))).bind fun t240 => ((ten_Shift.f t240 (wrap64 (a2))).bind fun t243 => ((ten_Shift.f l0 (wrap64 ((wrap64 (a1)) + (wrap64 (a2))))).bind fun t246 => ((figureheadref01_Same.f k t243 t246).bind fun t249 => (some t249))))) else (some false)) else (some false))))) else (some false))))) = some r := by rw [if_pos rfl] at H; exact H
    clear H
    have H := H1
    clear H1
    replace H := Option.bind_eq_some_iff.mp H
    obtain ⟨t225, A60, H⟩ := H
    replace H : ((ten_Cut.f t225 (wrap64 (a1))).bind fun bt228 => ((figureheadlaw04_answers.f).bind fun t234 => (if t234 = true then ((figureheadref01_Text.f k l0).bind fun t235 => ((figureheadref01_Number.f k t235).bind fun t236 => ((figureheadref01_Same.f k bt228.1 t236).bind fun t239 => (if t239 = true then (if (bt228.2.length : Int) = 0 then ((ten_Shift.f l0 (wrap64 (a1))).bind fun t240 => ((ten_Shift.f t240 (wrap64 (a2))).bind fun t243 => ((ten_Shift.f l0 (wrap64 ((wrap64 (a1)) + (wrap64 (a2))))).bind fun t246 => ((figureheadref01_Same.f k t243 t246).bind fun t249 => (some t249))))) else (some false)) else (some false))))) else (some false)))) = some r := H
    have A6 := Aside0.mk A60
    clear A60
    replace H := Option.bind_eq_some_iff.mp H
    obtain ⟨⟨t228, t229⟩, A70, H⟩ := H
    replace H : ((figureheadlaw04_answers.f).bind fun t234 => (if t234 = true then ((figureheadref01_Text.f k l0).bind fun t235 => ((figureheadref01_Number.f k t235).bind fun t236 => ((figureheadref01_Same.f k t228 t236).bind fun t239 => (if t239 = true then (if (t229.length : Int) = 0 then ((ten_Shift.f l0 (wrap64 (a1))).bind fun t240 => ((ten_Shift.f t240 (wrap64 (a2))).bind fun t243 => ((ten_Shift.f l0 (wrap64 ((wrap64 (a1)) + (wrap64 (a2))))).bind fun t246 => ((figureheadref01_Same.f k t243 t246).bind fun t249 => (some t249))))) else (some false)) else (some false))))) else (some false))) = some r := H
    have A7 := Aside0.mk A70
    clear A70
    replace H := Option.bind_eq_some_iff.mp H
    obtain ⟨t234, A80, H⟩ := H
    replace H : (if t234 = true then ((figureheadref01_Text.f k l0).bind fun t235 => ((figureheadref01_Number.f k t235).bind fun t236 => ((figureheadref01_Same.f k t228 t236).bind fun t239 => (if t239 = true then (if (t229.length : Int) = 0 then ((ten_Shift.f l0 (wrap64 (a1))).bind fun t240 => ((ten_Shift.f t240 (wrap64 (a2))).bind fun t243 => ((ten_Shift.f l0 (wrap64 ((wrap64 (a1)) + (wrap64 (a2))))).bind fun t246 => ((figureheadref01_Same.f k t243 t246).bind fun t249 => (some t249))))) else (some false)) else (some false))))) else (some false)) = some r := H
    have A8 := Aside0.mk A80
    clear A80
    by_cases c9 : t234 = true
    · subst c9
      have H1 : ((figureheadref01_Text.f k l0).bind fun t235 => ((figureheadref01_Number.f k t235).bind fun t236 => ((figureheadref01_Same.f k t228 t236).bind fun t239 => (if t239 = true then (if (t229.length : Int) = 0 then ((ten_Shift.f l0 (wrap64 (a1))).bind fun t240 => ((ten_Shift.f t240 (wrap64 (a2))).bind fun t243 => ((ten_Shift.f l0 (wrap64 ((wrap64 (a1)) + (wrap64 (a2))))).bind fun t246 => ((figureheadref01_Same.f k t243 t246).bind fun t249 => (some t249))))) else (some false)) else (some false))))) = some r := by rw [if_pos rfl] at H; exact H
      clear H
      have H := H1
      clear H1
      replace H := Option.bind_eq_some_iff.mp H
      obtain ⟨t235, A100, H⟩ := H
      replace H : ((figureheadref01_Number.f k t235).bind fun t236 => ((figureheadref01_Same.f k t228 t236).bind fun t239 => (if t239 = true then (if (t229.length : Int) = 0 then ((ten_Shift.f l0 (wrap64 (a1))).bind fun t240 => ((ten_Shift.f t240 (wrap64 (a2))).bind fun t243 => ((ten_Shift.f l0 (wrap64 ((wrap64 (a1)) + (wrap64 (a2))))).bind fun t246 => ((figureheadref01_Same.f k t243 t246).bind fun t249 => (some t249))))) else (some false)) else (some false)))) = some r := H
      have A10 := Aside0.mk A100
      clear A100
      replace H := Option.bind_eq_some_iff.mp H
      obtain ⟨t236, A110, H⟩ := H
      replace H : ((figureheadref01_Same.f k t228 t236).bind fun t239 => (if t239 = true then (if (t229.length : Int) = 0 then ((ten_Shift.f l0 (wrap64 (a1))).bind fun t240 => ((ten_Shift.f t240 (wrap64 (a2))).bind fun t243 => ((ten_Shift.f l0 (wrap64 ((wrap64 (a1)) + (wrap64 (a2))))).bind fun t246 => ((figureheadref01_Same.f k t243 t246).bind fun t249 => (some t249))))) else (some false)) else (some false))) = some r := H
      have A11 := Aside0.mk A110
      clear A110
      replace H := Option.bind_eq_some_iff.mp H
      obtain ⟨t239, A120, H⟩ := H
      replace H : (if t239 = true then (if (t229.length : Int) = 0 then ((ten_Shift.f l0 (wrap64 (a1))).bind fun t240 => ((ten_Shift.f t240 (wrap64 (a2))).bind fun t243 => ((ten_Shift.f l0 (wrap64 ((wrap64 (a1)) + (wrap64 (a2))))).bind fun t246 => ((figureheadref01_Same.f k t243 t246).bind fun t249 => (some t249))))) else (some false)) else (some false)) = some r := H
      have A12 := Aside0.mk A120
      clear A120
      by_cases c13 : t239 = true
      · subst c13
        have H1 : (if (t229.length : Int) = 0 then ((ten_Shift.f l0 (wrap64 (a1))).bind fun t240 => ((ten_Shift.f t240 (wrap64 (a2))).bind fun t243 => ((ten_Shift.f l0 (wrap64 ((wrap64 (a1)) + (wrap64 (a2))))).bind fun t246 => ((figureheadref01_Same.f k t243 t246).bind fun t249 => (some t249))))) else (some false)) = some r := by rw [if_pos rfl] at H; exact H
        clear H
        have H := H1
        clear H1
        by_cases c14 : (t229.length : Int) = 0
        · rw [if_pos c14] at H
          have c14b0 : ((t229.length : Int) == 0) = true := beq_iff_eq.mpr c14
          have c14b1 : ((t229.length : Int) != 0) = false := bne_eq_false_iff_eq.mpr c14
          clear c14
          replace H := Option.bind_eq_some_iff.mp H
          obtain ⟨t240, A150, H⟩ := H
          replace H : ((ten_Shift.f t240 (wrap64 (a2))).bind fun t243 => ((ten_Shift.f l0 (wrap64 ((wrap64 (a1)) + (wrap64 (a2))))).bind fun t246 => ((figureheadref01_Same.f k t243 t246).bind fun t249 => (some t249)))) = some r := H
          have A15 := Aside0.mk A150
          clear A150
          replace H := Option.bind_eq_some_iff.mp H
          obtain ⟨t243, A160, H⟩ := H
          replace H : ((ten_Shift.f l0 (wrap64 ((wrap64 (a1)) + (wrap64 (a2))))).bind fun t246 => ((figureheadref01_Same.f k t243 t246).bind fun t249 => (some t249))) = some r := H
          have A16 := Aside0.mk A160
          clear A160
          replace H := Option.bind_eq_some_iff.mp H
          obtain ⟨t246, A170, H⟩ := H
          replace H : ((figureheadref01_Same.f k t243 t246).bind fun t249 => (some t249)) = some r := H
          have A17 := Aside0.mk A170
          clear A170
          replace H := Option.bind_eq_some_iff.mp H
          obtain ⟨t249, A180, H⟩ := H
          replace H : (some t249) = some r := H
          have A18 := Aside0.mk A180
          clear A180
          obtain rfl := Option.some.inj H
          go_enter Tryd.func6, Tryd.ntmps6
          go_wp2_with (first | ((with_reducible refine gate_callee (f := 8) rfl ?_); refine goesL_ (some 10) rfl rfl Tryd.func8 (by kernel_rfl) rfl #[.slice A0 l0.length c0] rfl (by (try simp only [List.map_toArray, List.map_cons, List.map_nil]); first | done | rfl | (simp only [List.length_drop, List.length_take]; rfl)) ?_; (with_reducible refine (figureheadlaw04_good.calls k _ _ l0 true _ ?side1 ?side2 A4.out).mono ?_); (case side1 => repeat (first | exact HR0.out | (with_reducible refine Kd.C_alloc ?_ _) | (with_reducible refine Kd.C_drewN ?_ _) | (with_reducible refine Kd.C_drew ?_))); (case side2 => exact HC0.out); rintro e w' ⟨rfl, ⟨nd, rfl⟩⟩; refine ⟨_, rfl, ?_⟩) | ((with_reducible refine gate_callee (f := 20) rfl ?_); refine goesL_ (some 17) rfl rfl Tryd.func20 (by kernel_rfl) rfl #[.slice A0 l0.length c0, .int .i64 (wrap64 (a1))] rfl (by (try simp only [List.map_toArray, List.map_cons, List.map_nil]); first | done | rfl | (simp only [List.length_drop, List.length_take]; rfl)) ?_; (with_reducible refine (ten_Shift.calls _ _ l0 (wrap64 (a1)) t225 _ ?side1 ?side2 ?side3 A6.out).mono ?_); (case side1 => exact Fig.Glob.below HG.out (by repeat (first | (with_reducible first | exact HB.out | apply below_alloc | apply pw_below_drewN | apply below_drew1) | exact HB.out))); (case side2 => repeat (first | exact HR0.out | (with_reducible refine Kd.C_alloc ?_ _) | (with_reducible refine Kd.C_drewN ?_ _) | (with_reducible refine Kd.C_drew ?_))); (case side3 => exact HC0.out); rintro e w19 ⟨v226, rfl, ho0, hb⟩; refine ⟨_, rfl, ?_⟩; have n0_ := Aside0.mk (Kd.R_lower ho0 (below_size (by repeat (first | (with_reducible first | exact HB.out | apply below_alloc | apply pw_below_drewN | apply below_drew1) | exact HB.out)))); have n1_ := Aside0.mk (below_step (by repeat (first | (with_reducible first | exact HB.out | apply below_alloc | apply pw_below_drewN | apply below_drew1) | exact HB.out)) hb); clear HB; have HO227 := n0_; have HB := n1_; clear n0_ n1_; (try clear hb); (try clear hb2); (try clear hk); (try clear hi); (try clear ho0); obtain ⟨Ao20, co20, eo20⟩ := Kd.R_slice HO227.out; subst eo20) | ((with_reducible refine gate_callee (f := 19) rfl ?_); refine goesL_ (some 20) rfl rfl Tryd.func19 (by kernel_rfl) rfl #[.slice Ao20 t225.length co20, .int .i64 (wrap64 (a1))] rfl (by (try simp only [List.map_toArray, List.map_cons, List.map_nil]); first | done | rfl | (simp only [List.length_drop, List.length_take]; rfl)) ?_; (with_reducible refine (ten_Cut.calls _ _ t225 (wrap64 (a1)) t228 t229 _ ?side1 ?side2 ?side3 A7.out).mono ?_); (case side1 => exact Fig.Glob.below HG.out (by repeat (first | (with_reducible first | exact HB.out | apply below_alloc | apply pw_below_drewN | apply below_drew1) | exact HB.out))); (case side2 => repeat (first | exact (Kd.R_reads' HO227.out).2.2 | (with_reducible refine Kd.C_alloc ?_ _) | (with_reducible refine Kd.C_drewN ?_ _) | (with_reducible refine Kd.C_drew ?_))); (case side3 => exact (Kd.R_reads' HO227.out).2.1); rintro e w21 ⟨v230, v232, rfl, ho0, ho1, hb⟩; refine ⟨_, rfl, ?_⟩; have n0_ := Aside0.mk (Kd.R_mono (Kd.R_told (Kd.R_told (Kd.R_old (by (with_reducible repeat (first | apply Kd.R_alloc | apply Kd.R_drewN | apply Kd.R_drew)); exact HO227.out) hb) (Kd.R_base ho0)) (Kd.R_base ho1)) (fun _ h_ => h_.1)); have n1_ := Aside0.mk (Kd.R_lower (Kd.R_new' ho0 (Kd.R_lt (by (with_reducible repeat (first | apply Kd.R_alloc | apply Kd.R_drewN | apply Kd.R_drew)); exact HO227.out))) (below_size (by repeat (first | (with_reducible first | exact HB.out | apply below_alloc | apply pw_below_drewN | apply below_drew1) | exact HB.out)))); have n2_ := Aside0.mk (Kd.R_lower (Kd.R_new' ho1 (Kd.R_lt (by (with_reducible repeat (first | apply Kd.R_alloc | apply Kd.R_drewN | apply Kd.R_drew)); exact HO227.out))) (below_size (by repeat (first | (with_reducible first | exact HB.out | apply below_alloc | apply pw_below_drewN | apply below_drew1) | exact HB.out)))); have n3_ := Aside0.mk (below_step (by repeat (first | (with_reducible first | exact HB.out | apply below_alloc | apply pw_below_drewN | apply below_drew1) | exact HB.out)) hb); clear HO227; clear HB; have HO227 := n0_; have HO231 := n1_; have HO233 := n2_; have HB := n3_; clear n0_ n1_ n2_ n3_; (try clear hb); (try clear hb2); (try clear hk); (try clear hi); (try clear ho0); (try clear ho1)) | ((with_reducible refine gate_callee (f := 9) rfl ?_); refine goesL_ (some 23) rfl rfl Tryd.func9 (by kernel_rfl) rfl #[] rfl (by (try simp only [List.map_toArray, List.map_cons, List.map_nil]); first | done | rfl | (simp only [List.length_drop, List.length_take]; rfl)) ?_; (with_reducible refine (figureheadlaw04_answers.calls  true _ ?side1 ?side2 A8.out).mono ?_); (case side1 => exact Fig.Glob.below HG.out (by repeat (first | (with_reducible first | exact HB.out | apply below_alloc | apply pw_below_drewN | apply below_drew1) | exact HB.out))); (case side2 => exact ⟨by first | rfl | exact HT.out⟩); rintro e w22 ⟨rfl, hb⟩; refine ⟨_, rfl, ?_⟩; have n0_ := Aside0.mk (Kd.R_below (by (with_reducible repeat (first | apply Kd.R_alloc | apply Kd.R_drewN | apply Kd.R_drew)); exact HO227.out) hb); have n1_ := Aside0.mk (Kd.R_below (by (with_reducible repeat (first | apply Kd.R_alloc | apply Kd.R_drewN | apply Kd.R_drew)); exact HO231.out) hb); have n2_ := Aside0.mk (Kd.R_below (by (with_reducible repeat (first | apply Kd.R_alloc | apply Kd.R_drewN | apply Kd.R_drew)); exact HO233.out) hb); have n3_ := Aside0.mk (below_step (by repeat (first | (with_reducible first | exact HB.out | apply below_alloc | apply pw_below_drewN | apply below_drew1) | exact HB.out)) hb); clear HO227; clear HO231; clear HO233; clear HB; have HO227 := n0_; have HO231 := n1_; have HO233 := n2_; have HB := n3_; clear n0_ n1_ n2_ n3_; (try clear hb); (try clear hb2); (try clear hk); (try clear hi)) | ((with_reducible refine gate_dst (N := 27) rfl ?_); (try (refine gate_guard (by rfl) ?_; dsimp only)); (refine gate_guard (by rfl) ?_; dsimp only); (with_reducible refine gate_callee (f := 10) rfl ?_); refine goesL_ (some 27) rfl rfl Tryd.func10 (by kernel_rfl) rfl #[.slice A0 l0.length c0] rfl (by (try simp only [List.map_toArray, List.map_cons, List.map_nil]); first | done | rfl | (simp only [List.length_drop, List.length_take]; rfl)) ?_; (with_reducible refine (figureheadref01_Text.calls k _ _ l0 t235 _ ?side1 ?side2 A10.out).mono ?_); (case side1 => repeat (first | exact (Kd.C_below HR0.out HB.out) | (with_reducible refine Kd.C_alloc ?_ _) | (with_reducible refine Kd.C_drewN ?_ _) | (with_reducible refine Kd.C_drew ?_))); (case side2 => exact HC0.out); rintro e w23 ⟨rfl, hb⟩; refine ⟨_, rfl, ?_⟩; have n0_ := Aside0.mk (Kd.R_below (by (with_reducible repeat (first | apply Kd.R_alloc | apply Kd.R_drewN | apply Kd.R_drew)); exact HO227.out) hb); have n1_ := Aside0.mk (Kd.R_below (by (with_reducible repeat (first | apply Kd.R_alloc | apply Kd.R_drewN | apply Kd.R_drew)); exact HO231.out) hb); have n2_ := Aside0.mk (Kd.R_below (by (with_reducible repeat (first | apply Kd.R_alloc | apply Kd.R_drewN | apply Kd.R_drew)); exact HO233.out) hb); have n3_ := Aside0.mk (below_step (by repeat (first | (with_reducible first | exact HB.out | apply below_alloc | apply pw_below_drewN | apply below_drew1) | exact HB.out)) hb); clear HO227; clear HO231; clear HO233; clear HB; have HO227 := n0_; have HO231 := n1_; have HO233 := n2_; have HB := n3_; clear n0_ n1_ n2_ n3_; (try clear hb); (try clear hb2); (try clear hk); (try clear hi)) | ((with_reducible refine gate_dst (N := 28) rfl ?_); (try (refine gate_guard (by rfl) ?_; dsimp only)); (refine gate_guard (by rfl) ?_; dsimp only); (with_reducible refine gate_callee (f := 16) rfl ?_); refine goesL_ (some 28) rfl rfl Tryd.func16 (by kernel_rfl) rfl #[.string t235] rfl (by (try simp only [List.map_toArray, List.map_cons, List.map_nil]); first | done | rfl | (simp only [List.length_drop, List.length_take]; rfl)) ?_; (with_reducible refine (figureheadref01_Number.calls k t235 t236 _ A11.out).mono ?_); rintro e w24 ⟨v237, rfl, ho0, hb⟩; refine ⟨_, rfl, ?_⟩; have n0_ := Aside0.mk (Kd.R_elder' (by (with_reducible repeat (first | apply Kd.R_alloc | apply Kd.R_drewN | apply Kd.R_drew)); exact HO227.out) (Kd.R_base ho0) hb); have n1_ := Aside0.mk (Kd.R_elder' (by (with_reducible repeat (first | apply Kd.R_alloc | apply Kd.R_drewN | apply Kd.R_drew)); exact HO231.out) (Kd.R_base ho0) hb); have n2_ := Aside0.mk (Kd.R_elder' (by (with_reducible repeat (first | apply Kd.R_alloc | apply Kd.R_drewN | apply Kd.R_drew)); exact HO233.out) (Kd.R_base ho0) hb); have n3_ := Aside0.mk (Kd.R_lower (Kd.R_new' (Kd.R_new' (Kd.R_new' ho0 (Kd.R_lt (by (with_reducible repeat (first | apply Kd.R_alloc | apply Kd.R_drewN | apply Kd.R_drew)); exact HO227.out))) (Kd.R_lt (by (with_reducible repeat (first | apply Kd.R_alloc | apply Kd.R_drewN | apply Kd.R_drew)); exact HO231.out))) (Kd.R_lt (by (with_reducible repeat (first | apply Kd.R_alloc | apply Kd.R_drewN | apply Kd.R_drew)); exact HO233.out))) (below_size (by repeat (first | (with_reducible first | exact HB.out | apply below_alloc | apply pw_below_drewN | apply below_drew1) | exact HB.out)))); have n4_ := Aside0.mk (below_step (by repeat (first | (with_reducible first | exact HB.out | apply below_alloc | apply pw_below_drewN | apply below_drew1) | exact HB.out)) hb); clear HO227; clear HO231; clear HO233; clear HB; have HO227 := n0_; have HO231 := n1_; have HO233 := n2_; have HO238 := n3_; have HB := n4_; clear n0_ n1_ n2_ n3_ n4_; (try clear hb); (try clear hb2); (try clear hk); (try clear hi); (try clear ho0); obtain ⟨Ao25, co25, eo25⟩ := Kd.R_slice HO231.out; subst eo25; obtain ⟨Ao26, co26, eo26⟩ := Kd.R_slice HO238.out; subst eo26) | ((with_reducible refine gate_dst (N := 29) rfl ?_); (try (refine gate_guard (by rfl) ?_; dsimp only)); (refine gate_guard (by rfl) ?_; dsimp only); (with_reducible refine gate_callee (f := 15) rfl ?_); refine goesL_ (some 29) rfl rfl Tryd.func15 (by kernel_rfl) rfl #[.slice Ao25 t228.length co25, .slice Ao26 t236.length co26] rfl (by (try simp only [List.map_toArray, List.map_cons, List.map_nil]); first | done | rfl | (simp only [List.length_drop, List.length_take]; rfl)) ?_; (with_reducible refine (figureheadref01_Same.calls k _ _ t228 _ _ t236 true _ ?side1 ?side2 ?side3 ?side4 A12.out).mono ?_); (case side1 => repeat (first | exact (Kd.R_reads' HO231.out).2.2 | (with_reducible refine Kd.C_alloc ?_ _) | (with_reducible refine Kd.C_drewN ?_ _) | (with_reducible refine Kd.C_drew ?_))); (case side2 => exact (Kd.R_reads' HO231.out).2.1); (case side3 => repeat (first | exact (Kd.R_reads' HO238.out).2.2 | (with_reducible refine Kd.C_alloc ?_ _) | (with_reducible refine Kd.C_drewN ?_ _) | (with_reducible refine Kd.C_drew ?_))); (case side4 => exact (Kd.R_reads' HO238.out).2.1); rintro e w' ⟨rfl, ⟨nd, rfl⟩⟩; refine ⟨_, rfl, ?_⟩; obtain ⟨Ao27, co27, eo27⟩ := Kd.R_slice HO233.out; subst eo27) | ((with_reducible refine gate_dst (N := 40) rfl ?_); (try (refine gate_guard (by rfl) ?_; dsimp only)); (refine gate_guard (by rfl) ?_; dsimp only); (with_reducible refine gate_callee (f := 20) rfl ?_); refine goesL_ (some 40) rfl rfl Tryd.func20 (by kernel_rfl) rfl #[.slice A0 l0.length c0, .int .i64 (wrap64 (a1))] rfl (by (try simp only [List.map_toArray, List.map_cons, List.map_nil]); first | done | rfl | (simp only [List.length_drop, List.length_take]; rfl)) ?_; (with_reducible refine (ten_Shift.calls _ _ l0 (wrap64 (a1)) t240 _ ?side1 ?side2 ?side3 A15.out).mono ?_); (case side1 => exact Fig.Glob.below HG.out (by repeat (first | (with_reducible first | exact HB.out | apply below_alloc | apply pw_below_drewN | apply below_drew1) | exact HB.out))); (case side2 => repeat (first | exact (Kd.C_below HR0.out (by repeat (first | (with_reducible first | exact HB.out | apply below_alloc | apply pw_below_drewN | apply below_drew1) | exact HB.out))) | (with_reducible refine Kd.C_alloc ?_ _) | (with_reducible refine Kd.C_drewN ?_ _) | (with_reducible refine Kd.C_drew ?_))); (case side3 => exact HC0.out); rintro e w28 ⟨v241, rfl, ho0, hb⟩; refine ⟨_, rfl, ?_⟩; have n0_ := Aside0.mk (Kd.R_elder' (by (with_reducible repeat (first | apply Kd.R_alloc | apply Kd.R_drewN | apply Kd.R_drew)); exact HO227.out) (Kd.R_base ho0) hb); have n1_ := Aside0.mk (Kd.R_elder' (by (with_reducible repeat (first | apply Kd.R_alloc | apply Kd.R_drewN | apply Kd.R_drew)); exact HO231.out) (Kd.R_base ho0) hb); have n2_ := Aside0.mk (Kd.R_elder' (by (with_reducible repeat (first | apply Kd.R_alloc | apply Kd.R_drewN | apply Kd.R_drew)); exact HO233.out) (Kd.R_base ho0) hb); have n3_ := Aside0.mk (Kd.R_elder' (by (with_reducible repeat (first | apply Kd.R_alloc | apply Kd.R_drewN | apply Kd.R_drew)); exact HO238.out) (Kd.R_base ho0) hb); have n4_ := Aside0.mk (Kd.R_lower (Kd.R_new' (Kd.R_new' (Kd.R_new' (Kd.R_new' ho0 (Kd.R_lt (by (with_reducible repeat (first | apply Kd.R_alloc | apply Kd.R_drewN | apply Kd.R_drew)); exact HO227.out))) (Kd.R_lt (by (with_reducible repeat (first | apply Kd.R_alloc | apply Kd.R_drewN | apply Kd.R_drew)); exact HO231.out))) (Kd.R_lt (by (with_reducible repeat (first | apply Kd.R_alloc | apply Kd.R_drewN | apply Kd.R_drew)); exact HO233.out))) (Kd.R_lt (by (with_reducible repeat (first | apply Kd.R_alloc | apply Kd.R_drewN | apply Kd.R_drew)); exact HO238.out))) (below_size (by repeat (first | (with_reducible first | exact HB.out | apply below_alloc | apply pw_below_drewN | apply below_drew1) | exact HB.out)))); have n5_ := Aside0.mk (below_step (by repeat (first | (with_reducible first | exact HB.out | apply below_alloc | apply pw_below_drewN | apply below_drew1) | exact HB.out)) hb); clear HO227; clear HO231; clear HO233; clear HO238; clear HB; have HO227 := n0_; have HO231 := n1_; have HO233 := n2_; have HO238 := n3_; have HO242 := n4_; have HB := n5_; clear n0_ n1_ n2_ n3_ n4_ n5_; (try clear hb); (try clear hb2); (try clear hk); (try clear hi); (try clear ho0); obtain ⟨Ao29, co29, eo29⟩ := Kd.R_slice HO242.out; subst eo29) | ((with_reducible refine gate_dst (N := 43) rfl ?_); (try (refine gate_guard (by rfl) ?_; dsimp only)); (refine gate_guard (by rfl) ?_; dsimp only); (with_reducible refine gate_callee (f := 20) rfl ?_); refine goesL_ (some 43) rfl rfl Tryd.func20 (by kernel_rfl) rfl #[.slice Ao29 t240.length co29, .int .i64 (wrap64 (a2))] rfl (by (try simp only [List.map_toArray, List.map_cons, List.map_nil]); first | done | rfl | (simp only [List.length_drop, List.length_take]; rfl)) ?_; (with_reducible refine (ten_Shift.calls _ _ t240 (wrap64 (a2)) t243 _ ?side1 ?side2 ?side3 A16.out).mono ?_); (case side1 => exact Fig.Glob.below HG.out (by repeat (first | (with_reducible first | exact HB.out | apply below_alloc | apply pw_below_drewN | apply below_drew1) | exact HB.out))); (case side2 => repeat (first | exact (Kd.R_reads' HO242.out).2.2 | (with_reducible refine Kd.C_alloc ?_ _) | (with_reducible refine Kd.C_drewN ?_ _) | (with_reducible refine Kd.C_drew ?_))); (case side3 => exact (Kd.R_reads' HO242.out).2.1); rintro e w30 ⟨v244, rfl, ho0, hb⟩; refine ⟨_, rfl, ?_⟩; have n0_ := Aside0.mk (Kd.R_elder' (by (with_reducible repeat (first | apply Kd.R_alloc | apply Kd.R_drewN | apply Kd.R_drew)); exact HO227.out) (Kd.R_base ho0) hb); have n1_ := Aside0.mk (Kd.R_elder' (by (with_reducible repeat (first | apply Kd.R_alloc | apply Kd.R_drewN | apply Kd.R_drew)); exact HO231.out) (Kd.R_base ho0) hb); have n2_ := Aside0.mk (Kd.R_elder' (by (with_reducible repeat (first | apply Kd.R_alloc | apply Kd.R_drewN | apply Kd.R_drew)); exact HO233.out) (Kd.R_base ho0) hb); have n3_ := Aside0.mk (Kd.R_elder' (by (with_reducible repeat (first | apply Kd.R_alloc | apply Kd.R_drewN | apply Kd.R_drew)); exact HO238.out) (Kd.R_base ho0) hb); have n4_ := Aside0.mk (Kd.R_elder' (by (with_reducible repeat (first | apply Kd.R_alloc | apply Kd.R_drewN | apply Kd.R_drew)); exact HO242.out) (Kd.R_base ho0) hb); have n5_ := Aside0.mk (Kd.R_lower (Kd.R_new' (Kd.R_new' (Kd.R_new' (Kd.R_new' (Kd.R_new' ho0 (Kd.R_lt (by (with_reducible repeat (first | apply Kd.R_alloc | apply Kd.R_drewN | apply Kd.R_drew)); exact HO227.out))) (Kd.R_lt (by (with_reducible repeat (first | apply Kd.R_alloc | apply Kd.R_drewN | apply Kd.R_drew)); exact HO231.out))) (Kd.R_lt (by (with_reducible repeat (first | apply Kd.R_alloc | apply Kd.R_drewN | apply Kd.R_drew)); exact HO233.out))) (Kd.R_lt (by (with_reducible repeat (first | apply Kd.R_alloc | apply Kd.R_drewN | apply Kd.R_drew)); exact HO238.out))) (Kd.R_lt (by (with_reducible repeat (first | apply Kd.R_alloc | apply Kd.R_drewN | apply Kd.R_drew)); exact HO242.out))) (below_size (by repeat (first | (with_reducible first | exact HB.out | apply below_alloc | apply pw_below_drewN | apply below_drew1) | exact HB.out)))); have n6_ := Aside0.mk (below_step (by repeat (first | (with_reducible first | exact HB.out | apply below_alloc | apply pw_below_drewN | apply below_drew1) | exact HB.out)) hb); clear HO227; clear HO231; clear HO233; clear HO238; clear HO242; clear HB; have HO227 := n0_; have HO231 := n1_; have HO233 := n2_; have HO238 := n3_; have HO242 := n4_; have HO245 := n5_; have HB := n6_; clear n0_ n1_ n2_ n3_ n4_ n5_ n6_; (try clear hb); (try clear hb2); (try clear hk); (try clear hi); (try clear ho0)) | ((with_reducible refine gate_dst (N := 50) rfl ?_); (try (refine gate_guard (by rfl) ?_; dsimp only)); (refine gate_guard (by rfl) ?_; dsimp only); (with_reducible refine gate_callee (f := 20) rfl ?_); refine goesL_ (some 50) rfl rfl Tryd.func20 (by kernel_rfl) rfl #[.slice A0 l0.length c0, .int .i64 (wrap64 ((wrap64 (a1)) + (wrap64 (a2))))] rfl (by (try simp only [List.map_toArray, List.map_cons, List.map_nil]); first | done | rfl | (simp only [List.length_drop, List.length_take]; rfl)) ?_; (with_reducible refine (ten_Shift.calls _ _ l0 (wrap64 ((wrap64 (a1)) + (wrap64 (a2)))) t246 _ ?side1 ?side2 ?side3 A17.out).mono ?_); (case side1 => exact Fig.Glob.below HG.out (by repeat (first | (with_reducible first | exact HB.out | apply below_alloc | apply pw_below_drewN | apply below_drew1) | exact HB.out))); (case side2 => repeat (first | exact (Kd.C_below HR0.out HB.out) | (with_reducible refine Kd.C_alloc ?_ _) | (with_reducible refine Kd.C_drewN ?_ _) | (with_reducible refine Kd.C_drew ?_))); (case side3 => exact HC0.out); rintro e w31 ⟨v247, rfl, ho0, hb⟩; refine ⟨_, rfl, ?_⟩; have n0_ := Aside0.mk (Kd.R_elder' (by (with_reducible repeat (first | apply Kd.R_alloc | apply Kd.R_drewN | apply Kd.R_drew)); exact HO227.out) (Kd.R_base ho0) hb); have n1_ := Aside0.mk (Kd.R_elder' (by (with_reducible repeat (first | apply Kd.R_alloc | apply Kd.R_drewN | apply Kd.R_drew)); exact HO231.out) (Kd.R_base ho0) hb); have n2_ := Aside0.mk (Kd.R_elder' (by (with_reducible repeat (first | apply Kd.R_alloc | apply Kd.R_drewN | apply Kd.R_drew)); exact HO233.out) (Kd.R_base ho0) hb); have n3_ := Aside0.mk (Kd.R_elder' (by (with_reducible repeat (first | apply Kd.R_alloc | apply Kd.R_drewN | apply Kd.R_drew)); exact HO238.out) (Kd.R_base ho0) hb); have n4_ := Aside0.mk (Kd.R_elder' (by (with_reducible repeat (first | apply Kd.R_alloc | apply Kd.R_drewN | apply Kd.R_drew)); exact HO242.out) (Kd.R_base ho0) hb); have n5_ := Aside0.mk (Kd.R_elder' (by (with_reducible repeat (first | apply Kd.R_alloc | apply Kd.R_drewN | apply Kd.R_drew)); exact HO245.out) (Kd.R_base ho0) hb); have n6_ := Aside0.mk (Kd.R_lower (Kd.R_new' (Kd.R_new' (Kd.R_new' (Kd.R_new' (Kd.R_new' (Kd.R_new' ho0 (Kd.R_lt (by (with_reducible repeat (first | apply Kd.R_alloc | apply Kd.R_drewN | apply Kd.R_drew)); exact HO227.out))) (Kd.R_lt (by (with_reducible repeat (first | apply Kd.R_alloc | apply Kd.R_drewN | apply Kd.R_drew)); exact HO231.out))) (Kd.R_lt (by (with_reducible repeat (first | apply Kd.R_alloc | apply Kd.R_drewN | apply Kd.R_drew)); exact HO233.out))) (Kd.R_lt (by (with_reducible repeat (first | apply Kd.R_alloc | apply Kd.R_drewN | apply Kd.R_drew)); exact HO238.out))) (Kd.R_lt (by (with_reducible repeat (first | apply Kd.R_alloc | apply Kd.R_drewN | apply Kd.R_drew)); exact HO242.out))) (Kd.R_lt (by (with_reducible repeat (first | apply Kd.R_alloc | apply Kd.R_drewN | apply Kd.R_drew)); exact HO245.out))) (below_size (by repeat (first | (with_reducible first | exact HB.out | apply below_alloc | apply pw_below_drewN | apply below_drew1) | exact HB.out)))); have n7_ := Aside0.mk (below_step (by repeat (first | (with_reducible first | exact HB.out | apply below_alloc | apply pw_below_drewN | apply below_drew1) | exact HB.out)) hb); clear HO227; clear HO231; clear HO233; clear HO238; clear HO242; clear HO245; clear HB; have HO227 := n0_; have HO231 := n1_; have HO233 := n2_; have HO238 := n3_; have HO242 := n4_; have HO245 := n5_; have HO248 := n6_; have HB := n7_; clear n0_ n1_ n2_ n3_ n4_ n5_ n6_ n7_; (try clear hb); (try clear hb2); (try clear hk); (try clear hi); (try clear ho0); obtain ⟨Ao32, co32, eo32⟩ := Kd.R_slice HO245.out; subst eo32; obtain ⟨Ao33, co33, eo33⟩ := Kd.R_slice HO248.out; subst eo33) | ((with_reducible refine gate_dst (N := 51) rfl ?_); (try (refine gate_guard (by rfl) ?_; dsimp only)); (refine gate_guard (by rfl) ?_; dsimp only); (with_reducible refine gate_callee (f := 15) rfl ?_); refine goesL_ (some 51) rfl rfl Tryd.func15 (by kernel_rfl) rfl #[.slice Ao32 t243.length co32, .slice Ao33 t246.length co33] rfl (by (try simp only [List.map_toArray, List.map_cons, List.map_nil]); first | done | rfl | (simp only [List.length_drop, List.length_take]; rfl)) ?_; (with_reducible refine (figureheadref01_Same.calls k _ _ t243 _ _ t246 t249 _ ?side1 ?side2 ?side3 ?side4 A18.out).mono ?_); (case side1 => repeat (first | exact (Kd.R_reads' HO245.out).2.2 | (with_reducible refine Kd.C_alloc ?_ _) | (with_reducible refine Kd.C_drewN ?_ _) | (with_reducible refine Kd.C_drew ?_))); (case side2 => exact (Kd.R_reads' HO245.out).2.1); (case side3 => repeat (first | exact (Kd.R_reads' HO248.out).2.2 | (with_reducible refine Kd.C_alloc ?_ _) | (with_reducible refine Kd.C_drewN ?_ _) | (with_reducible refine Kd.C_drew ?_))); (case side4 => exact (Kd.R_reads' HO248.out).2.1); rintro e w' ⟨rfl, ⟨nd, rfl⟩⟩; refine ⟨_, rfl, ?_⟩))
          go_ret
          exact ⟨by first | rfl | (simp [errW_none, errW_some] <;> rfl) | (simp [*, errW_none, errW_some] <;> rfl), by repeat (first | (with_reducible first | exact HB.out | apply below_alloc | apply pw_below_drewN | apply below_drew1) | exact HB.out)⟩
        · rw [if_neg c14] at H
          have c14b0 : ((t229.length : Int) == 0) = false := beq_eq_false_iff_ne.mpr c14
          have c14b1 : ((t229.length : Int) != 0) = true := bne_iff_ne.mpr c14
          have c14b2 : ¬ (t229 = []) := fun h_ => c14 (by rw [h_]; rfl)
          exact absurd ((Option.some.inj H).trans HT.out) (by decide)
      · replace c13 := Bool.eq_false_iff.mpr c13
        subst c13
        have H1 : (some false) = some r := by rw [if_neg (show ¬ (false = true) by decide)] at H; exact H
        clear H
        have H := H1
        clear H1
        exact absurd ((Option.some.inj H).trans HT.out) (by decide)
    · replace c9 := Bool.eq_false_iff.mpr c9
      subst c9
      have H1 : (some false) = some r := by rw [if_neg (show ¬ (false = true) by decide)] at H; exact H
      clear H
      have H := H1
      clear H1
      exact absurd ((Option.some.inj H).trans HT.out) (by decide)
  · replace c5 := Bool.eq_false_iff.mpr c5
    subst c5
    have H1 : ((figureheadlaw04_answers.f).bind fun t224 => (some t224)) = some r := by rw [if_neg (show ¬ (false = true) by decide)] at H; exact H
    clear H
    have H := H1
    clear H1
    replace H := Option.bind_eq_some_iff.mp H
    obtain ⟨t224, A340, H⟩ := H
    replace H : (some t224) = some r := H
    have A34 := Aside0.mk A340
    clear A340
    obtain rfl := Option.some.inj H
    go_enter Tryd.func6, Tryd.ntmps6
    go_wp2_with (first | ((with_reducible refine gate_callee (f := 8) rfl ?_); refine goesL_ (some 10) rfl rfl Tryd.func8 (by kernel_rfl) rfl #[.slice A0 l0.length c0] rfl (by (try simp only [List.map_toArray, List.map_cons, List.map_nil]); first | done | rfl | (simp only [List.length_drop, List.length_take]; rfl)) ?_; (with_reducible refine (figureheadlaw04_good.calls k _ _ l0 false _ ?side1 ?side2 A4.out).mono ?_); (case side1 => repeat (first | exact HR0.out | (with_reducible refine Kd.C_alloc ?_ _) | (with_reducible refine Kd.C_drewN ?_ _) | (with_reducible refine Kd.C_drew ?_))); (case side2 => exact HC0.out); rintro e w' ⟨rfl, ⟨nd, rfl⟩⟩; refine ⟨_, rfl, ?_⟩) | ((with_reducible refine gate_callee (f := 9) rfl ?_); refine goesL_ (some 12) rfl rfl Tryd.func9 (by kernel_rfl) rfl #[] rfl (by (try simp only [List.map_toArray, List.map_cons, List.map_nil]); first | done | rfl | (simp only [List.length_drop, List.length_take]; rfl)) ?_; (with_reducible refine (figureheadlaw04_answers.calls  t224 _ ?side1 ?side2 A34.out).mono ?_); (case side1 => exact Fig.Glob.below HG.out (by repeat (first | (with_reducible first | exact HB.out | apply below_alloc | apply pw_below_drewN | apply below_drew1) | exact HB.out))); (case side2 => exact ⟨by first | rfl | exact HT.out⟩); rintro e w35 ⟨rfl, hb⟩; refine ⟨_, rfl, ?_⟩; have n0_ := Aside0.mk (below_step (by repeat (first | (with_reducible first | exact HB.out | apply below_alloc | apply pw_below_drewN | apply below_drew1) | exact HB.out)) hb); clear HB; have HB := n0_; clear n0_; (try clear hb); (try clear hb2); (try clear hk); (try clear hi)))
    go_ret
    exact ⟨by first | rfl | (simp [errW_none, errW_some] <;> rfl) | (simp [*, errW_none, errW_some] <;> rfl), by repeat (first | (with_reducible first | exact HB.out | apply below_alloc | apply pw_below_drewN | apply below_drew1) | exact HB.out)⟩

end Go.Proofs.YtnpibnjncjieaaaDoor.Px

namespace Go.Proofs.YtnpibnjncjieaaaDoor.Px
open Fig Go.RowKit Go.Proofs.YtnpibnjncjieaaaDoorW.PrintWords Go.Proofs.YtnpibnjncjieaaaDoorW.PrintLast Go.Proofs.YtnpibnjncjieaaaDoorW.PrintMore
attribute [local go_sem] max2_int min2_int max_two min_two max_three min_three max_four min_four   -- for this text's walks alone

/-! plain facts: figureheadlaw04_TenBack -/
theorem Shift_eq {l : List Int} {n : Int} (g : goodL l = true) (hl : l.length ≤ 500000) (hn : n ≤ 1000000) : ten_Shift.f l n = some (limbs (valL l * 10 ^ n.toNat)) := by unfold ten_Shift.f; rw [if_pos ⟨g, hl, hn⟩]
theorem Cut_eq {l : List Int} {n : Int} (g : goodL l = true) (hl : l.length ≤ 500000) (hn : n ≤ 1000000) : ten_Cut.f l n = some (limbs (valL l / 10 ^ n.toNat), limbs (valL l % 10 ^ n.toNat)) := by unfold ten_Cut.f; rw [if_pos ⟨g, hl, hn⟩]
theorem digB_pow_le {n p k : Nat} (h : (digB n).size ≤ p) : (digB (n * 10 ^ k)).size ≤ p + k := by
  apply digs_size_lt
  rw [Nat.pow_add]
  exact Nat.mul_lt_mul_of_pos_right (digB_lt_pow h) (Nat.pow_pos (by decide))
theorem wf_u8 {x : Int} (h : (Lit.int .u8 x).wf = true) : 0 ≤ x ∧ x < 256 := by
  simp [Lit.wf, IntKind.min, IntKind.max, IntKind.signed, IntKind.bits] at h; omega
theorem TenBack_pure (l0 : List Int) (a1 a2 : Int) (m0 : l0.length * 4 ≤ 140737488351232) (w0 : ∀ x ∈ l0, (Lit.int .u32 x).wf = true) (w1 : (Lit.int .u8 a1).wf = true) (w2 : (Lit.int .u8 a2).wf = true) : ∃ k, figureheadlaw04_TenBack.f k l0 a1 a2 = some true := by
  have n0 := fun x hx => wf_u32 (w0 x hx)
  obtain ⟨p1, q1⟩ := wf_u8 w1
  obtain ⟨p2, q2⟩ := wf_u8 w2
  obtain ⟨a, rfl⟩ : ∃ a : Nat, a1 = (a : Int) := ⟨a1.toNat, by omega⟩
  obtain ⟨b, rfl⟩ : ∃ b : Nat, a2 = (b : Int) := ⟨a2.toNat, by omega⟩
  refine Ev.rounds (g := fun k => figureheadlaw04_TenBack.f k l0 a b) ?_
  unfold figureheadlaw04_TenBack.f
  have e1 : wrap64 (a : Int) = (a : Int) := w64 (by omega) (by omega)
  have e2 : wrap64 (b : Int) = (b : Int) := w64 (by omega) (by omega)
  have e3 : wrap64 ((a : Int) + (b : Int)) = ((a + b : Nat) : Int) := by rw [w64 (by omega) (by omega)]; rfl
  rw [e1, e2, e3]
  clear e1 e2 e3
  refine Ev.bind (good04_ev n0 (by omega)) ?_
  cases hg : decide (l0.length ≤ 40) && goodL l0
  · simp only [Bool.false_eq_true, if_false]
    exact Ev.bind (evSome fun _ => answers04) (Ev.now true)
  · obtain ⟨h40, g0⟩ : l0.length ≤ 40 ∧ goodL l0 = true := by simpa using hg
    have z0 := digB_valL_size g0 h40
    have z1 := digB_pow_le (k := a) z0
    have z2 := digB_pow_le (k := b) z1
    have k0 := limbs_len_digB (valL l0)
    have k1 := limbs_len_digB (valL l0 * 10 ^ a)
    have k2 := limbs_len_digB (valL l0 * 10 ^ a * 10 ^ b)
    have s1 : ten_Shift.f l0 (a : Int) = some (limbs (valL l0 * 10 ^ a)) := by rw [Shift_eq g0 (by omega) (by omega), Int.toNat_natCast]
    have s2 : ten_Shift.f (limbs (valL l0 * 10 ^ a)) (b : Int) = some (limbs (valL l0 * 10 ^ a * 10 ^ b)) := by rw [Shift_eq (limbs_good _) (by omega) (by omega), Int.toNat_natCast, limbs_val]
    have s3 : ten_Shift.f l0 ((a + b : Nat) : Int) = some (limbs (valL l0 * 10 ^ a * 10 ^ b)) := by rw [Shift_eq g0 (by omega) (by omega), Int.toNat_natCast, Nat.pow_add, Nat.mul_assoc]
    have c1 : ten_Cut.f (limbs (valL l0 * 10 ^ a)) (a : Int) = some (limbs (valL l0), []) := by
      rw [Cut_eq (limbs_good _) (by omega) (by omega), Int.toNat_natCast, limbs_val, Nat.mul_div_cancel _ (Nat.pow_pos (by decide)), Nat.mul_mod_left, limbs_zero]
    simp only [if_true]
    refine Ev.bind (evSome fun _ => s1) (Ev.bind (evSome fun _ => c1) (Ev.bind (evSome fun _ => answers04) ?_))
    simp only [if_true]
    refine Ev.bind (Text_ev g0 (by omega)) (Ev.bind (Number_ev (dB_digB _) (by omega)) ?_)
    rw [vB_digB]
    refine Ev.bind (Same_self (by omega)) ?_
    simp only [if_true, List.length_nil, Int.natCast_zero]
    refine Ev.bind (evSome fun _ => s1) (Ev.bind (evSome fun _ => s2) (Ev.bind (evSome fun _ => s3) ?_))
    exact Ev.bind (Same_self (by omega)) (Ev.now true)

end Go.Proofs.YtnpibnjncjieaaaDoor.Px

namespace Go.Proofs.YtnpibnjncjieaaaDoor.Px
open Fig Go.RowKit Go.Proofs.YtnpibnjncjieaaaDoorW.PrintWords Go.Proofs.YtnpibnjncjieaaaDoorW.PrintLast Go.Proofs.YtnpibnjncjieaaaDoorW.PrintMore
attribute [local go_sem] max2_int min2_int max_two min_two max_three min_three max_four min_four   -- for this text's walks alone

/-! plain facts: figureheadlaw04_TenShifts -/
theorem TenShifts_in (l0 : List Int) (g0 : goodL l0 = true) (h40 : l0.length ≤ 40) (a1 : Int) (h1 : a1 ≤ 400) (h2 : -9223372036854775808 ≤ a1) : Ev (fun k => figureheadlaw04_TenShifts.j0 k l0 a1 false) true := by
  obtain ⟨m, hm⟩ : ∃ m : Nat, m = a1.toNat := ⟨_, rfl⟩
  have hmx : mx a1 0 = (m : Int) := by unfold mx; omega
  have hm4 : m ≤ 400 := by omega
  have z0 := digB_valL_size g0 h40
  obtain ⟨v, hv⟩ : ∃ v, v = valL l0 := ⟨_, rfl⟩
  obtain ⟨s, hs⟩ : ∃ s, s = digB v := ⟨_, rfl⟩
  have ds : dB s = true := by rw [hs]; exact dB_digB v
  have vs : vB s = v := by rw [hs, vB_digB]
  rw [← hv, ← hs] at z0
  obtain ⟨j, hj⟩ : ∃ j, j = s.size - m := ⟨_, rfl⟩
  have hmn : mx 0 (wrap64 ((s.size : Int) - (mx a1 0))) = (j : Int) := by rw [hmx, w64 (by omega) (by omega)]; unfold mx; omega
  have hcut : vB (s.extract 0 j) = v / 10 ^ m ∧ vB (s.extract j s.size) = v % 10 ^ m := by
    by_cases hk : m ≤ s.size
    · have := vB_cut ds (j := j) (m := m) (by omega)
      rwa [vs] at this
    · have hj0 : j = 0 := by omega
      have hlt : v < 10 ^ m := by
        have := vB_lt ds; rw [vs] at this
        exact Nat.lt_of_lt_of_le this (Nat.pow_le_pow_right (by decide) (by omega))
      have := vB_cut ds (j := 0) (m := s.size) (by omega)
      rw [vs] at this
      have hv0 := vB_lt ds
      rw [vs] at hv0
      rw [hj0, this.1, this.2, Nat.div_eq_of_lt hlt, Nat.mod_eq_of_lt hlt, Nat.div_eq_of_lt hv0, Nat.mod_eq_of_lt hv0]
      exact ⟨rfl, rfl⟩
  have hsh : ten_Shift.f l0 a1 = some (limbs (v * 10 ^ m)) := by rw [Shift_eq g0 (by omega) (by omega), hv, hm]
  have hct : ten_Cut.f l0 a1 = some (limbs (v / 10 ^ m), limbs (v % 10 ^ m)) := by rw [Cut_eq g0 (by omega) (by omega), hv, hm]
  have lsz : (digB (v * 10 ^ m)).size ≤ 760 := by
    have : (digB v).size ≤ 360 := by rw [← hs]; omega
    have := digB_pow_le (k := m) this; omega
  have ll := limbs_len_digB (v * 10 ^ m)
  have ld : (limbs (v / 10 ^ m)).length ≤ 360 := Nat.le_trans (limbs_len_digB _) (digB_mono (Nat.div_le_self _ _) (by rw [← hs]; omega))
  have lm : (limbs (v % 10 ^ m)).length ≤ 360 := Nat.le_trans (limbs_len_digB _) (digB_mono (Nat.mod_le _ _) (by rw [← hs]; omega))
  have ht : Ev (fun k => figureheadref01_Text.f k l0) s := by rw [hs, hv]; exact Text_ev g0 (by omega)
  refine Ev.step (fun k => by simp only [figureheadlaw04_TenShifts.j0, Bool.false_eq_true, if_false]; rfl) ?_
  refine Ev.bind ht ?_
  simp only [hmn]
  rw [hmx]
  refine Ev.bind (Zeros_ev (by omega)) ?_
  have hsz : s.size + (zerosB m).size ≤ 9223372036854775807 := by rw [zerosB_size]; omega
  simp only [hsz, if_true]
  refine Ev.bind (StripD_ev (by rw [ByteArray.size_append, zerosB_size]; omega) (dB_append.2 ⟨ds, zerosB_dig m⟩)) ?_
  rw [vB_append, zerosB_size, zerosB_val, vs, Nat.add_zero]
  refine Ev.bind (evSome fun _ => hct) (Ev.bind (evSome fun _ => answers04) ?_)
  simp only [if_true]
  refine Ev.bind (evSome fun _ => hsh) (Ev.bind (Number_ev (dB_digB _) (by omega)) ?_)
  rw [vB_digB]
  refine Ev.bind (Same_self (by omega)) ?_
  have c1 : (0 : Int) ≤ (j : Int) := by omega
  have c2 : (j : Int) ≤ (s.size : Int) := by omega
  simp only [if_true, c1, c2, Int.toNat_natCast]
  refine Ev.bind (Number_ev (dB_to ds j) (by rw [size_to (by omega)]; omega)) ?_
  rw [hcut.1]
  refine Ev.bind (Same_self (by omega)) ?_
  simp only [if_true]
  refine Ev.bind (Number_ev (dB_from ds j) (by rw [size_from]; omega)) ?_
  rw [hcut.2]
  exact Ev.bind (Same_self (by omega)) (Ev.now true)
theorem TenShifts_pure (l0 : List Int) (a1 : Int) (m0 : l0.length * 4 ≤ 140737488351232) (w0 : ∀ x ∈ l0, (Lit.int .u32 x).wf = true) (w1 : (Lit.int .i64 a1).wf = true) : ∃ k, figureheadlaw04_TenShifts.f k l0 a1 = some true := by
  have n0 := fun x hx => wf_u32 (w0 x hx)
  refine Ev.rounds (g := fun k => figureheadlaw04_TenShifts.f k l0 a1) ?_
  unfold figureheadlaw04_TenShifts.f
  have hans : Ev (fun k => figureheadlaw04_TenShifts.j0 k l0 a1 true) true :=
    Ev.step (f := fun _ => some true) (fun k => by simp only [figureheadlaw04_TenShifts.j0, if_true, answers04, Option.bind_some]) (Ev.now true)
  refine Ev.bind (good04_ev n0 (by omega)) ?_
  cases hg : decide (l0.length ≤ 40) && goodL l0
  · simp only [Bool.false_eq_true, if_false]
    exact hans
  · obtain ⟨h40, g0⟩ : l0.length ≤ 40 ∧ goodL l0 = true := by simpa using hg
    simp only [if_true]
    by_cases h : a1 > 400
    · rw [decide_eq_true h]; exact hans
    · rw [decide_eq_false h]
      have h2 : -9223372036854775808 ≤ a1 := by
        simp [Lit.wf, IntKind.min, IntKind.max, IntKind.signed, IntKind.bits] at w1; omega
      exact TenShifts_in l0 g0 h40 a1 (by omega) h2

end Go.Proofs.YtnpibnjncjieaaaDoor.Px
