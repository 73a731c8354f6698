/- The functions that the law DivOwn reaches, told as plain functions, with what is proved of them (part 0). -/
import Derived.Test.YtnpibnjncjieaaaPx0
namespace Go.Proofs.Ytnpibnjncjieaaa.Px
open Fig Go.RowKit Go.Proofs.YtnpibnjncjieaaaW.PrintWords Go.Proofs.YtnpibnjncjieaaaW.PrintLast Go.Proofs.YtnpibnjncjieaaaW.PrintMore
attribute [local go_sem] max2_int min2_int max_two min_two max_three min_three max_four min_four   -- for this text's walks alone

/-! ### figureheadref01_Good: function 19 -/
def figureheadref01_Good.l0 : Nat → List Int → Int → Option (Bool)
  | 0, _, _ => none
  | k + 1, x0, x3 => if x3 < (x0.length : Int) then (if 0 ≤ x3 then (if (rd x0 x3) > 999999999 then (some false) else (figureheadref01_Good.l0 k x0 (wrap64 (x3 + 1)))) else (none)) else (some true)
def figureheadref01_Good.f (k : Nat) (l0 : List Int) : Option (Bool) := figureheadref01_Good.l0 k l0 0
theorem figureheadref01_Good.mono_l : ∀ k, (∀ y0 y1, LeO (figureheadref01_Good.l0 k y0 y1) (figureheadref01_Good.l0 (k + 1) y0 y1))
  | 0 => fun _ _ r h => by simp [figureheadref01_Good.l0] at h
  | k + 1 => by
    have ih0 := figureheadref01_Good.mono_l k
    · intro y0 y1
      unfold figureheadref01_Good.l0
      repeat' first
      | (with_reducible exact ih0 _ _)
      | (with_reducible exact LeO.refl _)
      | (with_reducible exact LeO.none _)
      | (with_reducible refine LeO.ite ?_ ?_)
      | (with_reducible refine LeO.bind ?_ (fun _ => ?_))
      | exact ih0 _ _
      | exact LeO.none _
      | refine LeO.ite ?_ ?_
      | refine LeO.bind ?_ (fun _ => ?_)
theorem figureheadref01_Good.mono : ∀ a0 k, LeO (figureheadref01_Good.f k a0) (figureheadref01_Good.f (k + 1) a0) := by
  intro a0 k
  have ih0 := figureheadref01_Good.mono_l k
  unfold figureheadref01_Good.f
  repeat' first
      | (with_reducible exact ih0 _ _)
      | (with_reducible exact LeO.refl _)
      | (with_reducible exact LeO.none _)
      | (with_reducible refine LeO.ite ?_ ?_)
      | (with_reducible refine LeO.bind ?_ (fun _ => ?_))
      | exact ih0 _ _
      | exact LeO.none _
      | refine LeO.ite ?_ ?_
      | refine LeO.bind ?_ (fun _ => ?_)
set_option maxHeartbeats 8000000 in
set_option maxRecDepth 100000 in
theorem figureheadref01_Good.calls (k : Nat) (A0 : Option Addr) (c0 : Nat) (l0 : List Int) (r : Bool) (w : World) (hr0 : Kd.C (Kd.int .u32) w A0 l0.length l0) (hc0 : l0.length ≤ c0) (h : figureheadref01_Good.f k l0 = some r) :
    Calls Try.prog 19 #[.slice A0 l0.length c0] w fun e w' => e = .returned (.bool r) ∧ Drawn0 w w' := by
  have HR0 := Aside0.mk hr0
  have HC0 := Aside0.mk hc0
  clear hr0 hc0
  have H : (figureheadref01_Good.l0 k l0 0) = some r := h
  clear h
  have H' := Aside0.mk H
  clear H
  go_enter Try.func19, Try.ntmps19
  go_wp2
  go_loopg [3] k (fun kq v3 w' => ∃ (x3_1 : Int), v3 = .int .i64 x3_1 ∧ Aside0 (figureheadref01_Good.l0 kq l0 x3_1 = some r) ∧ Aside0 (kq ≤ k) ∧ Drawn0 w w')
  case atStart => exact ⟨(0), (by first | rfl | (simp; done) | (simp [*]; done) | (simp [*, Fig.bne_nil]; done)), H', ⟨Nat.le_refl _⟩, by repeat (first | exact Drawn0.refl _ | apply Drawn0.step)⟩
  case round =>
    clear H'
    try clear c1
    obtain ⟨x3_1, rfl, HA, HK1, ⟨m1, rfl⟩⟩ := hrel
    cases gk with
    | zero => exact absurd HA.out (by simp [figureheadref01_Good.l0])
    | succ k1 =>
      have H := HA.out
      clear HA
      simp only [figureheadref01_Good.l0] at H
      by_cases c2 : x3_1 < (l0.length : Int)
      · rw [if_pos c2] at H
        have c2b0 : decide (x3_1 < (l0.length : Int)) = true := decide_eq_true c2
        clear c2
        by_cases c3 : 0 ≤ x3_1
        · rw [if_pos c3] at H
          have c3b0 : decide (0 ≤ x3_1) = true := decide_eq_true c3
          clear c3
          by_cases c4 : (rd l0 x3_1) > 999999999
          · rw [if_pos c4] at H
            have c4b0 : decide (999999999 < (rd l0 x3_1)) = true := decide_eq_true c4
            clear c4
            obtain rfl := Option.some.inj H
            have p101 : 0 ≤ (x3_1 : Int) := of_decide_eq_true (by first | (with_reducible assumption) | assumption)
            have q101 : x3_1 < (l0.length : Int) := of_decide_eq_true (by first | (with_reducible assumption) | assumption)
            obtain ⟨ad101, e101, hx101_0⟩ := Kd.at_int HR0.out x3_1 p101 q101
            cases e101
            replace p101 := eq_true p101
            replace q101 := eq_true q101
            go_wp2
            go_ret
            exact ⟨by first | rfl | (simp; done) | (simp [*]; done) | (simp [*, Fig.bne_nil]; done), by repeat (first | exact Drawn0.refl _ | apply Drawn0.step)⟩
          · rw [if_neg c4] at H
            have c4b0 : decide (999999999 < (rd l0 x3_1)) = false := decide_eq_false c4
            clear c4
            have H' := Aside0.mk H
            clear H
            have p101 : 0 ≤ (x3_1 : Int) := of_decide_eq_true (by first | (with_reducible assumption) | assumption)
            have q101 : x3_1 < (l0.length : Int) := of_decide_eq_true (by first | (with_reducible assumption) | assumption)
            obtain ⟨ad101, e101, hx101_0⟩ := Kd.at_int HR0.out x3_1 p101 q101
            cases e101
            replace p101 := eq_true p101
            replace q101 := eq_true q101
            go_wp2
            go_roundg k1
            case measure => have := HK1.out; omega
            case rel => exact ⟨(wrap64 (x3_1 + 1)), (by first | rfl | (simp; done) | (simp [*]; done) | (simp [*, Fig.bne_nil]; done)), H', ⟨by have := HK1.out; omega⟩, by repeat (first | exact Drawn0.refl _ | apply Drawn0.step)⟩
        · rw [if_neg c3] at H
          exact absurd H (by simp)
      · rw [if_neg c2] at H
        have c2b0 : decide (x3_1 < (l0.length : Int)) = false := decide_eq_false c2
        clear c2
        obtain rfl := Option.some.inj H
        go_wp2
        go_ret
        exact ⟨by first | rfl | (simp; done) | (simp [*]; done) | (simp [*, Fig.bne_nil]; done), by repeat (first | exact Drawn0.refl _ | apply Drawn0.step)⟩

end Go.Proofs.Ytnpibnjncjieaaa.Px

namespace Go.Proofs.Ytnpibnjncjieaaa.Px
open Fig Go.RowKit Go.Proofs.YtnpibnjncjieaaaW.PrintWords Go.Proofs.YtnpibnjncjieaaaW.PrintLast Go.Proofs.YtnpibnjncjieaaaW.PrintMore
attribute [local go_sem] max2_int min2_int max_two min_two max_three min_three max_four min_four   -- for this text's walks alone

/-! ### figureheadlaw03_good: function 8 -/
def figureheadlaw03_good.l0 : Nat → List (List Int) → Int → Option (Bool)
  | 0, _, _ => none
  | k + 1, x0, x3 => if x3 < (x0.length : Int) then (if 0 ≤ x3 then (if ((rd_L1 x0 x3).length : Int) > 20 then (some false) else ((figureheadref01_Good.f k (rd_L1 x0 x3)).bind fun t104 => (if t104 = true then (figureheadlaw03_good.l0 k x0 (wrap64 (x3 + 1))) else (some false)))) else (none)) else (some true)
def figureheadlaw03_good.f (k : Nat) (l0 : List (List Int)) : Option (Bool) := figureheadlaw03_good.l0 k l0 0
theorem figureheadlaw03_good.mono_l : ∀ k, (∀ y0 y1, LeO (figureheadlaw03_good.l0 k y0 y1) (figureheadlaw03_good.l0 (k + 1) y0 y1))
  | 0 => fun _ _ r h => by simp [figureheadlaw03_good.l0] at h
  | k + 1 => by
    have ih0 := figureheadlaw03_good.mono_l k
    · intro y0 y1
      unfold figureheadlaw03_good.l0
      repeat' first
      | (with_reducible exact ih0 _ _)
      | (with_reducible exact figureheadref01_Good.mono _ _)
      | (with_reducible exact LeO.refl _)
      | (with_reducible exact LeO.none _)
      | (with_reducible refine LeO.ite ?_ ?_)
      | (with_reducible refine LeO.bind ?_ (fun _ => ?_))
      | exact ih0 _ _
      | exact figureheadref01_Good.mono _ _
      | exact LeO.none _
      | refine LeO.ite ?_ ?_
      | refine LeO.bind ?_ (fun _ => ?_)
theorem figureheadlaw03_good.mono : ∀ a0 k, LeO (figureheadlaw03_good.f k a0) (figureheadlaw03_good.f (k + 1) a0) := by
  intro a0 k
  have ih0 := figureheadlaw03_good.mono_l k
  unfold figureheadlaw03_good.f
  repeat' first
      | (with_reducible exact ih0 _ _)
      | (with_reducible exact figureheadref01_Good.mono _ _)
      | (with_reducible exact LeO.refl _)
      | (with_reducible exact LeO.none _)
      | (with_reducible refine LeO.ite ?_ ?_)
      | (with_reducible refine LeO.bind ?_ (fun _ => ?_))
      | exact ih0 _ _
      | exact figureheadref01_Good.mono _ _
      | exact LeO.none _
      | refine LeO.ite ?_ ?_
      | refine LeO.bind ?_ (fun _ => ?_)
set_option maxHeartbeats 8000000 in
set_option maxRecDepth 100000 in
theorem figureheadlaw03_good.calls (k : Nat) (A0 : Option Addr) (c0 : Nat) (l0 : List (List Int)) (r : Bool) (w : World) (hr0 : Kd.C (Kd.slice 32 (Kd.int .u32)) w A0 l0.length l0) (hc0 : l0.length ≤ c0) (h : figureheadlaw03_good.f k l0 = some r) :
    Calls Try.prog 8 #[.slice A0 l0.length c0] w fun e w' => e = .returned (.bool r) ∧ Drawn0 w w' := by
  have HR0 := Aside0.mk hr0
  have HC0 := Aside0.mk hc0
  clear hr0 hc0
  have H : (figureheadlaw03_good.l0 k l0 0) = some r := h
  clear h
  have H' := Aside0.mk H
  clear H
  go_enter Try.func8, Try.ntmps8
  go_wp2
  go_loopg [3] k (fun kq v3 w' => ∃ (x3_1 : Int), v3 = .int .i64 x3_1 ∧ Aside0 (figureheadlaw03_good.l0 kq l0 x3_1 = some r) ∧ Aside0 (kq ≤ k) ∧ Drawn0 w w')
  case atStart => exact ⟨(0), (by first | rfl | (simp; done) | (simp [*]; done) | (simp [*, Fig.bne_nil]; done)), H', ⟨Nat.le_refl _⟩, by repeat (first | exact Drawn0.refl _ | apply Drawn0.step)⟩
  case round =>
    clear H'
    obtain ⟨x3_1, rfl, HA, HK1, ⟨m1, rfl⟩⟩ := hrel
    cases gk with
    | zero => exact absurd HA.out (by simp [figureheadlaw03_good.l0])
    | succ k1 =>
      have H := HA.out
      clear HA
      simp only [figureheadlaw03_good.l0] at H
      by_cases c2 : x3_1 < (l0.length : Int)
      · rw [if_pos c2] at H
        have c2b0 : decide (x3_1 < (l0.length : Int)) = true := decide_eq_true c2
        clear c2
        by_cases c3 : 0 ≤ x3_1
        · rw [if_pos c3] at H
          have c3b0 : decide (0 ≤ x3_1) = true := decide_eq_true c3
          clear c3
          by_cases c4 : ((rd_L1 l0 x3_1).length : Int) > 20
          · rw [if_pos c4] at H
            have c4b0 : decide (20 < ((rd_L1 l0 x3_1).length : Int)) = true := decide_eq_true c4
            have c4b1 : decide (20 < (rd_L1 l0 x3_1).length) = true := decide_eq_true (by omega)
            clear c4
            obtain rfl := Option.some.inj H
            have p102 : 0 ≤ (x3_1 : Int) := of_decide_eq_true (by first | (with_reducible assumption) | assumption)
            have q102 : x3_1 < (l0.length : Int) := of_decide_eq_true (by first | (with_reducible assumption) | assumption)
            obtain ⟨ad102, A102_0, c102_0, e102, hx102_0, hl102_0, hi102_0⟩ := at_L1 HR0.out x3_1 p102 q102
            cases e102
            have HR102_0 := Aside0.mk hi102_0
            have HC102_0 := Aside0.mk hl102_0
            clear hi102_0 hl102_0
            replace p102 := eq_true p102
            replace q102 := eq_true q102
            go_wp2
            go_ret
            exact ⟨by first | rfl | (simp; done) | (simp [*]; done) | (simp [*, Fig.bne_nil]; done), by repeat (first | exact Drawn0.refl _ | apply Drawn0.step)⟩
          · rw [if_neg c4] at H
            have c4b0 : decide (20 < ((rd_L1 l0 x3_1).length : Int)) = false := decide_eq_false c4
            have c4b1 : decide (20 < (rd_L1 l0 x3_1).length) = false := decide_eq_false (by omega)
            clear c4
            replace H := Option.bind_eq_some_iff.mp H
            obtain ⟨t104, A50, H⟩ := H
            replace H : (if t104 = true then (figureheadlaw03_good.l0 k1 l0 (wrap64 (x3_1 + 1))) else (some false)) = some r := H
            have A5 := Aside0.mk A50
            clear A50
            by_cases c6 : t104 = true
            · subst c6
              have H1 : (figureheadlaw03_good.l0 k1 l0 (wrap64 (x3_1 + 1))) = some r := by rw [if_pos rfl] at H; exact H
              clear H
              have H := H1
              clear H1
              have H' := Aside0.mk H
              clear H
              have p102 : 0 ≤ (x3_1 : Int) := of_decide_eq_true (by first | (with_reducible assumption) | assumption)
              have q102 : x3_1 < (l0.length : Int) := of_decide_eq_true (by first | (with_reducible assumption) | assumption)
              obtain ⟨ad102, A102_0, c102_0, e102, hx102_0, hl102_0, hi102_0⟩ := at_L1 HR0.out x3_1 p102 q102
              cases e102
              have HR102_0 := Aside0.mk hi102_0
              have HC102_0 := Aside0.mk hl102_0
              clear hi102_0 hl102_0
              replace p102 := eq_true p102
              replace q102 := eq_true q102
              have p103 : 0 ≤ (x3_1 : Int) := of_decide_eq_true (by first | (with_reducible assumption) | assumption)
              have q103 : x3_1 < (l0.length : Int) := of_decide_eq_true (by first | (with_reducible assumption) | assumption)
              obtain ⟨ad103, A103_0, c103_0, e103, hx103_0, hl103_0, hi103_0⟩ := at_L1 HR0.out x3_1 p103 q103
              obtain rfl : ad102 = ad103 := (by injection e103)
              have HR103_0 := Aside0.mk hi103_0
              have HC103_0 := Aside0.mk hl103_0
              clear hi103_0 hl103_0
              replace p103 := eq_true p103
              replace q103 := eq_true q103
              have ea_ := Option.some.inj (hx102_0.symm.trans hx103_0)
              injection ea_ with ea_ en_ ec_
              subst ea_
              subst ec_
              clear en_
              go_wp2_with (first | ((with_reducible refine gate_dst (N := 21) rfl ?_); (refine gate_guard (by rfl) ?_; dsimp only); (with_reducible refine gate_callee (f := 19) rfl ?_); refine goesL_ (some 21) rfl rfl Try.func19 (by kernel_rfl) rfl #[.slice A102_0 (rd_L1 l0 x3_1).length c102_0] rfl (by (try simp only [List.map_toArray, List.map_cons, List.map_nil]); first | done | rfl | (simp only [List.length_drop, List.length_take]; rfl)) ?_; (with_reducible refine (figureheadref01_Good.calls k1 _ _ (rd_L1 l0 x3_1) true _ ?side1 ?side2 A5.out).mono ?_); (case side1 => repeat (first | exact HR103_0.out | (with_reducible refine Kd.C_alloc ?_ _) | (with_reducible refine Kd.C_drewN ?_ _) | (with_reducible refine Kd.C_drew ?_))); (case side2 => exact HC103_0.out); rintro e w' ⟨rfl, ⟨nd, rfl⟩⟩; refine ⟨_, rfl, ?_⟩))
              go_roundg k1
              case measure => have := HK1.out; omega
              case rel => exact ⟨(wrap64 (x3_1 + 1)), (by first | rfl | (simp; done) | (simp [*]; done) | (simp [*, Fig.bne_nil]; done)), H', ⟨by have := HK1.out; omega⟩, by repeat (first | exact Drawn0.refl _ | apply Drawn0.step)⟩
            · replace c6 := Bool.eq_false_iff.mpr c6
              subst c6
              have H1 : (some false) = some r := by rw [if_neg (show ¬ (false = true) by decide)] at H; exact H
              clear H
              have H := H1
              clear H1
              obtain rfl := Option.some.inj H
              have p102 : 0 ≤ (x3_1 : Int) := of_decide_eq_true (by first | (with_reducible assumption) | assumption)
              have q102 : x3_1 < (l0.length : Int) := of_decide_eq_true (by first | (with_reducible assumption) | assumption)
              obtain ⟨ad102, A102_0, c102_0, e102, hx102_0, hl102_0, hi102_0⟩ := at_L1 HR0.out x3_1 p102 q102
              cases e102
              have HR102_0 := Aside0.mk hi102_0
              have HC102_0 := Aside0.mk hl102_0
              clear hi102_0 hl102_0
              replace p102 := eq_true p102
              replace q102 := eq_true q102
              have p103 : 0 ≤ (x3_1 : Int) := of_decide_eq_true (by first | (with_reducible assumption) | assumption)
              have q103 : x3_1 < (l0.length : Int) := of_decide_eq_true (by first | (with_reducible assumption) | assumption)
              obtain ⟨ad103, A103_0, c103_0, e103, hx103_0, hl103_0, hi103_0⟩ := at_L1 HR0.out x3_1 p103 q103
              obtain rfl : ad102 = ad103 := (by injection e103)
              have HR103_0 := Aside0.mk hi103_0
              have HC103_0 := Aside0.mk hl103_0
              clear hi103_0 hl103_0
              replace p103 := eq_true p103
              replace q103 := eq_true q103
              have ea_ := Option.some.inj (hx102_0.symm.trans hx103_0)
              injection ea_ with ea_ en_ ec_
              subst ea_
              subst ec_
              clear en_
              go_wp2_with (first | ((with_reducible refine gate_dst (N := 21) rfl ?_); (refine gate_guard (by rfl) ?_; dsimp only); (with_reducible refine gate_callee (f := 19) rfl ?_); refine goesL_ (some 21) rfl rfl Try.func19 (by kernel_rfl) rfl #[.slice A102_0 (rd_L1 l0 x3_1).length c102_0] rfl (by (try simp only [List.map_toArray, List.map_cons, List.map_nil]); first | done | rfl | (simp only [List.length_drop, List.length_take]; rfl)) ?_; (with_reducible refine (figureheadref01_Good.calls k1 _ _ (rd_L1 l0 x3_1) false _ ?side1 ?side2 A5.out).mono ?_); (case side1 => repeat (first | exact HR103_0.out | (with_reducible refine Kd.C_alloc ?_ _) | (with_reducible refine Kd.C_drewN ?_ _) | (with_reducible refine Kd.C_drew ?_))); (case side2 => exact HC103_0.out); rintro e w' ⟨rfl, ⟨nd, rfl⟩⟩; refine ⟨_, rfl, ?_⟩))
              go_ret
              exact ⟨by first | rfl | (simp; done) | (simp [*]; done) | (simp [*, Fig.bne_nil]; done), by repeat (first | exact Drawn0.refl _ | apply Drawn0.step)⟩
        · rw [if_neg c3] at H
          exact absurd H (by simp)
      · rw [if_neg c2] at H
        have c2b0 : decide (x3_1 < (l0.length : Int)) = false := decide_eq_false c2
        clear c2
        obtain rfl := Option.some.inj H
        go_wp2
        go_ret
        exact ⟨by first | rfl | (simp; done) | (simp [*]; done) | (simp [*, Fig.bne_nil]; done), by repeat (first | exact Drawn0.refl _ | apply Drawn0.step)⟩

end Go.Proofs.Ytnpibnjncjieaaa.Px

namespace Go.Proofs.Ytnpibnjncjieaaa.Px
open Fig Go.RowKit Go.Proofs.YtnpibnjncjieaaaW.PrintWords Go.Proofs.YtnpibnjncjieaaaW.PrintLast Go.Proofs.YtnpibnjncjieaaaW.PrintMore
attribute [local go_sem] max2_int min2_int max_two min_two max_three min_three max_four min_four   -- for this text's walks alone

/-! ### nat_top: function 26 -/
def nat_top.l0 : Nat → List Int → Int → Option (Int)
  | 0, _, _ => none
  | k + 1, x0, x3 => if x3 > 0 then (if 0 ≤ (wrap64 (x3 - 1)) then (if (wrap64 (x3 - 1)) < (x0.length : Int) then (if (rd x0 (wrap64 (x3 - 1))) = 0 then (nat_top.l0 k x0 (wrap64 (x3 - 1))) else (some x3)) else (none)) else (none)) else (some x3)
def nat_top.f (k : Nat) (l0 : List Int) : Option (Int) := nat_top.l0 k l0 (l0.length : Int)
theorem nat_top.mono_l : ∀ k, (∀ y0 y1, LeO (nat_top.l0 k y0 y1) (nat_top.l0 (k + 1) y0 y1))
  | 0 => fun _ _ r h => by simp [nat_top.l0] at h
  | k + 1 => by
    have ih0 := nat_top.mono_l k
    · intro y0 y1
      unfold nat_top.l0
      repeat' first
      | (with_reducible exact ih0 _ _)
      | (with_reducible exact LeO.refl _)
      | (with_reducible exact LeO.none _)
      | (with_reducible refine LeO.ite ?_ ?_)
      | (with_reducible refine LeO.bind ?_ (fun _ => ?_))
      | exact ih0 _ _
      | exact LeO.none _
      | refine LeO.ite ?_ ?_
      | refine LeO.bind ?_ (fun _ => ?_)
theorem nat_top.mono : ∀ a0 k, LeO (nat_top.f k a0) (nat_top.f (k + 1) a0) := by
  intro a0 k
  have ih0 := nat_top.mono_l k
  unfold nat_top.f
  repeat' first
      | (with_reducible exact ih0 _ _)
      | (with_reducible exact LeO.refl _)
      | (with_reducible exact LeO.none _)
      | (with_reducible refine LeO.ite ?_ ?_)
      | (with_reducible refine LeO.bind ?_ (fun _ => ?_))
      | exact ih0 _ _
      | exact LeO.none _
      | refine LeO.ite ?_ ?_
      | refine LeO.bind ?_ (fun _ => ?_)
set_option maxHeartbeats 8000000 in
set_option maxRecDepth 100000 in
theorem nat_top.calls (k : Nat) (A0 : Option Addr) (c0 : Nat) (l0 : List Int) (r : Int) (w : World) (hr0 : Kd.C (Kd.int .u32) w A0 l0.length l0) (hc0 : l0.length ≤ c0) (h : nat_top.f k l0 = some r) :
    Calls Try.prog 26 #[.slice A0 l0.length c0] w fun e w' => e = .returned (.int .i64 r) ∧ Drawn0 w w' := by
  have HR0 := Aside0.mk hr0
  have HC0 := Aside0.mk hc0
  clear hr0 hc0
  have H : (nat_top.l0 k l0 (l0.length : Int)) = some r := h
  clear h
  have H' := Aside0.mk H
  clear H
  go_enter Try.func26, Try.ntmps26
  go_wp2
  go_loopg [3] k (fun kq v3 w' => ∃ (x3_1 : Int), v3 = .int .i64 x3_1 ∧ Aside0 (nat_top.l0 kq l0 x3_1 = some r) ∧ Aside0 (kq ≤ k) ∧ Drawn0 w w')
  case atStart => exact ⟨((l0.length : Int)), (by first | rfl | (simp; done) | (simp [*]; done) | (simp [*, Fig.bne_nil]; done)), H', ⟨Nat.le_refl _⟩, by repeat (first | exact Drawn0.refl _ | apply Drawn0.step)⟩
  case round =>
    clear H'
    obtain ⟨x3_1, rfl, HA, HK1, ⟨m1, rfl⟩⟩ := hrel
    cases gk with
    | zero => exact absurd HA.out (by simp [nat_top.l0])
    | succ k1 =>
      have H := HA.out
      clear HA
      simp only [nat_top.l0] at H
      by_cases c2 : x3_1 > 0
      · rw [if_pos c2] at H
        have c2b0 : decide (0 < x3_1) = true := decide_eq_true c2
        clear c2
        obtain ⟨ji3, hji3⟩ : ∃ j_ : Int, (wrap64 (x3_1 - 1)) = j_ := ⟨_, rfl⟩
        replace H : (if 0 ≤ (ji3) then (if (ji3) < (l0.length : Int) then (if (rd l0 (ji3)) = 0 then (nat_top.l0 k1 l0 ji3) else (some x3_1)) else (none)) else (none)) = some r := by first | (rw [hji3] at H; exact H) | (simp only [hji3] at H ⊢; exact H)
        have hji3w : (IntKind.i64.wrap (x3_1 - 1)) = ji3 := (i64_w _).trans hji3
        by_cases c4 : 0 ≤ (ji3)
        · rw [if_pos c4] at H
          have c4b0 : decide (0 ≤ (ji3)) = true := decide_eq_true c4
          clear c4
          by_cases c5 : (ji3) < (l0.length : Int)
          · rw [if_pos c5] at H
            have c5b0 : decide ((ji3) < (l0.length : Int)) = true := decide_eq_true c5
            clear c5
            by_cases c6 : (rd l0 (ji3)) = 0
            · rw [if_pos c6] at H
              have c6b0 : ((rd l0 (ji3)) == 0) = true := beq_iff_eq.mpr c6
              have c6b1 : ((rd l0 (ji3)) != 0) = false := bne_eq_false_iff_eq.mpr c6
              clear c6
              have H' := Aside0.mk H
              clear H
              have p105 : 0 ≤ ((ji3) : Int) := of_decide_eq_true (by first | (with_reducible assumption) | assumption)
              have q105 : (ji3) < (l0.length : Int) := of_decide_eq_true (by first | (with_reducible assumption) | assumption)
              obtain ⟨ad105, e105, hx105_0⟩ := Kd.at_int HR0.out (ji3) p105 q105
              cases e105
              replace p105 := eq_true p105
              replace q105 := eq_true q105
              go_wp2
              go_roundg k1
              case measure => have := HK1.out; omega
              case rel => exact ⟨(ji3), (by first | rfl | (simp; done) | (simp only [← hji3] <;> (first | rfl | simp)) | (simp [*]; done) | (simp [*, Fig.bne_nil]; done)), H', ⟨by have := HK1.out; omega⟩, by repeat (first | exact Drawn0.refl _ | apply Drawn0.step)⟩
            · rw [if_neg c6] at H
              have c6b0 : ((rd l0 (ji3)) == 0) = false := beq_eq_false_iff_ne.mpr c6
              have c6b1 : ((rd l0 (ji3)) != 0) = true := bne_iff_ne.mpr c6
              obtain rfl := Option.some.inj H
              have p105 : 0 ≤ ((ji3) : Int) := of_decide_eq_true (by first | (with_reducible assumption) | assumption)
              have q105 : (ji3) < (l0.length : Int) := of_decide_eq_true (by first | (with_reducible assumption) | assumption)
              obtain ⟨ad105, e105, hx105_0⟩ := Kd.at_int HR0.out (ji3) p105 q105
              cases e105
              replace p105 := eq_true p105
              replace q105 := eq_true q105
              go_wp2
              go_ret
              exact ⟨by first | rfl | (simp; done) | (simp only [← hji3] <;> (first | rfl | simp)) | (simp [*]; done) | (simp [*, Fig.bne_nil]; done), by repeat (first | exact Drawn0.refl _ | apply Drawn0.step)⟩
          · rw [if_neg c5] at H
            exact absurd H (by simp)
        · rw [if_neg c4] at H
          exact absurd H (by simp)
      · rw [if_neg c2] at H
        have c2b0 : decide (0 < x3_1) = false := decide_eq_false c2
        clear c2
        obtain rfl := Option.some.inj H
        go_wp2
        go_ret
        exact ⟨by first | rfl | (simp; done) | (simp [*]; done) | (simp [*, Fig.bne_nil]; done), by repeat (first | exact Drawn0.refl _ | apply Drawn0.step)⟩

end Go.Proofs.Ytnpibnjncjieaaa.Px

namespace Go.Proofs.Ytnpibnjncjieaaa.Px
open Fig Go.RowKit Go.Proofs.YtnpibnjncjieaaaW.PrintWords Go.Proofs.YtnpibnjncjieaaaW.PrintLast Go.Proofs.YtnpibnjncjieaaaW.PrintMore
attribute [local go_sem] max2_int min2_int max_two min_two max_three min_three max_four min_four   -- for this text's walks alone

/-! plain facts: nat_top -/
theorem top_loop (l : List Int) (hl : l.length ≤ 4611686018427387904) : ∀ (n : Nat), n ≤ l.length → Ev (fun k => nat_top.l0 k l (n : Int)) (((trimL (l.take n)).length : Nat) : Int)
  | 0, hn => by
    refine evDone (r' := ((0 : Nat) : Int)) (fun k => ?_) (by simp [trimL])
    simp only [nat_top.l0]; rw [if_neg (by omega)]
  | n + 1, hn => by
    have hlt : n < l.length := by omega
    rw [List.take_succ_eq_append_getElem hlt]
    by_cases h0 : l[n] = 0
    · refine evIs (Ev.step (f := fun k => nat_top.l0 k l (n : Int)) (fun k => ?_) (top_loop l hl n (by omega))) (by rw [h0, trimL_snoc_zero])
      simp only [nat_top.l0]; rw [if_pos (by omega), pred64 _ (by omega), if_pos (by omega), if_pos (by omega), rd_get hlt, if_pos h0]
    · refine evDone (r' := ((n + 1 : Nat) : Int)) (fun k => ?_) (by rw [trimL_snoc h0]; simp; omega)
      simp only [nat_top.l0]; rw [if_pos (by omega), pred64 _ (by omega), if_pos (by omega), if_pos (by omega), rd_get hlt, if_neg h0]
theorem top_ev {l : List Int} (hl : l.length ≤ 4611686018427387904) : Ev (fun k => nat_top.f k l) (((trimL l).length : Nat) : Int) := by
  have := top_loop l hl l.length (Nat.le_refl _)
  rwa [List.take_length] at this
theorem top_at {l : List Int} (hl : l.length ≤ 4611686018427387904) : ∃ k, nat_top.f k l = some (((trimL l).length : Nat) : Int) := (top_ev hl).rounds

end Go.Proofs.Ytnpibnjncjieaaa.Px

namespace Go.Proofs.Ytnpibnjncjieaaa.Px
open Fig Go.RowKit Go.Proofs.YtnpibnjncjieaaaW.PrintWords Go.Proofs.YtnpibnjncjieaaaW.PrintLast Go.Proofs.YtnpibnjncjieaaaW.PrintMore
attribute [local go_sem] max2_int min2_int max_two min_two max_three min_three max_four min_four   -- for this text's walks alone

/-! ### nat_Trim: function 20 -/
def nat_Trim.f (l0 : List Int) : Option (List Int) := trimF l0
set_option maxHeartbeats 1000000 in
theorem nat_Trim.calls (A0 : Option Addr) (c0 : Nat) (l0 : List Int) (r : List Int) (w : World) (hr0 : Kd.C (Kd.int .u32) w A0 l0.length l0) (hc0 : l0.length ≤ c0) (h : nat_Trim.f l0 = some r) :
    Calls Try.prog 20 #[.slice A0 l0.length c0] w fun e w' => ∃ v0_ : Value, e = .returned (v0_) ∧ Kd.R (Kd.int .u32) 32 w' w.heap.size (fun _ => True) v0_ r ∧ Below w.heap.size w w' := by
  unfold nat_Trim.f trimF at h
  by_cases hl : l0.length ≤ 20000000000000
  · rw [if_pos hl] at h
    obtain rfl := Option.some.inj h
    obtain ⟨k, hk⟩ := top_at (l := l0) (by omega)
    have ht := trimL_len l0
    have hk' := Aside0.mk hk
    have htk := Aside0.mk (Fig.take_trim l0)
    obtain ⟨n, hn⟩ : ∃ n, n = (trimL l0).length := ⟨_, rfl⟩
    rw [← hn] at hk' ht htk
    have hn' := Aside0.mk hn
    have HR0 := Aside0.mk hr0
    have HC0 := Aside0.mk hc0
    clear h hk hr0 hc0 hn
    go_enter Try.func20, Try.ntmps20
    go_wp2_with (first
      | (go_at_call 26; (with_reducible refine (nat_top.calls k _ _ l0 (n : Int) _ ?side1 ?side2 hk'.out).mono ?_); (case side1 => exact HR0.out); (case side2 => exact HC0.out); rintro e w' ⟨rfl, ⟨nd, rfl⟩⟩)
      | ((with_reducible refine gate_dst (N := 6) rfl ?_); refine Kd.R_make (Kd.int .u32) w.heap.size 32 rfl (N := 6) rfl 22 _ _ rfl (n : Int) rfl rfl Try.underlying22 (.int .u32 0) 4 info32 rfl (by decide) (by omega) 0 (ok := fun _ => True) (okp := fun _ => True) rfl (fun _ hk => hk) trivial (by omega) (by omega) (w0 := w) (pw_below_drewN (Below.refl _ _) _) (Nat.le_refl _) ?_; intro v6 w6 ho6 hb6 hg_ hnew_; clear hg_ hnew_; rw [Int.toNat_natCast] at ho6; have HO6 := Aside0.mk ho6; have HB6 := Aside0.mk hb6; clear ho6 hb6)
      | ((with_reducible refine gate_dst (N := 9) rfl ?_); refine R_copy (k := .u32) w.heap.size rfl _ _ 22 32 rfl Try.underlying22 (by kernel_rfl) v6 (List.replicate n 0) l0 A0 l0.length c0 (fun _ => True) rfl rfl HO6.out (Kd.C_below HR0.out HB6.out) ?cs HB6.out ?_; (case cs => rw [List.length_replicate]; exact ht); intro w9 ho9 hb9; rw [List.length_replicate, htk.out] at ho9; have HO9 := Aside0.mk ho9; have HB9 := Aside0.mk hb9; clear ho9 hb9))
    go_ret
    exact ⟨_, rfl, HO9.out, HB9.out⟩
  · rw [if_neg hl] at h; cases h

end Go.Proofs.Ytnpibnjncjieaaa.Px

namespace Go.Proofs.Ytnpibnjncjieaaa.Px
open Fig Go.RowKit Go.Proofs.YtnpibnjncjieaaaW.PrintWords Go.Proofs.YtnpibnjncjieaaaW.PrintLast Go.Proofs.YtnpibnjncjieaaaW.PrintMore
attribute [local go_sem] max2_int min2_int max_two min_two max_three min_three max_four min_four   -- for this text's walks alone

/-! ### cmp_isNaN_int: function 33 -/
def cmp_isNaN_int.f (a0 : Int) : Option (Bool) := some (a0 != a0)
set_option maxHeartbeats 8000000 in
set_option maxRecDepth 100000 in
theorem cmp_isNaN_int.calls (a0 : Int) (r : Bool) (w : World) (h : cmp_isNaN_int.f a0 = some r) :
    Calls Try.prog 33 #[.int .i64 a0] w fun e w' => e = .returned (.bool r) ∧ Drawn0 w w' := by
  have H : (some (a0 != a0)) = some r := h
  clear h
  obtain rfl := Option.some.inj H
  go_enter Try.func33, Try.ntmps33
  go_wp2
  go_ret
  exact ⟨by first | rfl | (simp; done) | (simp [*]; done) | (simp [*, Fig.bne_nil]; done), by repeat (first | exact Drawn0.refl _ | apply Drawn0.step)⟩

end Go.Proofs.Ytnpibnjncjieaaa.Px

namespace Go.Proofs.Ytnpibnjncjieaaa.Px
open Fig Go.RowKit Go.Proofs.YtnpibnjncjieaaaW.PrintWords Go.Proofs.YtnpibnjncjieaaaW.PrintLast Go.Proofs.YtnpibnjncjieaaaW.PrintMore
attribute [local go_sem] max2_int min2_int max_two min_two max_three min_three max_four min_four   -- for this text's walks alone

/-! ### cmp_Compare_int: function 30 -/
def cmp_Compare_int.f (a0 : Int) (a1 : Int) : Option (Int) := (cmp_isNaN_int.f a0).bind fun t106 => ((cmp_isNaN_int.f a1).bind fun t107 => (if t106 = true then (if t107 = true then (some 0) else (some (-1))) else (if t107 = true then (some 1) else (if a0 < a1 then (some (-1)) else (if a0 > a1 then (some 1) else (some 0))))))
set_option maxHeartbeats 8000000 in
set_option maxRecDepth 100000 in
theorem cmp_Compare_int.calls (a0 : Int) (a1 : Int) (r : Int) (w : World) (h : cmp_Compare_int.f a0 a1 = some r) :
    Calls Try.prog 30 #[.int .i64 a0, .int .i64 a1] w fun e w' => e = .returned (.int .i64 r) ∧ Drawn0 w w' := by
  have H : ((cmp_isNaN_int.f a0).bind fun t106 => ((cmp_isNaN_int.f a1).bind fun t107 => (if t106 = true then (if t107 = true then (some 0) else (some (-1))) else (if t107 = true then (some 1) else (if a0 < a1 then (some (-1)) else (if a0 > a1 then (some 1) else (some 0))))))) = some r := h
  clear h
  replace H := Option.bind_eq_some_iff.mp H
  obtain ⟨t106, A30, H⟩ := H
  replace H : ((cmp_isNaN_int.f a1).bind fun t107 => (if t106 = true then (if t107 = true then (some 0) else (some (-1))) else (if t107 = true then (some 1) else (if a0 < a1 then (some (-1)) else (if a0 > a1 then (some 1) else (some 0)))))) = some r := H
  have A3 := Aside0.mk A30
  clear A30
  replace H := Option.bind_eq_some_iff.mp H
  obtain ⟨t107, A40, H⟩ := H
  replace H : (if t106 = true then (if t107 = true then (some 0) else (some (-1))) else (if t107 = true then (some 1) else (if a0 < a1 then (some (-1)) else (if a0 > a1 then (some 1) else (some 0))))) = some r := H
  have A4 := Aside0.mk A40
  clear A40
  by_cases c5 : t106 = true
  · subst c5
    have H1 : (if t107 = true then (some 0) else (some (-1))) = some r := by rw [if_pos rfl] at H; exact H
    clear H
    have H := H1
    clear H1
    by_cases c6 : t107 = true
    · subst c6
      have H1 : (some 0) = some r := by rw [if_pos rfl] at H; exact H
      clear H
      have H := H1
      clear H1
      obtain rfl := Option.some.inj H
      go_enter Try.func30, Try.ntmps30
      go_wp2_with (first | ((with_reducible refine gate_callee (f := 33) rfl ?_); refine goesL_ (some 8) rfl rfl Try.func33 (by kernel_rfl) rfl #[.int .i64 a0] rfl (by (try simp only [List.map_toArray, List.map_cons, List.map_nil]); first | done | rfl | (simp only [List.length_drop, List.length_take]; rfl)) ?_; (with_reducible refine (cmp_isNaN_int.calls a0 true _ A3.out).mono ?_); rintro e w' ⟨rfl, ⟨nd, rfl⟩⟩; refine ⟨_, rfl, ?_⟩) | ((with_reducible refine gate_callee (f := 33) rfl ?_); refine goesL_ (some 10) rfl rfl Try.func33 (by kernel_rfl) rfl #[.int .i64 a1] rfl (by (try simp only [List.map_toArray, List.map_cons, List.map_nil]); first | done | rfl | (simp only [List.length_drop, List.length_take]; rfl)) ?_; (with_reducible refine (cmp_isNaN_int.calls a1 true _ A4.out).mono ?_); rintro e w' ⟨rfl, ⟨nd, rfl⟩⟩; refine ⟨_, rfl, ?_⟩))
      go_ret
      exact ⟨by first | rfl | (simp; done) | (simp [*]; done) | (simp [*, Fig.bne_nil]; done), by repeat (first | exact Drawn0.refl _ | apply Drawn0.step)⟩
    · replace c6 := Bool.eq_false_iff.mpr c6
      subst c6
      have H1 : (some (-1)) = some r := by rw [if_neg (show ¬ (false = true) by decide)] at H; exact H
      clear H
      have H := H1
      clear H1
      obtain rfl := Option.some.inj H
      go_enter Try.func30, Try.ntmps30
      go_wp2_with (first | ((with_reducible refine gate_callee (f := 33) rfl ?_); refine goesL_ (some 8) rfl rfl Try.func33 (by kernel_rfl) rfl #[.int .i64 a0] rfl (by (try simp only [List.map_toArray, List.map_cons, List.map_nil]); first | done | rfl | (simp only [List.length_drop, List.length_take]; rfl)) ?_; (with_reducible refine (cmp_isNaN_int.calls a0 true _ A3.out).mono ?_); rintro e w' ⟨rfl, ⟨nd, rfl⟩⟩; refine ⟨_, rfl, ?_⟩) | ((with_reducible refine gate_callee (f := 33) rfl ?_); refine goesL_ (some 10) rfl rfl Try.func33 (by kernel_rfl) rfl #[.int .i64 a1] rfl (by (try simp only [List.map_toArray, List.map_cons, List.map_nil]); first | done | rfl | (simp only [List.length_drop, List.length_take]; rfl)) ?_; (with_reducible refine (cmp_isNaN_int.calls a1 false _ A4.out).mono ?_); rintro e w' ⟨rfl, ⟨nd, rfl⟩⟩; refine ⟨_, rfl, ?_⟩))
      go_ret
      exact ⟨by first | rfl | (simp; done) | (simp [*]; done) | (simp [*, Fig.bne_nil]; done), by repeat (first | exact Drawn0.refl _ | apply Drawn0.step)⟩
  · replace c5 := Bool.eq_false_iff.mpr c5
    subst c5
    have H1 : (if t107 = true then (some 1) else (if a0 < a1 then (some (-1)) else (if a0 > a1 then (some 1) else (some 0)))) = some r := by rw [if_neg (show ¬ (false = true) by decide)] at H; exact H
    clear H
    have H := H1
    clear H1
    by_cases c7 : t107 = true
    · subst c7
      have H1 : (some 1) = some r := by rw [if_pos rfl] at H; exact H
      clear H
      have H := H1
      clear H1
      obtain rfl := Option.some.inj H
      go_enter Try.func30, Try.ntmps30
      go_wp2_with (first | ((with_reducible refine gate_callee (f := 33) rfl ?_); refine goesL_ (some 8) rfl rfl Try.func33 (by kernel_rfl) rfl #[.int .i64 a0] rfl (by (try simp only [List.map_toArray, List.map_cons, List.map_nil]); first | done | rfl | (simp only [List.length_drop, List.length_take]; rfl)) ?_; (with_reducible refine (cmp_isNaN_int.calls a0 false _ A3.out).mono ?_); rintro e w' ⟨rfl, ⟨nd, rfl⟩⟩; refine ⟨_, rfl, ?_⟩) | ((with_reducible refine gate_callee (f := 33) rfl ?_); refine goesL_ (some 10) rfl rfl Try.func33 (by kernel_rfl) rfl #[.int .i64 a1] rfl (by (try simp only [List.map_toArray, List.map_cons, List.map_nil]); first | done | rfl | (simp only [List.length_drop, List.length_take]; rfl)) ?_; (with_reducible refine (cmp_isNaN_int.calls a1 true _ A4.out).mono ?_); rintro e w' ⟨rfl, ⟨nd, rfl⟩⟩; refine ⟨_, rfl, ?_⟩))
      go_ret
      exact ⟨by first | rfl | (simp; done) | (simp [*]; done) | (simp [*, Fig.bne_nil]; done), by repeat (first | exact Drawn0.refl _ | apply Drawn0.step)⟩
    · replace c7 := Bool.eq_false_iff.mpr c7
      subst c7
      have H1 : (if a0 < a1 then (some (-1)) else (if a0 > a1 then (some 1) else (some 0))) = some r := by rw [if_neg (show ¬ (false = true) by decide)] at H; exact H
      clear H
      have H := H1
      clear H1
      by_cases c8 : a0 < a1
      · rw [if_pos c8] at H
        have c8b0 : decide (a0 < a1) = true := decide_eq_true c8
        clear c8
        obtain rfl := Option.some.inj H
        go_enter Try.func30, Try.ntmps30
        go_wp2_with (first | ((with_reducible refine gate_callee (f := 33) rfl ?_); refine goesL_ (some 8) rfl rfl Try.func33 (by kernel_rfl) rfl #[.int .i64 a0] rfl (by (try simp only [List.map_toArray, List.map_cons, List.map_nil]); first | done | rfl | (simp only [List.length_drop, List.length_take]; rfl)) ?_; (with_reducible refine (cmp_isNaN_int.calls a0 false _ A3.out).mono ?_); rintro e w' ⟨rfl, ⟨nd, rfl⟩⟩; refine ⟨_, rfl, ?_⟩) | ((with_reducible refine gate_callee (f := 33) rfl ?_); refine goesL_ (some 10) rfl rfl Try.func33 (by kernel_rfl) rfl #[.int .i64 a1] rfl (by (try simp only [List.map_toArray, List.map_cons, List.map_nil]); first | done | rfl | (simp only [List.length_drop, List.length_take]; rfl)) ?_; (with_reducible refine (cmp_isNaN_int.calls a1 false _ A4.out).mono ?_); rintro e w' ⟨rfl, ⟨nd, rfl⟩⟩; refine ⟨_, rfl, ?_⟩))
        go_ret
        exact ⟨by first | rfl | (simp; done) | (simp [*]; done) | (simp [*, Fig.bne_nil]; done), by repeat (first | exact Drawn0.refl _ | apply Drawn0.step)⟩
      · rw [if_neg c8] at H
        have c8b0 : decide (a0 < a1) = false := decide_eq_false c8
        clear c8
        by_cases c9 : a0 > a1
        · rw [if_pos c9] at H
          have c9b0 : decide (a1 < a0) = true := decide_eq_true c9
          clear c9
          obtain rfl := Option.some.inj H
          go_enter Try.func30, Try.ntmps30
          go_wp2_with (first | ((with_reducible refine gate_callee (f := 33) rfl ?_); refine goesL_ (some 8) rfl rfl Try.func33 (by kernel_rfl) rfl #[.int .i64 a0] rfl (by (try simp only [List.map_toArray, List.map_cons, List.map_nil]); first | done | rfl | (simp only [List.length_drop, List.length_take]; rfl)) ?_; (with_reducible refine (cmp_isNaN_int.calls a0 false _ A3.out).mono ?_); rintro e w' ⟨rfl, ⟨nd, rfl⟩⟩; refine ⟨_, rfl, ?_⟩) | ((with_reducible refine gate_callee (f := 33) rfl ?_); refine goesL_ (some 10) rfl rfl Try.func33 (by kernel_rfl) rfl #[.int .i64 a1] rfl (by (try simp only [List.map_toArray, List.map_cons, List.map_nil]); first | done | rfl | (simp only [List.length_drop, List.length_take]; rfl)) ?_; (with_reducible refine (cmp_isNaN_int.calls a1 false _ A4.out).mono ?_); rintro e w' ⟨rfl, ⟨nd, rfl⟩⟩; refine ⟨_, rfl, ?_⟩))
          go_ret
          exact ⟨by first | rfl | (simp; done) | (simp [*]; done) | (simp [*, Fig.bne_nil]; done), by repeat (first | exact Drawn0.refl _ | apply Drawn0.step)⟩
        · rw [if_neg c9] at H
          have c9b0 : decide (a1 < a0) = false := decide_eq_false c9
          clear c9
          obtain rfl := Option.some.inj H
          go_enter Try.func30, Try.ntmps30
          go_wp2_with (first | ((with_reducible refine gate_callee (f := 33) rfl ?_); refine goesL_ (some 8) rfl rfl Try.func33 (by kernel_rfl) rfl #[.int .i64 a0] rfl (by (try simp only [List.map_toArray, List.map_cons, List.map_nil]); first | done | rfl | (simp only [List.length_drop, List.length_take]; rfl)) ?_; (with_reducible refine (cmp_isNaN_int.calls a0 false _ A3.out).mono ?_); rintro e w' ⟨rfl, ⟨nd, rfl⟩⟩; refine ⟨_, rfl, ?_⟩) | ((with_reducible refine gate_callee (f := 33) rfl ?_); refine goesL_ (some 10) rfl rfl Try.func33 (by kernel_rfl) rfl #[.int .i64 a1] rfl (by (try simp only [List.map_toArray, List.map_cons, List.map_nil]); first | done | rfl | (simp only [List.length_drop, List.length_take]; rfl)) ?_; (with_reducible refine (cmp_isNaN_int.calls a1 false _ A4.out).mono ?_); rintro e w' ⟨rfl, ⟨nd, rfl⟩⟩; refine ⟨_, rfl, ?_⟩))
          go_ret
          exact ⟨by first | rfl | (simp; done) | (simp [*]; done) | (simp [*, Fig.bne_nil]; done), by repeat (first | exact Drawn0.refl _ | apply Drawn0.step)⟩

end Go.Proofs.Ytnpibnjncjieaaa.Px

namespace Go.Proofs.Ytnpibnjncjieaaa.Px
open Fig Go.RowKit Go.Proofs.YtnpibnjncjieaaaW.PrintWords Go.Proofs.YtnpibnjncjieaaaW.PrintLast Go.Proofs.YtnpibnjncjieaaaW.PrintMore
attribute [local go_sem] max2_int min2_int max_two min_two max_three min_three max_four min_four   -- for this text's walks alone

/-! ### cmp_isNaN_uint32: function 34 -/
def cmp_isNaN_uint32.f (a0 : Int) : Option (Bool) := some (a0 != a0)
set_option maxHeartbeats 8000000 in
set_option maxRecDepth 100000 in
theorem cmp_isNaN_uint32.calls (a0 : Int) (r : Bool) (w : World) (h : cmp_isNaN_uint32.f a0 = some r) :
    Calls Try.prog 34 #[.int .u32 a0] w fun e w' => e = .returned (.bool r) ∧ Drawn0 w w' := by
  have H : (some (a0 != a0)) = some r := h
  clear h
  obtain rfl := Option.some.inj H
  go_enter Try.func34, Try.ntmps34
  go_wp2
  go_ret
  exact ⟨by first | rfl | (simp; done) | (simp [*]; done) | (simp [*, Fig.bne_nil]; done), by repeat (first | exact Drawn0.refl _ | apply Drawn0.step)⟩

end Go.Proofs.Ytnpibnjncjieaaa.Px

namespace Go.Proofs.Ytnpibnjncjieaaa.Px
open Fig Go.RowKit Go.Proofs.YtnpibnjncjieaaaW.PrintWords Go.Proofs.YtnpibnjncjieaaaW.PrintLast Go.Proofs.YtnpibnjncjieaaaW.PrintMore
attribute [local go_sem] max2_int min2_int max_two min_two max_three min_three max_four min_four   -- for this text's walks alone

/-! ### cmp_Compare_uint32: function 31 -/
def cmp_Compare_uint32.f (a0 : Int) (a1 : Int) : Option (Int) := (cmp_isNaN_uint32.f a0).bind fun t108 => ((cmp_isNaN_uint32.f a1).bind fun t109 => (if t108 = true then (if t109 = true then (some 0) else (some (-1))) else (if t109 = true then (some 1) else (if a0 < a1 then (some (-1)) else (if a0 > a1 then (some 1) else (some 0))))))
set_option maxHeartbeats 8000000 in
set_option maxRecDepth 100000 in
theorem cmp_Compare_uint32.calls (a0 : Int) (a1 : Int) (r : Int) (w : World) (h : cmp_Compare_uint32.f a0 a1 = some r) :
    Calls Try.prog 31 #[.int .u32 a0, .int .u32 a1] w fun e w' => e = .returned (.int .i64 r) ∧ Drawn0 w w' := by
  have H : ((cmp_isNaN_uint32.f a0).bind fun t108 => ((cmp_isNaN_uint32.f a1).bind fun t109 => (if t108 = true then (if t109 = true then (some 0) else (some (-1))) else (if t109 = true then (some 1) else (if a0 < a1 then (some (-1)) else (if a0 > a1 then (some 1) else (some 0))))))) = some r := h
  clear h
  replace H := Option.bind_eq_some_iff.mp H
  obtain ⟨t108, A30, H⟩ := H
  replace H : ((cmp_isNaN_uint32.f a1).bind fun t109 => (if t108 = true then (if t109 = true then (some 0) else (some (-1))) else (if t109 = true then (some 1) else (if a0 < a1 then (some (-1)) else (if a0 > a1 then (some 1) else (some 0)))))) = some r := H
  have A3 := Aside0.mk A30
  clear A30
  replace H := Option.bind_eq_some_iff.mp H
  obtain ⟨t109, A40, H⟩ := H
  replace H : (if t108 = true then (if t109 = true then (some 0) else (some (-1))) else (if t109 = true then (some 1) else (if a0 < a1 then (some (-1)) else (if a0 > a1 then (some 1) else (some 0))))) = some r := H
  have A4 := Aside0.mk A40
  clear A40
  by_cases c5 : t108 = true
  · subst c5
    have H1 : (if t109 = true then (some 0) else (some (-1))) = some r := by rw [if_pos rfl] at H; exact H
    clear H
    have H := H1
    clear H1
    by_cases c6 : t109 = true
    · subst c6
      have H1 : (some 0) = some r := by rw [if_pos rfl] at H; exact H
      clear H
      have H := H1
      clear H1
      obtain rfl := Option.some.inj H
      go_enter Try.func31, Try.ntmps31
      go_wp2_with (first | ((with_reducible refine gate_callee (f := 34) rfl ?_); refine goesL_ (some 8) rfl rfl Try.func34 (by kernel_rfl) rfl #[.int .u32 a0] rfl (by (try simp only [List.map_toArray, List.map_cons, List.map_nil]); first | done | rfl | (simp only [List.length_drop, List.length_take]; rfl)) ?_; (with_reducible refine (cmp_isNaN_uint32.calls a0 true _ A3.out).mono ?_); rintro e w' ⟨rfl, ⟨nd, rfl⟩⟩; refine ⟨_, rfl, ?_⟩) | ((with_reducible refine gate_callee (f := 34) rfl ?_); refine goesL_ (some 10) rfl rfl Try.func34 (by kernel_rfl) rfl #[.int .u32 a1] rfl (by (try simp only [List.map_toArray, List.map_cons, List.map_nil]); first | done | rfl | (simp only [List.length_drop, List.length_take]; rfl)) ?_; (with_reducible refine (cmp_isNaN_uint32.calls a1 true _ A4.out).mono ?_); rintro e w' ⟨rfl, ⟨nd, rfl⟩⟩; refine ⟨_, rfl, ?_⟩))
      go_ret
      exact ⟨by first | rfl | (simp; done) | (simp [*]; done) | (simp [*, Fig.bne_nil]; done), by repeat (first | exact Drawn0.refl _ | apply Drawn0.step)⟩
    · replace c6 := Bool.eq_false_iff.mpr c6
      subst c6
      have H1 : (some (-1)) = some r := by rw [if_neg (show ¬ (false = true) by decide)] at H; exact H
      clear H
      have H := H1
      clear H1
      obtain rfl := Option.some.inj H
      go_enter Try.func31, Try.ntmps31
      go_wp2_with (first | ((with_reducible refine gate_callee (f := 34) rfl ?_); refine goesL_ (some 8) rfl rfl Try.func34 (by kernel_rfl) rfl #[.int .u32 a0] rfl (by (try simp only [List.map_toArray, List.map_cons, List.map_nil]); first | done | rfl | (simp only [List.length_drop, List.length_take]; rfl)) ?_; (with_reducible refine (cmp_isNaN_uint32.calls a0 true _ A3.out).mono ?_); rintro e w' ⟨rfl, ⟨nd, rfl⟩⟩; refine ⟨_, rfl, ?_⟩) | ((with_reducible refine gate_callee (f := 34) rfl ?_); refine goesL_ (some 10) rfl rfl Try.func34 (by kernel_rfl) rfl #[.int .u32 a1] rfl (by (try simp only [List.map_toArray, List.map_cons, List.map_nil]); first | done | rfl | (simp only [List.length_drop, List.length_take]; rfl)) ?_; (with_reducible refine (cmp_isNaN_uint32.calls a1 false _ A4.out).mono ?_); rintro e w' ⟨rfl, ⟨nd, rfl⟩⟩; refine ⟨_, rfl, ?_⟩))
      go_ret
      exact ⟨by first | rfl | (simp; done) | (simp [*]; done) | (simp [*, Fig.bne_nil]; done), by repeat (first | exact Drawn0.refl _ | apply Drawn0.step)⟩
  · replace c5 := Bool.eq_false_iff.mpr c5
    subst c5
    have H1 : (if t109 = true then (some 1) else (if a0 < a1 then (some (-1)) else (if a0 > a1 then (some 1) else (some 0)))) = some r := by rw [if_neg (show ¬ (false = true) by decide)] at H; exact H
    clear H
    have H := H1
    clear H1
    by_cases c7 : t109 = true
    · subst c7
      have H1 : (some 1) = some r := by rw [if_pos rfl] at H; exact H
      clear H
      have H := H1
      clear H1
      obtain rfl := Option.some.inj H
      go_enter Try.func31, Try.ntmps31
      go_wp2_with (first | ((with_reducible refine gate_callee (f := 34) rfl ?_); refine goesL_ (some 8) rfl rfl Try.func34 (by kernel_rfl) rfl #[.int .u32 a0] rfl (by (try simp only [List.map_toArray, List.map_cons, List.map_nil]); first | done | rfl | (simp only [List.length_drop, List.length_take]; rfl)) ?_; (with_reducible refine (cmp_isNaN_uint32.calls a0 false _ A3.out).mono ?_); rintro e w' ⟨rfl, ⟨nd, rfl⟩⟩; refine ⟨_, rfl, ?_⟩) | ((with_reducible refine gate_callee (f := 34) rfl ?_); refine goesL_ (some 10) rfl rfl Try.func34 (by kernel_rfl) rfl #[.int .u32 a1] rfl (by (try simp only [List.map_toArray, List.map_cons, List.map_nil]); first | done | rfl | (simp only [List.length_drop, List.length_take]; rfl)) ?_; (with_reducible refine (cmp_isNaN_uint32.calls a1 true _ A4.out).mono ?_); rintro e w' ⟨rfl, ⟨nd, rfl⟩⟩; refine ⟨_, rfl, ?_⟩))
      go_ret
      exact ⟨by first | rfl | (simp; done) | (simp [*]; done) | (simp [*, Fig.bne_nil]; done), by repeat (first | exact Drawn0.refl _ | apply Drawn0.step)⟩
    · replace c7 := Bool.eq_false_iff.mpr c7
      subst c7
      have H1 : (if a0 < a1 then (some (-1)) else (if a0 > a1 then (some 1) else (some 0))) = some r := by rw [if_neg (show ¬ (false = true) by decide)] at H; exact H
      clear H
      have H := H1
      clear H1
      by_cases c8 : a0 < a1
      · rw [if_pos c8] at H
        have c8b0 : decide (a0 < a1) = true := decide_eq_true c8
        clear c8
        obtain rfl := Option.some.inj H
        go_enter Try.func31, Try.ntmps31
        go_wp2_with (first | ((with_reducible refine gate_callee (f := 34) rfl ?_); refine goesL_ (some 8) rfl rfl Try.func34 (by kernel_rfl) rfl #[.int .u32 a0] rfl (by (try simp only [List.map_toArray, List.map_cons, List.map_nil]); first | done | rfl | (simp only [List.length_drop, List.length_take]; rfl)) ?_; (with_reducible refine (cmp_isNaN_uint32.calls a0 false _ A3.out).mono ?_); rintro e w' ⟨rfl, ⟨nd, rfl⟩⟩; refine ⟨_, rfl, ?_⟩) | ((with_reducible refine gate_callee (f := 34) rfl ?_); refine goesL_ (some 10) rfl rfl Try.func34 (by kernel_rfl) rfl #[.int .u32 a1] rfl (by (try simp only [List.map_toArray, List.map_cons, List.map_nil]); first | done | rfl | (simp only [List.length_drop, List.length_take]; rfl)) ?_; (with_reducible refine (cmp_isNaN_uint32.calls a1 false _ A4.out).mono ?_); rintro e w' ⟨rfl, ⟨nd, rfl⟩⟩; refine ⟨_, rfl, ?_⟩))
        go_ret
        exact ⟨by first | rfl | (simp; done) | (simp [*]; done) | (simp [*, Fig.bne_nil]; done), by repeat (first | exact Drawn0.refl _ | apply Drawn0.step)⟩
      · rw [if_neg c8] at H
        have c8b0 : decide (a0 < a1) = false := decide_eq_false c8
        clear c8
        by_cases c9 : a0 > a1
        · rw [if_pos c9] at H
          have c9b0 : decide (a1 < a0) = true := decide_eq_true c9
          clear c9
          obtain rfl := Option.some.inj H
          go_enter Try.func31, Try.ntmps31
          go_wp2_with (first | ((with_reducible refine gate_callee (f := 34) rfl ?_); refine goesL_ (some 8) rfl rfl Try.func34 (by kernel_rfl) rfl #[.int .u32 a0] rfl (by (try simp only [List.map_toArray, List.map_cons, List.map_nil]); first | done | rfl | (simp only [List.length_drop, List.length_take]; rfl)) ?_; (with_reducible refine (cmp_isNaN_uint32.calls a0 false _ A3.out).mono ?_); rintro e w' ⟨rfl, ⟨nd, rfl⟩⟩; refine ⟨_, rfl, ?_⟩) | ((with_reducible refine gate_callee (f := 34) rfl ?_); refine goesL_ (some 10) rfl rfl Try.func34 (by kernel_rfl) rfl #[.int .u32 a1] rfl (by (try simp only [List.map_toArray, List.map_cons, List.map_nil]); first | done | rfl | (simp only [List.length_drop, List.length_take]; rfl)) ?_; (with_reducible refine (cmp_isNaN_uint32.calls a1 false _ A4.out).mono ?_); rintro e w' ⟨rfl, ⟨nd, rfl⟩⟩; refine ⟨_, rfl, ?_⟩))
          go_ret
          exact ⟨by first | rfl | (simp; done) | (simp [*]; done) | (simp [*, Fig.bne_nil]; done), by repeat (first | exact Drawn0.refl _ | apply Drawn0.step)⟩
        · rw [if_neg c9] at H
          have c9b0 : decide (a1 < a0) = false := decide_eq_false c9
          clear c9
          obtain rfl := Option.some.inj H
          go_enter Try.func31, Try.ntmps31
          go_wp2_with (first | ((with_reducible refine gate_callee (f := 34) rfl ?_); refine goesL_ (some 8) rfl rfl Try.func34 (by kernel_rfl) rfl #[.int .u32 a0] rfl (by (try simp only [List.map_toArray, List.map_cons, List.map_nil]); first | done | rfl | (simp only [List.length_drop, List.length_take]; rfl)) ?_; (with_reducible refine (cmp_isNaN_uint32.calls a0 false _ A3.out).mono ?_); rintro e w' ⟨rfl, ⟨nd, rfl⟩⟩; refine ⟨_, rfl, ?_⟩) | ((with_reducible refine gate_callee (f := 34) rfl ?_); refine goesL_ (some 10) rfl rfl Try.func34 (by kernel_rfl) rfl #[.int .u32 a1] rfl (by (try simp only [List.map_toArray, List.map_cons, List.map_nil]); first | done | rfl | (simp only [List.length_drop, List.length_take]; rfl)) ?_; (with_reducible refine (cmp_isNaN_uint32.calls a1 false _ A4.out).mono ?_); rintro e w' ⟨rfl, ⟨nd, rfl⟩⟩; refine ⟨_, rfl, ?_⟩))
          go_ret
          exact ⟨by first | rfl | (simp; done) | (simp [*]; done) | (simp [*, Fig.bne_nil]; done), by repeat (first | exact Drawn0.refl _ | apply Drawn0.step)⟩

end Go.Proofs.Ytnpibnjncjieaaa.Px

namespace Go.Proofs.Ytnpibnjncjieaaa.Px
open Fig Go.RowKit Go.Proofs.YtnpibnjncjieaaaW.PrintWords Go.Proofs.YtnpibnjncjieaaaW.PrintLast Go.Proofs.YtnpibnjncjieaaaW.PrintMore
attribute [local go_sem] max2_int min2_int max_two min_two max_three min_three max_four min_four   -- for this text's walks alone

/-! ### nat_Cmp: function 27 -/
theorem ret_num {k : IntKind} {a b : Int} (h : a = b) : Ending.returned (.int k a) = .returned (.int k b) := by rw [h]
theorem cmpi_eq (m n : Nat) : cmp_Compare_int.f (m : Int) (n : Int) = some (cmpN m n) := by
  unfold cmp_Compare_int.f cmp_isNaN_int.f cmpN
  simp only [Option.bind_some, bne_self_eq_false]
  repeat' split
  all_goals first | rfl | omega | simp_all
theorem cmpu_eq (m n : Nat) : cmp_Compare_uint32.f (m : Int) (n : Int) = some (cmpN m n) := by
  unfold cmp_Compare_uint32.f cmp_isNaN_uint32.f cmpN
  simp only [Option.bind_some, bne_self_eq_false]
  repeat' split
  all_goals first | rfl | omega | simp_all
def nat_Cmp.f (l0 : List Int) (l1 : List Int) : Option Int := cmpF l0 l1
set_option maxHeartbeats 1000000 in
theorem nat_Cmp.calls (A0 : Option Addr) (c0 : Nat) (l0 : List Int) (A1 : Option Addr) (c1 : Nat) (l1 : List Int) (r : Int) (w : World) (hr0 : Kd.C (Kd.int .u32) w A0 l0.length l0) (hc0 : l0.length ≤ c0) (hr1 : Kd.C (Kd.int .u32) w A1 l1.length l1) (hc1 : l1.length ≤ c1) (h : nat_Cmp.f l0 l1 = some r) :
    Calls Try.prog 27 #[.slice A0 l0.length c0, .slice A1 l1.length c1] w fun e w' => e = .returned (.int .i64 r) ∧ Drawn0 w w' := by
  unfold nat_Cmp.f cmpF at h
  by_cases hg : goodL l0 = true ∧ goodL l1 = true ∧ l0.length ≤ 1000000000000 ∧ l1.length ≤ 1000000000000
  · rw [if_pos hg] at h
    obtain rfl := Option.some.inj h
    obtain ⟨g0, g1, z0, z1⟩ := hg
    obtain ⟨k0, hk0⟩ := top_at (l := l0) (by omega)
    obtain ⟨k1, hk1⟩ := top_at (l := l1) (by omega)
    have ht0 := trimL_len l0
    have ht1 := trimL_len l1
    have hv0 := trimL_val l0
    have hv1 := trimL_val l1
    have hq0 := Fig.take_trim l0
    have hq1 := Fig.take_trim l1
    have hcl : (trimL l0).length ≠ (trimL l1).length → cmpN (valL l0) (valL l1) = cmpN (trimL l0).length (trimL l1).length := fun hne => by
      rw [← hv0, ← hv1]; exact cmp_len (trimL_good g0) (trimL_good g1) (trimL_canon l0) (trimL_canon l1) hne
    have hst : cmpN (valL l0) (valL l1) = cmpN (valL (l0.take (trimL l0).length)) (valL (l1.take (trimL l1).length)) := by rw [hq0, hq1, hv0, hv1]
    obtain ⟨n, hn⟩ : ∃ n, n = (trimL l0).length := ⟨_, rfl⟩
    obtain ⟨m, hm⟩ : ∃ m, m = (trimL l1).length := ⟨_, rfl⟩
    rw [← hn] at hk0 ht0 hcl hst
    rw [← hm] at hk1 ht1 hcl hst
    clear hn hm hq0 hq1 hv0 hv1 h
    obtain ⟨i0, hi0, _, hsz, _⟩ := info_parts info32
    obtain ⟨hcutA, _, hcA⟩ := print_take_of (P := Try.prog) (Value.int .u32) 0 22 32 .i64 Try.underlying22 hi0 hsz A0 c0 l0 (n : Int) (by omega) (by omega) hc0
    obtain ⟨hcutB, _, hcB⟩ := print_take_of (P := Try.prog) (Value.int .u32) 0 22 32 .i64 Try.underlying22 hi0 hsz A1 c1 l1 (m : Int) (by omega) (by omega) hc1
    rw [Int.toNat_natCast] at hcutA hcutB
    have Hk0 := Aside0.mk hk0
    have Hk1 := Aside0.mk hk1
    have HR0 := Aside0.mk hr0
    have HR1 := Aside0.mk hr1
    have HC0 := Aside0.mk hc0
    have HC1 := Aside0.mk hc1
    have Hcl := Aside0.mk hcl
    have Hst := Aside0.mk hst
    have G0 := Aside0.mk g0
    have G1 := Aside0.mk g1
    clear hk0 hk1 hr0 hr1 hc0 hc1 hcl hst g0 g1 hi0 hsz hcA hcB
    by_cases hnm : n = m
    · have e1 : ((n : Int) == (m : Int)) = true := by simp [hnm]
      have e2 : ((n : Int) != (m : Int)) = false := by simp [hnm]
      have e3 : (n == m) = true := by simp [hnm]
      have e4 : (n != m) = false := by simp [hnm]
      have Hnm := Aside0.mk hnm
      clear hnm
      go_enter Try.func27, Try.ntmps27
      go_wp2
      go_quiet (first | (go_at_call 26; (with_reducible refine (nat_top.calls k0 _ _ l0 (n : Int) _ ?side1 ?side2 Hk0.out).mono ?_); (case side1 => repeat (first | exact HR0.out | (with_reducible refine Kd.C_drewN ?_ _) | (with_reducible refine Kd.C_drew ?_))); (case side2 => exact HC0.out); rintro e w' ⟨rfl, ⟨nd, rfl⟩⟩; (first | exact ⟨rfl, _, World.drewN_drewN _ _ _⟩ | exact ⟨rfl, _, rfl⟩ | exact ⟨rfl, _, Eq.trans (World.drewN_drewN _ _ _) (congrArg (World.drewN _) (Nat.add_assoc _ _ _))⟩)) | (go_at_call 26; (with_reducible refine (nat_top.calls k1 _ _ l1 (m : Int) _ ?side1 ?side2 Hk1.out).mono ?_); (case side1 => repeat (first | exact HR1.out | (with_reducible refine Kd.C_drewN ?_ _) | (with_reducible refine Kd.C_drew ?_))); (case side2 => exact HC1.out); rintro e w' ⟨rfl, ⟨nd, rfl⟩⟩; (first | exact ⟨rfl, _, World.drewN_drewN _ _ _⟩ | exact ⟨rfl, _, rfl⟩ | exact ⟨rfl, _, Eq.trans (World.drewN_drewN _ _ _) (congrArg (World.drewN _) (Nat.add_assoc _ _ _))⟩)))
      go_wp2
      go_loopg [5] n (fun j v5 w' => ∃ x : Int, v5 = .int .i64 x ∧ Aside0 (x = (j : Int) - 1) ∧ Aside0 (j ≤ n) ∧ Aside0 (cmpN (valL l0) (valL l1) = cmpN (valL (l0.take j)) (valL (l1.take j))) ∧ Drawn0 w w')
      case atStart => exact ⟨(n : Int) - 1, rfl, ⟨rfl⟩, ⟨Nat.le_refl _⟩, ⟨by rw [Hst.out, ← Hnm.out]⟩, by repeat (first | exact Drawn0.refl _ | apply Drawn0.step)⟩
      case round =>
        obtain ⟨x, rfl, HX, HJ, HV, ⟨mm, rfl⟩⟩ := hrel
        cases gk with
        | zero =>
          have hx0 := HX.out
          have dx : decide (0 ≤ x) = false := decide_eq_false (by omega)
          clear hx0
          go_wp2
          go_ret
          exact ⟨ret_num (by rw [HV.out]; simp [valL, cmpN]), by repeat (first | exact Drawn0.refl _ | apply Drawn0.step)⟩
        | succ j =>
          have hx1 : 0 ≤ x := by have := HX.out; omega
          have hx2 : x < (n : Int) := by have := HX.out; have := HJ.out; omega
          have hx3 : x < (m : Int) := by have := Hnm.out; omega
          obtain ⟨ad0, ea0, hc0⟩ := Kd.at_int HR0.out x hx1 (by omega)
          obtain ⟨ad1, ea1, hc1⟩ := Kd.at_int HR1.out x hx1 (by omega)
          cases ea0
          cases ea1
          have dx : decide (0 ≤ x) = true := decide_eq_true hx1
          have xj : x = (j : Int) := by have := HX.out; omega
          have XJ := Aside0.mk xj
          have hj0 : j < l0.length := by omega
          have hj1 : j < l1.length := by omega
          have ht0 : rd l0 x = l0[j]'hj0 := by rw [xj]; exact rd_get hj0
          have ht1 : rd l1 x = l1[j]'hj1 := by rw [xj]; exact rd_get hj1
          have HT0 := Aside0.mk ht0
          have HT1 := Aside0.mk ht1
          have p0 := goodL_iff.1 G0.out _ (List.getElem_mem (l := l0) (n := j) hj0)
          have p1 := goodL_iff.1 G1.out _ (List.getElem_mem (l := l1) (n := j) hj1)
          have HP := Aside0.mk (And.intro p0 p1)
          have s0 := Fig.valL_take_succ (l := l0) (n := j) hj0
          have s1 := Fig.valL_take_succ (l := l1) (n := j) hj1
          have HS := Aside0.mk (And.intro s0 s1)
          clear xj ht0 ht1 p0 p1 s0 s1
          have px := eq_true hx1
          have q0 := eq_true hx2
          have q1 := eq_true hx3
          by_cases he : rd l0 x = rd l1 x
          · have b0 : (rd l0 x == rd l1 x) = true := by simpa using he
            have b1 : (rd l0 x != rd l1 x) = false := by simpa using he
            have HE := Aside0.mk he
            clear he
            go_wp2
            repeat (go_quiet (fail); go_wp2)
            go_roundg j
            case measure => omega
            case rel => exact ⟨x - 1, by first | rfl | simp | (simp [wrap64]; omega), ⟨by have := XJ.out; omega⟩, ⟨by have := HJ.out; omega⟩, ⟨by rw [HV.out, HS.out.1, HS.out.2]; have h1 := HT0.out; have h2 := HT1.out; have h3 := HE.out; rw [h1, h2] at h3; rw [h3]; exact (cmp_low _ _ _).symm⟩, by repeat (first | exact Drawn0.refl _ | apply Drawn0.step)⟩
          · have b0 : (rd l0 x == rd l1 x) = false := by simpa using he
            have b1 : (rd l0 x != rd l1 x) = true := by simpa using he
            have HV2 := Aside0.mk (show cmpN (rd l0 x).toNat (rd l1 x).toNat = cmpN (valL l0) (valL l1) by
              have h1 := HT0.out
              have h2 := HT1.out
              have h3 := HP.out
              rw [HV.out, HS.out.1, HS.out.2, h1, h2]
              rw [h1, h2] at he
              exact cmp_top _ _ _ _ _ (valL_take_lt G0.out j) (valL_take_lt G1.out j) (by omega))
            have HC2 := Aside0.mk (show cmp_Compare_uint32.f (rd l0 x) (rd l1 x) = some (cmpN (valL l0) (valL l1)) by
              have h1 := HT0.out
              have h2 := HT1.out
              have h3 := HP.out
              rw [← HV2.out]
              have := cmpu_eq (rd l0 x).toNat (rd l1 x).toNat
              rwa [Int.toNat_of_nonneg (by rw [h1]; exact h3.1.1), Int.toNat_of_nonneg (by rw [h2]; exact h3.2.1)] at this)
            clear he
            go_wp2
            repeat (go_quiet (first | (go_at_call 31; (with_reducible refine (cmp_Compare_uint32.calls (rd l0 x) (rd l1 x) _ _ HC2.out).mono ?_); rintro e w' ⟨rfl, ⟨nd, rfl⟩⟩; (first | exact ⟨rfl, _, World.drewN_drewN _ _ _⟩ | exact ⟨rfl, _, rfl⟩ | exact ⟨rfl, _, Eq.trans (World.drewN_drewN _ _ _) (congrArg (World.drewN _) (Nat.add_assoc _ _ _))⟩))); go_wp2)
            go_ret
            exact ⟨rfl, by repeat (first | exact Drawn0.refl _ | apply Drawn0.step)⟩
    · have e1 : ((n : Int) == (m : Int)) = false := by simp; omega
      have e2 : ((n : Int) != (m : Int)) = true := by simp; omega
      have e3 : (n == m) = false := by simpa using hnm
      have e4 : (n != m) = true := by simpa using hnm
      have HC2 := Aside0.mk (show cmp_Compare_int.f (n : Int) (m : Int) = some (cmpN (valL l0) (valL l1)) by rw [Hcl.out hnm]; exact cmpi_eq n m)
      clear hnm
      go_enter Try.func27, Try.ntmps27
      go_wp2
      go_quiet (first | (go_at_call 26; (with_reducible refine (nat_top.calls k0 _ _ l0 (n : Int) _ ?side1 ?side2 Hk0.out).mono ?_); (case side1 => repeat (first | exact HR0.out | (with_reducible refine Kd.C_drewN ?_ _) | (with_reducible refine Kd.C_drew ?_))); (case side2 => exact HC0.out); rintro e w' ⟨rfl, ⟨nd, rfl⟩⟩; (first | exact ⟨rfl, _, World.drewN_drewN _ _ _⟩ | exact ⟨rfl, _, rfl⟩ | exact ⟨rfl, _, Eq.trans (World.drewN_drewN _ _ _) (congrArg (World.drewN _) (Nat.add_assoc _ _ _))⟩)) | (go_at_call 26; (with_reducible refine (nat_top.calls k1 _ _ l1 (m : Int) _ ?side1 ?side2 Hk1.out).mono ?_); (case side1 => repeat (first | exact HR1.out | (with_reducible refine Kd.C_drewN ?_ _) | (with_reducible refine Kd.C_drew ?_))); (case side2 => exact HC1.out); rintro e w' ⟨rfl, ⟨nd, rfl⟩⟩; (first | exact ⟨rfl, _, World.drewN_drewN _ _ _⟩ | exact ⟨rfl, _, rfl⟩ | exact ⟨rfl, _, Eq.trans (World.drewN_drewN _ _ _) (congrArg (World.drewN _) (Nat.add_assoc _ _ _))⟩)))
      go_wp2_with (go_at_call 30; (with_reducible refine (cmp_Compare_int.calls (n : Int) (m : Int) _ _ HC2.out).mono ?_); rintro e w' ⟨rfl, ⟨nd, rfl⟩⟩)
      go_ret
      exact ⟨rfl, by repeat (first | exact Drawn0.refl _ | apply Drawn0.step)⟩
  · rw [if_neg hg] at h; cases h

end Go.Proofs.Ytnpibnjncjieaaa.Px

namespace Go.Proofs.Ytnpibnjncjieaaa.Px
open Fig Go.RowKit Go.Proofs.YtnpibnjncjieaaaW.PrintWords Go.Proofs.YtnpibnjncjieaaaW.PrintLast Go.Proofs.YtnpibnjncjieaaaW.PrintMore
attribute [local go_sem] max2_int min2_int max_two min_two max_three min_three max_four min_four   -- for this text's walks alone

/-! ### mul_row: function 32 -/
mutual
def mul_row.l0 : Nat → List Int → List Int → Int → Int → Int → List Int → Int → Int → Option (List Int)
  | 0, _, _, _, _, _, _, _, _ => none
  | k + 1, x0, x1, x2, x3, x8, x14, x15, x16 => if x16 < x15 then (if 0 ≤ x16 then (if x16 < (x14.length : Int) then (if 0 ≤ (wrap64 (x3 + x16)) then (if (wrap64 (x3 + x16)) < (x0.length : Int) then (mul_row.l0 k (x0.set ((wrap64 (x3 + x16)) : Int).toNat ((Int.tmod (IntKind.u64.wrap ((IntKind.u64.wrap ((IntKind.u64.wrap (rd x0 (wrap64 (x3 + x16)))) + (IntKind.u64.wrap ((IntKind.u64.wrap (rd x14 x16)) * (IntKind.u64.wrap (x2)))))) + x8)) 1000000000) % 4294967296)) x1 x2 x3 (IntKind.u64.wrap (Int.tdiv (IntKind.u64.wrap ((IntKind.u64.wrap ((IntKind.u64.wrap (rd x0 (wrap64 (x3 + x16)))) + (IntKind.u64.wrap ((IntKind.u64.wrap (rd x14 x16)) * (IntKind.u64.wrap (x2)))))) + x8)) 1000000000)) x14 x15 (wrap64 (x16 + 1))) else (none)) else (none)) else (none)) else (none)) else (mul_row.l1 k x0 x8 (wrap64 (x3 + (x1.length : Int))))
def mul_row.l1 : Nat → List Int → Int → Int → Option (List Int)
  | 0, _, _, _ => none
  | k + 1, x0, x8, x12 => if x8 > 0 then (if 0 ≤ x12 then (if x12 < (x0.length : Int) then (mul_row.l1 k (x0.set (x12 : Int).toNat ((Int.tmod (IntKind.u64.wrap ((IntKind.u64.wrap (rd x0 x12)) + x8)) 1000000000) % 4294967296)) (IntKind.u64.wrap (Int.tdiv (IntKind.u64.wrap ((IntKind.u64.wrap (rd x0 x12)) + x8)) 1000000000)) (wrap64 (x12 + 1))) else (none)) else (none)) else (some x0)
end
def mul_row.f (k : Nat) (l0 : List Int) (l1 : List Int) (a2 : Int) (a3 : Int) : Option (List Int) := mul_row.l0 k l0 l1 a2 a3 0 l1 (l1.length : Int) 0
theorem mul_row.mono_l : ∀ k, (∀ y0 y1 y2 y3 y4 y5 y6 y7, LeO (mul_row.l0 k y0 y1 y2 y3 y4 y5 y6 y7) (mul_row.l0 (k + 1) y0 y1 y2 y3 y4 y5 y6 y7)) ∧ (∀ y0 y1 y2, LeO (mul_row.l1 k y0 y1 y2) (mul_row.l1 (k + 1) y0 y1 y2))
  | 0 => ⟨fun _ _ _ _ _ _ _ _ r h => by simp [mul_row.l0] at h, fun _ _ _ r h => by simp [mul_row.l1] at h⟩
  | k + 1 => by
    obtain ⟨ih0, ih1⟩ := mul_row.mono_l k
    refine ⟨?_, ?_⟩
    · intro y0 y1 y2 y3 y4 y5 y6 y7
      unfold mul_row.l0
      repeat' first
      | (with_reducible exact ih0 _ _ _ _ _ _ _ _)
      | (with_reducible exact ih1 _ _ _)
      | (with_reducible exact LeO.refl _)
      | (with_reducible exact LeO.none _)
      | (with_reducible refine LeO.ite ?_ ?_)
      | (with_reducible refine LeO.bind ?_ (fun _ => ?_))
      | exact ih0 _ _ _ _ _ _ _ _
      | exact ih1 _ _ _
      | exact LeO.none _
      | refine LeO.ite ?_ ?_
      | refine LeO.bind ?_ (fun _ => ?_)
    · intro y0 y1 y2
      unfold mul_row.l1
      repeat' first
      | (with_reducible exact ih0 _ _ _ _ _ _ _ _)
      | (with_reducible exact ih1 _ _ _)
      | (with_reducible exact LeO.refl _)
      | (with_reducible exact LeO.none _)
      | (with_reducible refine LeO.ite ?_ ?_)
      | (with_reducible refine LeO.bind ?_ (fun _ => ?_))
      | exact ih0 _ _ _ _ _ _ _ _
      | exact ih1 _ _ _
      | exact LeO.none _
      | refine LeO.ite ?_ ?_
      | refine LeO.bind ?_ (fun _ => ?_)
theorem mul_row.mono : ∀ a0 a1 a2 a3 k, LeO (mul_row.f k a0 a1 a2 a3) (mul_row.f (k + 1) a0 a1 a2 a3) := by
  intro a0 a1 a2 a3 k
  obtain ⟨ih0, ih1⟩ := mul_row.mono_l k
  unfold mul_row.f
  repeat' first
      | (with_reducible exact ih0 _ _ _ _ _ _ _ _)
      | (with_reducible exact ih1 _ _ _)
      | (with_reducible exact LeO.refl _)
      | (with_reducible exact LeO.none _)
      | (with_reducible refine LeO.ite ?_ ?_)
      | (with_reducible refine LeO.bind ?_ (fun _ => ?_))
      | exact ih0 _ _ _ _ _ _ _ _
      | exact ih1 _ _ _
      | exact LeO.none _
      | refine LeO.ite ?_ ?_
      | refine LeO.bind ?_ (fun _ => ?_)
set_option maxHeartbeats 8000000 in
set_option maxRecDepth 100000 in
theorem mul_row.calls (k : Nat) (P0_ : Nat → Prop) (u9000_ : Value) (l0 : List Int) (A1 : Option Addr) (c1 : Nat) (l1 : List Int) (a2 : Int) (a3 : Int) (r : List Int) (w0 w : World) (hB : Below w0.heap.size w0 w) (ho0 : Kd.R (Kd.int .u32) 32 w w0.heap.size P0_ u9000_ l0) (hr1 : ∀ W_, Kept w W_ (fun k_ => P0_ k_) → Kd.C (Kd.int .u32) W_ A1 l1.length l1) (hc1 : l1.length ≤ c1) (h : mul_row.f k l0 l1 a2 a3 = some r) :
    Calls Try.prog 32 #[u9000_, .slice A1 l1.length c1, .int .u32 a2, .int .i64 a3] w fun e w' => e = .returned (.tuple #[]) ∧ Kd.R (Kd.int .u32) 32 w' w0.heap.size (fun k_ => (P0_ k_ ∨ w.heap.size ≤ k_)) u9000_ r ∧ Below w0.heap.size w0 w' ∧ Kept w w' (fun k_ => P0_ k_) := by
  have HO0 := Aside0.mk (show Kd.R (Kd.int .u32) 32 w w0.heap.size (fun k_ => (P0_ k_ ∨ w.heap.size ≤ k_)) u9000_ l0 from Kd.R_mono ho0 (fun k_ hk => (.inl hk)))
  have HR1 := Aside0.mk hr1
  have HC1 := Aside0.mk hc1
  clear hr1 hc1
  have HK := Aside0.mk (Kept.refl w (fun k_ => P0_ k_))
  have HW0 := Aside0.mk hB.size
  have HB := Aside0.mk hB
  clear hB
  have H : (mul_row.l0 k l0 l1 a2 a3 0 l1 (l1.length : Int) 0) = some r := h
  clear h
  have H' := Aside0.mk H
  clear H
  go_enter Try.func32, Try.ntmps32
  go_wp2
  go_loopg [8, 16] k (fun kq v8 v16 w' => ∃ (x0_1 : List Int) (x8_1 : Int) (x16_1 : Int), v8 = .int .u64 x8_1 ∧ v16 = .int .i64 x16_1 ∧ Aside0 (mul_row.l0 kq x0_1 l1 a2 a3 x8_1 l1 (l1.length : Int) x16_1 = some r) ∧ Aside0 (kq ≤ k) ∧ Aside0 (Kd.R (Kd.int .u32) 32 w' w0.heap.size (fun k_ => (P0_ k_ ∨ w.heap.size ≤ k_)) u9000_ x0_1) ∧ Aside0 (Kept w w' (fun k_ => P0_ k_)) ∧ Aside0 (Below w0.heap.size w0 w'))
  case atStart => exact ⟨(l0), (0), (0), (by first | rfl | (simp; done) | (simp [*]; done) | (simp [*, Fig.bne_nil]; done)), (by first | rfl | (simp; done) | (simp [*]; done) | (simp [*, Fig.bne_nil]; done)), H', ⟨Nat.le_refl _⟩, ⟨by (with_reducible repeat (first | apply Kd.R_alloc | apply Kd.R_drewN | apply Kd.R_drew)); exact HO0.out⟩, ⟨by repeat (first | (with_reducible first | exact HK.out | apply Kept.alloc | apply Kept.drewN | apply Kept.drew) | exact HK.out)⟩, ⟨by repeat (first | (with_reducible first | exact HB.out | apply below_alloc | apply pw_below_drewN | apply below_drew1) | exact HB.out)⟩⟩
  case round =>
    clear H'
    try clear c1
    try clear p2
    try clear c3
    obtain ⟨x0_1, x8_1, x16_1, rfl, rfl, HA, HK1, HO_0, HK, HB⟩ := hrel
    cases gk with
    | zero => exact absurd HA.out (by simp [mul_row.l0])
    | succ k1 =>
      have H := HA.out
      clear HA
      simp only [mul_row.l0] at H
      by_cases c5 : x16_1 < (l1.length : Int)
      · rw [if_pos c5] at H
        have c5b0 : decide (x16_1 < (l1.length : Int)) = true := decide_eq_true c5
        clear c5
        by_cases c6 : 0 ≤ x16_1
        · rw [if_pos c6] at H
          have c6b0 : decide (0 ≤ x16_1) = true := decide_eq_true c6
          clear c6
          by_cases c7 : x16_1 < (l1.length : Int)
          · rw [if_pos c7] at H
            have c7b0 : decide (x16_1 < (l1.length : Int)) = true := decide_eq_true c7
            clear c7
            obtain ⟨ji8, hji8⟩ : ∃ j_ : Int, (wrap64 (a3 + x16_1)) = j_ := ⟨_, rfl⟩
            replace H : (if 0 ≤ (ji8) then (if (ji8) < (x0_1.length : Int) then (mul_row.l0 k1 (x0_1.set ((ji8) : Int).toNat ((Int.tmod (IntKind.u64.wrap ((IntKind.u64.wrap ((IntKind.u64.wrap (rd x0_1 (ji8))) + (IntKind.u64.wrap ((IntKind.u64.wrap (rd l1 x16_1)) * (IntKind.u64.wrap (a2)))))) + x8_1)) 1000000000) % 4294967296)) l1 a2 a3 (IntKind.u64.wrap (Int.tdiv (IntKind.u64.wrap ((IntKind.u64.wrap ((IntKind.u64.wrap (rd x0_1 (ji8))) + (IntKind.u64.wrap ((IntKind.u64.wrap (rd l1 x16_1)) * (IntKind.u64.wrap (a2)))))) + x8_1)) 1000000000)) l1 (l1.length : Int) (wrap64 (x16_1 + 1))) else (none)) else (none)) = some r := by first | (rw [hji8] at H; exact H) | (simp only [hji8] at H ⊢; exact H)
            have hji8w : (IntKind.i64.wrap (a3 + x16_1)) = ji8 := (i64_w _).trans hji8
            by_cases c9 : 0 ≤ (ji8)
            · rw [if_pos c9] at H
              have c9b0 : decide (0 ≤ (ji8)) = true := decide_eq_true c9
              clear c9
              by_cases c10 : (ji8) < (x0_1.length : Int)
              · rw [if_pos c10] at H
                have c10b0 : decide ((ji8) < (x0_1.length : Int)) = true := decide_eq_true c10
                clear c10
                obtain ⟨y112, hy112⟩ : ∃ y_ : List Int, y_ = (x0_1.set ((ji8) : Int).toNat ((Int.tmod (IntKind.u64.wrap ((IntKind.u64.wrap ((IntKind.u64.wrap (rd x0_1 (ji8))) + (IntKind.u64.wrap ((IntKind.u64.wrap (rd l1 x16_1)) * (IntKind.u64.wrap (a2)))))) + x8_1)) 1000000000) % 4294967296)) := ⟨_, rfl⟩
                replace H : (mul_row.l0 k1 y112 l1 a2 a3 (IntKind.u64.wrap (Int.tdiv (IntKind.u64.wrap ((IntKind.u64.wrap ((IntKind.u64.wrap (rd x0_1 (ji8))) + (IntKind.u64.wrap ((IntKind.u64.wrap (rd l1 x16_1)) * (IntKind.u64.wrap (a2)))))) + x8_1)) 1000000000)) l1 (l1.length : Int) (wrap64 (x16_1 + 1))) = some r := by first | (rw [hy112]; with_reducible exact H) | (have H2_ := (Option.bind_some _ _).symm.trans H; rw [hy112]; with_reducible exact H2_) | (have H2_ := (Option.bind_some _ _).symm.trans H; with_reducible exact H2_) | with_reducible exact H | (rw [hy112]; exact H) | exact H
                have Ny112 := Aside0.mk hy112
                clear hy112
                have H' := Aside0.mk H
                clear H
                have p110 : 0 ≤ (x16_1 : Int) := of_decide_eq_true (by first | (with_reducible assumption) | assumption)
                have q110 : x16_1 < (l1.length : Int) := of_decide_eq_true (by first | (with_reducible assumption) | assumption)
                obtain ⟨ad110, e110, hx110_0⟩ := Kd.at_int (Kd.C_kept_now HR1.out HK.out) x16_1 p110 q110
                cases e110
                replace p110 := eq_true p110
                replace q110 := eq_true q110
                obtain ⟨Ao12, co12, eo12⟩ := Kd.R_slice HO_0.out
                subst eo12
                have p111 : 0 ≤ ((ji8) : Int) := of_decide_eq_true (by first | (with_reducible assumption) | assumption)
                have q111 : (ji8) < (x0_1.length : Int) := of_decide_eq_true (by first | (with_reducible assumption) | assumption)
                obtain ⟨ad111, e111, hx111_0⟩ := Kd.at_int (Kd.R_reads' HO_0.out).2.2 (ji8) p111 q111
                cases e111
                replace p111 := eq_true p111
                replace q111 := eq_true q111
                have p11 : 0 ≤ ((ji8) : Int) := of_decide_eq_true (by first | (with_reducible assumption) | assumption)
                have q11 : ((ji8) : Int) < ((x0_1.length : Int) : Int) := of_decide_eq_true (by first | (with_reducible assumption) | assumption)
                obtain ⟨go11, co11, eo11, gb11, gl11, cl11, HG11⟩ := Kd.R_form HO_0.out (by omega)
                (first | cases eo11 | (injection eo11 with ea_ en_ ec_; (first | subst ea_ | (injection ea_ with ea_; subst ea_)); subst ec_; clear en_))
                have GB11 := Aside0.mk gb11
                have GG11 := Aside0.mk HG11
                clear gb11 gl11 HG11
                have HMgo11 := Aside0.mk (show (P0_ go11 ∨ w.heap.size ≤ go11) from (HO_0.out.1 _ rfl))
                (first | simp only [add_plain] at hx111_0 | skip)
                obtain ⟨hx11_0, hf11_0⟩ := Kd.R_celln 0 HO_0.out ((ji8) : Int) p11 q11
                replace p11 := eq_true p11
                replace q11 := eq_true q11
                have HP13 := Kd.R_putg HO_0.out ((ji8) : Int) ((Int.tmod (IntKind.u64.wrap ((IntKind.u64.wrap ((IntKind.u64.wrap (rd x0_1 (ji8))) + (IntKind.u64.wrap ((IntKind.u64.wrap (rd l1 x16_1)) * (IntKind.u64.wrap (a2)))))) + x8_1)) 1000000000) % 4294967296)
                go_wp2_with (first | ((with_reducible refine gate_store (t := 32) (p := 43) rfl ?_); refine store_event (t := 32) (p := 43) (v := ?vo_w14) (w1 := (wr.setCell ⟨go11, ((ji8) : Int).toNat, none⟩ (.int .u32 ((Int.tmod (IntKind.u64.wrap ((IntKind.u64.wrap ((IntKind.u64.wrap (rd x0_1 (ji8))) + (IntKind.u64.wrap ((IntKind.u64.wrap (rd l1 x16_1)) * (IntKind.u64.wrap (a2)))))) + x8_1)) 1000000000) % 4294967296)))) ?hg ?ho ?hn ?hr ?_; (case ho => rfl); (case hg => rfl); (case hn => rfl); (case hr => first | (go_simp; done) | (go_simp; rfl)); intro w14 hw; have hg : wr.grownBy w14 (some go11) := (by rw [hw]; exact HP13.2); have hp_ : Kd.R (Kd.int .u32) 32 w14 w0.heap.size (fun k_ => (P0_ k_ ∨ w.heap.size ≤ k_)) (.slice (some ⟨go11, 0, none⟩) x0_1.length co12) y112 := (by rw [hw, Ny112.out]; exact HP13.1); clear HP13; have n0_ := Aside0.mk (hp_); have n1_ := Aside0.mk ((by rw [hw]; exact below_set (HB.out) GB11.out : Below w0.heap.size w0 w14)); have n2_ := Aside0.mk (Kept.of_grown (S := (fun k_ => P0_ k_)) hg (by repeat (first | (with_reducible first | exact HK.out | apply Kept.alloc | apply Kept.drewN | apply Kept.drew) | exact HK.out)) (fun k_ e_ => (HO_0.out.1 k_ e_))); clear HO_0; clear HB; clear HK; have HO_0 := n0_; have HB := n1_; have HK := n2_; clear n0_ n1_ n2_; clear hg hw hp_))
                go_roundg k1
                case measure => have := HK1.out; omega
                case rel => exact ⟨(y112), (IntKind.u64.wrap (Int.tdiv (IntKind.u64.wrap ((IntKind.u64.wrap ((IntKind.u64.wrap (rd x0_1 (ji8))) + (IntKind.u64.wrap ((IntKind.u64.wrap (rd l1 x16_1)) * (IntKind.u64.wrap (a2)))))) + x8_1)) 1000000000)), (wrap64 (x16_1 + 1)), (by first | rfl | (simp; done) | (simp only [← hji8] <;> (first | rfl | simp)) | (simp [*]; done) | (simp [*, Fig.bne_nil]; done)), (by first | rfl | (simp; done) | (simp [*]; done) | (simp [*, Fig.bne_nil]; done)), H', ⟨by have := HK1.out; omega⟩, ⟨by (with_reducible repeat (first | apply Kd.R_alloc | apply Kd.R_drewN | apply Kd.R_drew)); exact HO_0.out⟩, ⟨by repeat (first | (with_reducible first | exact HK.out | apply Kept.alloc | apply Kept.drewN | apply Kept.drew) | exact HK.out)⟩, ⟨by repeat (first | (with_reducible first | exact HB.out | apply below_alloc | apply pw_below_drewN | apply below_drew1) | exact HB.out)⟩⟩
              · rw [if_neg c10] at H
                exact absurd H (by simp)
            · rw [if_neg c9] at H
              exact absurd H (by simp)
          · rw [if_neg c7] at H
            exact absurd H (by simp)
        · rw [if_neg c6] at H
          exact absurd H (by simp)
      · rw [if_neg c5] at H
        have c5b0 : decide (x16_1 < (l1.length : Int)) = false := decide_eq_false c5
        clear c5
        have H' := Aside0.mk H
        clear H
        go_wp2
        go_loopg [8, 12] k1 (fun kq v8 v12 w' => ∃ (x0_2 : List Int) (x8_2 : Int) (x12_2 : Int), v8 = .int .u64 x8_2 ∧ v12 = .int .i64 x12_2 ∧ Aside0 (mul_row.l1 kq x0_2 x8_2 x12_2 = some r) ∧ Aside0 (kq ≤ k1) ∧ Aside0 (Kd.R (Kd.int .u32) 32 w' w0.heap.size (fun k_ => (P0_ k_ ∨ w.heap.size ≤ k_)) u9000_ x0_2) ∧ Aside0 (Kept w w' (fun k_ => P0_ k_)) ∧ Aside0 (Below w0.heap.size w0 w'))
        case atStart => exact ⟨(x0_1), (x8_1), (wrap64 (a3 + (l1.length : Int))), (by first | rfl | (simp; done) | (simp [*]; done) | (simp [*, Fig.bne_nil]; done)), (by first | rfl | (simp; done) | (simp [*]; done) | (simp [*, Fig.bne_nil]; done)), H', ⟨Nat.le_refl _⟩, ⟨by (with_reducible repeat (first | apply Kd.R_alloc | apply Kd.R_drewN | apply Kd.R_drew)); exact HO_0.out⟩, ⟨by repeat (first | (with_reducible first | exact HK.out | apply Kept.alloc | apply Kept.drewN | apply Kept.drew) | exact HK.out)⟩, ⟨by repeat (first | (with_reducible first | exact HB.out | apply below_alloc | apply pw_below_drewN | apply below_drew1) | exact HB.out)⟩⟩
        case round =>
          clear H'
          try clear c1
          try clear p1
          try clear q1
          try clear hx1
          try clear p2
          try clear c3
          try clear c5
          try clear c5b0
          try clear c6
          try clear c6b0
          try clear p6
          try clear c7
          try clear c7b0
          try clear c9
          try clear c9b0
          try clear c10
          try clear c10b0
          try clear p11
          try clear q11
          try clear hx11
          try clear hf11
          try clear hx110_0
          try clear hx111_0
          try clear hx11_0
          try clear p11
          try clear p110
          try clear p111
          try clear p2
          try clear q11
          try clear q110
          try clear q111
          obtain ⟨x0_2, x8_2, x12_2, rfl, rfl, HA, HK2, HO_0, HK, HB⟩ := hrel
          cases gk with
          | zero => exact absurd HA.out (by simp [mul_row.l1])
          | succ k2 =>
            have H := HA.out
            clear HA
            simp only [mul_row.l1] at H
            by_cases c15 : x8_2 > 0
            · rw [if_pos c15] at H
              have c15b0 : decide (0 < x8_2) = true := decide_eq_true c15
              clear c15
              by_cases c16 : 0 ≤ x12_2
              · rw [if_pos c16] at H
                have c16b0 : decide (0 ≤ x12_2) = true := decide_eq_true c16
                clear c16
                by_cases c17 : x12_2 < (x0_2.length : Int)
                · rw [if_pos c17] at H
                  have c17b0 : decide (x12_2 < (x0_2.length : Int)) = true := decide_eq_true c17
                  clear c17
                  obtain ⟨y114, hy114⟩ : ∃ y_ : List Int, y_ = (x0_2.set (x12_2 : Int).toNat ((Int.tmod (IntKind.u64.wrap ((IntKind.u64.wrap (rd x0_2 x12_2)) + x8_2)) 1000000000) % 4294967296)) := ⟨_, rfl⟩
                  replace H : (mul_row.l1 k2 y114 (IntKind.u64.wrap (Int.tdiv (IntKind.u64.wrap ((IntKind.u64.wrap (rd x0_2 x12_2)) + x8_2)) 1000000000)) (wrap64 (x12_2 + 1))) = some r := by first | (rw [hy114]; with_reducible exact H) | (have H2_ := (Option.bind_some _ _).symm.trans H; rw [hy114]; with_reducible exact H2_) | (have H2_ := (Option.bind_some _ _).symm.trans H; with_reducible exact H2_) | with_reducible exact H | (rw [hy114]; exact H) | exact H
                  have Ny114 := Aside0.mk hy114
                  clear hy114
                  have H' := Aside0.mk H
                  clear H
                  obtain ⟨Ao19, co19, eo19⟩ := Kd.R_slice HO_0.out
                  subst eo19
                  have p113 : 0 ≤ (x12_2 : Int) := of_decide_eq_true (by first | (with_reducible assumption) | assumption)
                  have q113 : x12_2 < (x0_2.length : Int) := of_decide_eq_true (by first | (with_reducible assumption) | assumption)
                  obtain ⟨ad113, e113, hx113_0⟩ := Kd.at_int (Kd.R_reads' HO_0.out).2.2 x12_2 p113 q113
                  cases e113
                  replace p113 := eq_true p113
                  replace q113 := eq_true q113
                  have p18 : 0 ≤ (x12_2 : Int) := of_decide_eq_true (by first | (with_reducible assumption) | assumption)
                  have q18 : (x12_2 : Int) < ((x0_2.length : Int) : Int) := of_decide_eq_true (by first | (with_reducible assumption) | assumption)
                  obtain ⟨go18, co18, eo18, gb18, gl18, cl18, HG18⟩ := Kd.R_form HO_0.out (by omega)
                  (first | cases eo18 | (injection eo18 with ea_ en_ ec_; (first | subst ea_ | (injection ea_ with ea_; subst ea_)); subst ec_; clear en_))
                  have GB18 := Aside0.mk gb18
                  have GG18 := Aside0.mk HG18
                  clear gb18 gl18 HG18
                  have HMgo18 := Aside0.mk (show (P0_ go18 ∨ w.heap.size ≤ go18) from (HO_0.out.1 _ rfl))
                  (first | simp only [add_plain] at hx113_0 | skip)
                  obtain ⟨hx18_0, hf18_0⟩ := Kd.R_celln 0 HO_0.out (x12_2 : Int) p18 q18
                  replace p18 := eq_true p18
                  replace q18 := eq_true q18
                  have HP20 := Kd.R_putg HO_0.out (x12_2 : Int) ((Int.tmod (IntKind.u64.wrap ((IntKind.u64.wrap (rd x0_2 x12_2)) + x8_2)) 1000000000) % 4294967296)
                  go_wp2_with (first | ((with_reducible refine gate_store (t := 32) (p := 67) rfl ?_); refine store_event (t := 32) (p := 67) (v := ?vo_w21) (w1 := (wr.setCell ⟨go18, (x12_2 : Int).toNat, none⟩ (.int .u32 ((Int.tmod (IntKind.u64.wrap ((IntKind.u64.wrap (rd x0_2 x12_2)) + x8_2)) 1000000000) % 4294967296)))) ?hg ?ho ?hn ?hr ?_; (case ho => rfl); (case hg => rfl); (case hn => rfl); (case hr => first | (go_simp; done) | (go_simp; rfl)); intro w21 hw; have hg : wr.grownBy w21 (some go18) := (by rw [hw]; exact HP20.2); have hp_ : Kd.R (Kd.int .u32) 32 w21 w0.heap.size (fun k_ => (P0_ k_ ∨ w.heap.size ≤ k_)) (.slice (some ⟨go18, 0, none⟩) x0_2.length co19) y114 := (by rw [hw, Ny114.out]; exact HP20.1); clear HP20; have n0_ := Aside0.mk (hp_); have n1_ := Aside0.mk ((by rw [hw]; exact below_set (HB.out) GB18.out : Below w0.heap.size w0 w21)); have n2_ := Aside0.mk (Kept.of_grown (S := (fun k_ => P0_ k_)) hg (by repeat (first | (with_reducible first | exact HK.out | apply Kept.alloc | apply Kept.drewN | apply Kept.drew) | exact HK.out)) (fun k_ e_ => (HO_0.out.1 k_ e_))); clear HO_0; clear HB; clear HK; have HO_0 := n0_; have HB := n1_; have HK := n2_; clear n0_ n1_ n2_; clear hg hw hp_))
                  go_roundg k2
                  case measure => have := HK1.out; have := HK2.out; omega
                  case rel => exact ⟨(y114), (IntKind.u64.wrap (Int.tdiv (IntKind.u64.wrap ((IntKind.u64.wrap (rd x0_2 x12_2)) + x8_2)) 1000000000)), (wrap64 (x12_2 + 1)), (by first | rfl | (simp; done) | (simp [*]; done) | (simp [*, Fig.bne_nil]; done)), (by first | rfl | (simp; done) | (simp [*]; done) | (simp [*, Fig.bne_nil]; done)), H', ⟨by have := HK1.out; have := HK2.out; omega⟩, ⟨by (with_reducible repeat (first | apply Kd.R_alloc | apply Kd.R_drewN | apply Kd.R_drew)); exact HO_0.out⟩, ⟨by repeat (first | (with_reducible first | exact HK.out | apply Kept.alloc | apply Kept.drewN | apply Kept.drew) | exact HK.out)⟩, ⟨by repeat (first | (with_reducible first | exact HB.out | apply below_alloc | apply pw_below_drewN | apply below_drew1) | exact HB.out)⟩⟩
                · rw [if_neg c17] at H
                  exact absurd H (by simp)
              · rw [if_neg c16] at H
                exact absurd H (by simp)
            · rw [if_neg c15] at H
              have c15b0 : decide (0 < x8_2) = false := decide_eq_false c15
              clear c15
              obtain rfl := Option.some.inj H
              go_wp2
              first | go_end0 | ((try simp only [Exit.inBlock, Exit.then]); refine bodyPost_ret (results_none rfl _ _ _) rfl ?_)
              exact ⟨by first | rfl | (simp [errW_none, errW_some] <;> rfl) | (simp [*, errW_none, errW_some] <;> rfl), by (with_reducible repeat (first | apply Kd.R_alloc | apply Kd.R_drewN | apply Kd.R_drew)); exact HO_0.out, by repeat (first | (with_reducible first | exact HB.out | apply below_alloc | apply pw_below_drewN | apply below_drew1) | exact HB.out), by repeat (first | (with_reducible first | exact HK.out | apply Kept.alloc | apply Kept.drewN | apply Kept.drew) | exact HK.out)⟩

end Go.Proofs.Ytnpibnjncjieaaa.Px

namespace Go.Proofs.Ytnpibnjncjieaaa.Px
open Fig Go.RowKit Go.Proofs.YtnpibnjncjieaaaW.PrintWords Go.Proofs.YtnpibnjncjieaaaW.PrintLast Go.Proofs.YtnpibnjncjieaaaW.PrintMore
attribute [local go_sem] max2_int min2_int max_two min_two max_three min_three max_four min_four   -- for this text's walks alone

/-! ### mul_Small: function 28 -/
def mul_Small.f (k : Nat) (l0 : List Int) (a1 : Int) (a2 : Int) : Option (List Int) := if 0 ≤ (wrap64 ((l0.length : Int) + 2)) then (if (wrap64 ((l0.length : Int) + 2) : Int).toNat ≤ 70368744177664 then ((some (List.replicate (wrap64 ((l0.length : Int) + 2) : Int).toNat 0 : List Int)).bind fun y115 => (if 0 < (y115.length : Int) then ((mul_row.f k (y115.set (0 : Int).toNat a2) l0 a1 0).bind fun t119 => ((nat_Trim.f t119).bind fun t120 => (some t120))) else (none))) else (none)) else (none)
theorem mul_Small.mono : ∀ a0 a1 a2 k, LeO (mul_Small.f k a0 a1 a2) (mul_Small.f (k + 1) a0 a1 a2) := by
  intro a0 a1 a2 k
  unfold mul_Small.f
  repeat' first
      | (with_reducible exact mul_row.mono _ _ _ _ _)
      | (with_reducible exact LeO.refl _)
      | (with_reducible exact LeO.none _)
      | (with_reducible refine LeO.ite ?_ ?_)
      | (with_reducible refine LeO.bind ?_ (fun _ => ?_))
      | exact mul_row.mono _ _ _ _ _
      | exact LeO.none _
      | refine LeO.ite ?_ ?_
      | refine LeO.bind ?_ (fun _ => ?_)
set_option maxHeartbeats 8000000 in
set_option maxRecDepth 100000 in
theorem mul_Small.calls (k : Nat) (A0 : Option Addr) (c0 : Nat) (l0 : List Int) (a1 : Int) (a2 : Int) (r : List Int) (w : World) (hr0 : Kd.C (Kd.int .u32) w A0 l0.length l0) (hc0 : l0.length ≤ c0) (h : mul_Small.f k l0 a1 a2 = some r) :
    Calls Try.prog 28 #[.slice A0 l0.length c0, .int .u32 a1, .int .u32 a2] w fun e w' => ∃ v0_ : Value, e = .returned (v0_) ∧ Kd.R (Kd.int .u32) 32 w' w.heap.size (fun _ => True) v0_ r ∧ Below w.heap.size w w' := by
  have HR0 := Aside0.mk hr0
  have HC0 := Aside0.mk hc0
  clear hr0 hc0
  have HB := Aside0.mk (Below.refl w.heap.size w)
  have H : (if 0 ≤ (wrap64 ((l0.length : Int) + 2)) then (if (wrap64 ((l0.length : Int) + 2) : Int).toNat ≤ 70368744177664 then ((some (List.replicate (wrap64 ((l0.length : Int) + 2) : Int).toNat 0 : List Int)).bind fun y115 => (if 0 < (y115.length : Int) then ((mul_row.f k (y115.set (0 : Int).toNat a2) l0 a1 0).bind fun t119 => ((nat_Trim.f t119).bind fun t120 => (some t120))) else (none))) else (none)) else (none)) = some r := h
  clear h
  obtain ⟨ji4, hji4⟩ : ∃ j_ : Int, (wrap64 ((l0.length : Int) + 2)) = j_ := ⟨_, rfl⟩
  replace H : (if 0 ≤ (ji4) then (if (ji4 : Int).toNat ≤ 70368744177664 then ((some (List.replicate (ji4 : Int).toNat 0 : List Int)).bind fun y115 => (if 0 < (y115.length : Int) then ((mul_row.f k (y115.set (0 : Int).toNat a2) l0 a1 0).bind fun t119 => ((nat_Trim.f t119).bind fun t120 => (some t120))) else (none))) else (none)) else (none)) = some r := by first | (rw [hji4] at H; exact H) | (simp only [hji4] at H ⊢; exact H)
  have hji4w : (IntKind.i64.wrap ((l0.length : Int) + 2)) = ji4 := (i64_w _).trans hji4
  by_cases c5 : 0 ≤ (ji4)
  · rw [if_pos c5] at H
    have c5b0 := eq_true c5
    have c5b1 : decide (0 ≤ (ji4)) = true := decide_eq_true c5
    clear c5
    by_cases c6 : (ji4 : Int).toNat ≤ 70368744177664
    · rw [if_pos c6] at H
      have c6b0 := eq_true c6
      have c6b1 : decide ((ji4 : Int).toNat ≤ 70368744177664) = true := decide_eq_true c6
      clear c6
      obtain ⟨y115, hy115⟩ : ∃ y_ : List Int, y_ = (List.replicate (ji4 : Int).toNat 0) := ⟨_, rfl⟩
      replace H : (if 0 < (y115.length : Int) then ((mul_row.f k (y115.set (0 : Int).toNat a2) l0 a1 0).bind fun t119 => ((nat_Trim.f t119).bind fun t120 => (some t120))) else (none)) = some r := by first | (rw [hy115]; with_reducible exact H) | (have H2_ := (Option.bind_some _ _).symm.trans H; rw [hy115]; with_reducible exact H2_) | (have H2_ := (Option.bind_some _ _).symm.trans H; with_reducible exact H2_) | with_reducible exact H | (rw [hy115]; exact H) | exact H
      have Ny115 := Aside0.mk hy115
      clear hy115
      by_cases c7 : 0 < (y115.length : Int)
      · rw [if_pos c7] at H
        have c7b0 : decide (0 < (y115.length : Int)) = true := decide_eq_true c7
        have c7b1 : decide (0 < y115.length) = true := decide_eq_true (by omega)
        clear c7
        obtain ⟨y118, hy118⟩ : ∃ y_ : List Int, y_ = (y115.set (0 : Int).toNat a2) := ⟨_, rfl⟩
        replace H : ((mul_row.f k y118 l0 a1 0).bind fun t119 => ((nat_Trim.f t119).bind fun t120 => (some t120))) = some r := by first | (rw [hy118]; with_reducible exact H) | (have H2_ := (Option.bind_some _ _).symm.trans H; rw [hy118]; with_reducible exact H2_) | (have H2_ := (Option.bind_some _ _).symm.trans H; with_reducible exact H2_) | with_reducible exact H | (rw [hy118]; exact H) | exact H
        have Ny118 := Aside0.mk hy118
        clear hy118
        replace H := Option.bind_eq_some_iff.mp H
        obtain ⟨t119, A90, H⟩ := H
        replace H : ((nat_Trim.f t119).bind fun t120 => (some t120)) = some r := H
        have A9 := Aside0.mk A90
        clear A90
        replace H := Option.bind_eq_some_iff.mp H
        obtain ⟨t120, A100, H⟩ := H
        replace H : (some t120) = some r := H
        have A10 := Aside0.mk A100
        clear A100
        obtain rfl := Option.some.inj H
        go_enter Try.func28, Try.ntmps28
        go_wp2_with (first | ((with_reducible refine gate_dst (N := 11) rfl ?_); refine Kd.R_make (Kd.int .u32) _ 32 rfl (N := 11) rfl 22 _ _ rfl ji4 rfl rfl Try.underlying22 (.int .u32 0) 4 info32 rfl (by decide) (by omega) 0 (ok := fun _ => True) (okp := fun _ => True) rfl (fun _ hk => hk) trivial (of_decide_eq_true (by first | (with_reducible assumption) | assumption)) (Nat.le_trans (Nat.mul_le_mul_right _ (of_decide_eq_true (by first | (with_reducible assumption) | assumption) : ji4.toNat ≤ 70368744177664)) (by omega)) (Below.refl _ _) (Nat.le_refl _) ?_; intro v116 w11 ho12 hb hg_ hnew_; clear hg_ hnew_; (first | rw [← Ny115.out] at ho12 | (simp only [Int.reduceToNat] at ho12; rw [← Ny115.out] at ho12)); have n0_ := Aside0.mk (Kd.R_lower ho12 (below_size (by repeat (first | (with_reducible first | exact HB.out | apply below_alloc | apply pw_below_drewN | apply below_drew1) | exact HB.out)))); have n1_ := Aside0.mk (below_step (by repeat (first | (with_reducible first | exact HB.out | apply below_alloc | apply pw_below_drewN | apply below_drew1) | exact HB.out)) hb); clear HB; have HO117 := n0_; have HB := n1_; clear n0_ n1_; clear hb ho12; have p8 : 0 ≤ (0 : Int) := (by omega); have q8 : (0 : Int) < ((y115.length : Int) : Int) := of_decide_eq_true (by first | (with_reducible assumption) | assumption); have qi8 : (0 < y115.length) = True := eq_true (by omega); obtain ⟨go8, co8, eo8, gb8, gl8, cl8, HG8⟩ := Kd.R_form HO117.out (by omega); (first | cases eo8 | (injection eo8 with ea_ en_ ec_; (first | subst ea_ | (injection ea_ with ea_; subst ea_)); subst ec_; clear en_)); have GB8 := Aside0.mk gb8; have GG8 := Aside0.mk HG8; clear gb8 gl8 HG8; obtain ⟨hx8_0, hf8_0⟩ := Kd.R_celln 0 HO117.out (0 : Int) p8 q8; (try rw [show ((0 : Int)).toNat = 0 from rfl] at hx8_0); (try simp only [Nat.reduceMul, Nat.zero_mul, Nat.zero_add, Nat.reduceAdd] at hx8_0); (try rw [show ((0 : Int)).toNat = 0 from rfl] at hf8_0); (try simp only [Nat.reduceMul, Nat.zero_mul, Nat.zero_add, Nat.reduceAdd] at hf8_0); replace p8 := eq_true p8; replace q8 := eq_true q8; obtain ⟨hy13_, hz13_⟩ := Kd.R_celln 0 HO117.out (0 : Int) (by omega) (of_decide_eq_true (by first | (with_reducible assumption) | assumption)); (try simp only [Int.reduceToNat, Int.toNat_zero, Int.toNat_ofNat, Nat.reduceMul, Nat.zero_mul, Nat.zero_add] at hy13_ hz13_); (try rw [show ((0 : Int)).toNat = 0 from rfl] at hy13_); (try rw [show ((0 : Int)).toNat = 0 from rfl] at hz13_); have HP13 := Kd.R_putg HO117.out (0 : Int) a2) | ((with_reducible refine gate_store (t := 32) (p := 14) rfl ?_); refine store_event (t := 32) (p := 14) (v := ?vo_w14) (w1 := (w11.setCell ⟨go8, (0 : Int).toNat, none⟩ (.int .u32 a2))) ?hg ?ho ?hn ?hr ?_; (case ho => rfl); (case hg => rfl); (case hn => rfl); (case hr => first | (go_simp; done) | (go_simp; rfl)); intro w14 hw; have hg : w11.grownBy w14 (some go8) := (by rw [hw]; exact HP13.2); have hp_ : Kd.R (Kd.int .u32) 32 w14 w.heap.size (fun _ => True) (.slice (some ⟨go8, 0, none⟩) y115.length co8) y118 := (by rw [hw, Ny118.out]; exact HP13.1); clear HP13; have n0_ := Aside0.mk (hp_); have n1_ := Aside0.mk ((by rw [hw]; exact below_set (HB.out) GB8.out : Below w.heap.size w w14)); clear HO117; clear HB; have HO117 := n0_; have HB := n1_; clear n0_ n1_; clear hg hw hp_) | ((with_reducible refine gate_callee (f := 32) rfl ?_); refine goesL_ (some 18) rfl rfl Try.func32 (by kernel_rfl) rfl #[.slice (some ⟨go8, 0, none⟩) y115.length co8, .slice A0 l0.length c0, .int .u32 a1, .int .i64 0] rfl (by (try simp only [List.map_toArray, List.map_cons, List.map_nil]); first | done | rfl | (simp only [List.length_drop, List.length_take]; rfl)) ?_; (with_reducible refine (mul_row.calls k (fun k_ => some k_ = (.slice (some ⟨go8, 0, none⟩) y115.length co8 : Value).ownBlock) (.slice (some ⟨go8, 0, none⟩) y115.length co8) y118 _ _ l0 a1 0 t119 w _ ?side1 ?side2 ?side3 ?side4 A9.out).mono ?_); (case side1 => repeat (first | (with_reducible first | exact HB.out | apply below_alloc | apply pw_below_drewN | apply below_drew1) | exact HB.out)); (case side2 => exact Kd.R_tight rfl HO117.out); (case side3 => exact Kd.C_kept_came (Kd.heap_int .u32) HR0.out (by repeat (first | (with_reducible first | exact HB.out | apply below_alloc | apply pw_below_drewN | apply below_drew1) | exact HB.out)) (fun k_ hs_ => (fun e_ => Kd.R_base HO117.out k_ e_.symm) hs_)); (case side4 => exact HC0.out); rintro e w15 ⟨rfl, hy0, hb, hkp⟩; refine ⟨_, rfl, ?_⟩; have n0_ := Aside0.mk (Kd.R_reok rfl hy0 (fun k_ e_ => HO117.out.1 k_ e_)); have n1_ := Aside0.mk (hb); clear HO117; clear HB; have HO117 := n0_; have HB := n1_; clear n0_ n1_; (try clear hb); (try clear hkp); (try clear hy0)) | ((with_reducible refine gate_callee (f := 20) rfl ?_); refine goesL_ (some 20) rfl rfl Try.func20 (by kernel_rfl) rfl #[.slice (some ⟨go8, 0, none⟩) t119.length co8] rfl (by (try simp only [List.map_toArray, List.map_cons, List.map_nil]); first | done | (rw [show t119.length = y115.length from (Kd.R_reads' HO117.out).1.symm] <;> rfl) | rfl | (simp only [List.length_drop, List.length_take]; rfl)) ?_; (with_reducible refine (nat_Trim.calls _ _ t119 t120 _ ?side1 ?side2 A10.out).mono ?_); (case side1 => repeat (first | exact (Kd.R_reads' HO117.out).2.2 | (with_reducible refine Kd.C_alloc ?_ _) | (with_reducible refine Kd.C_drewN ?_ _) | (with_reducible refine Kd.C_drew ?_))); (case side2 => rw [show t119.length = y115.length from (Kd.R_reads' HO117.out).1.symm]; exact (Kd.R_reads' HO117.out).2.1); rintro e w16 ⟨v121, rfl, ho0, hb⟩; refine ⟨_, rfl, ?_⟩; have n0_ := Aside0.mk (Kd.R_elder' (by (with_reducible repeat (first | apply Kd.R_alloc | apply Kd.R_drewN | apply Kd.R_drew)); exact HO117.out) (Kd.R_base ho0) hb); have n1_ := Aside0.mk (Kd.R_lower (Kd.R_new' ho0 (Kd.R_lt (by (with_reducible repeat (first | apply Kd.R_alloc | apply Kd.R_drewN | apply Kd.R_drew)); exact HO117.out))) (below_size (by repeat (first | (with_reducible first | exact HB.out | apply below_alloc | apply pw_below_drewN | apply below_drew1) | exact HB.out)))); have n2_ := Aside0.mk (below_step (by repeat (first | (with_reducible first | exact HB.out | apply below_alloc | apply pw_below_drewN | apply below_drew1) | exact HB.out)) hb); clear HO117; clear HB; have HO117 := n0_; have HO122 := n1_; have HB := n2_; clear n0_ n1_ n2_; (try clear hb); (try clear hb2); (try clear hk); (try clear hi); (try clear ho0)))
        go_ret
        exact ⟨_, by first | rfl | (simp [errW_none, errW_some] <;> rfl) | (simp only [← hji4]; first | rfl | (simp [errW_none, errW_some] <;> rfl)) | (simp [*, errW_none, errW_some] <;> rfl), by (with_reducible repeat (first | apply Kd.R_alloc | apply Kd.R_drewN | apply Kd.R_drew)); exact Kd.R_mono HO122.out (fun _ hk => trivial), by repeat (first | (with_reducible first | exact HB.out | apply below_alloc | apply pw_below_drewN | apply below_drew1) | exact HB.out)⟩
      · rw [if_neg c7] at H
        exact absurd H (by simp)
    · rw [if_neg c6] at H
      exact absurd H (by simp)
  · rw [if_neg c5] at H
    exact absurd H (by simp)

end Go.Proofs.Ytnpibnjncjieaaa.Px

namespace Go.Proofs.Ytnpibnjncjieaaa.Px
open Fig Go.RowKit Go.Proofs.YtnpibnjncjieaaaW.PrintWords Go.Proofs.YtnpibnjncjieaaaW.PrintLast Go.Proofs.YtnpibnjncjieaaaW.PrintMore
attribute [local go_sem] max2_int min2_int max_two min_two max_three min_three max_four min_four   -- for this text's walks alone

/-! ### nat_Sub: function 29 -/
theorem sub_digit1 (v a b P p bw q : Nat) (hp : p < bw + q) (hb : bw ≤ 1) (hq : q < 1000000000) (h : a + P * bw = v + b) : a + P * p + P * 1000000000 * 1 = v + P * (p + 1000000000 - (bw + q)) + (b + P * q) := by
  have e : P * p + P * 1000000000 + P * bw = P * (p + 1000000000 - (bw + q)) + P * bw + (P * q + P * bw) := by
    rw [← Nat.mul_add, ← Nat.mul_add, ← Nat.mul_add, ← Nat.mul_add, ← Nat.mul_add]; congr 1; omega
  rw [Nat.mul_one]; omega
theorem sub_digit0 (v a b P p bw q : Nat) (hp : ¬ p < bw + q) (h : a + P * bw = v + b) : a + P * p + P * 1000000000 * 0 = v + P * (p - (bw + q)) + (b + P * q) := by
  have e : P * p = P * (p - (bw + q)) + P * bw + P * q := by
    rw [← Nat.mul_add, ← Nat.mul_add]; congr 1; omega
  rw [Nat.mul_zero]; omega
def nat_Sub.f (l0 : List Int) (l1 : List Int) : Option (List Int × Bool) := subF l0 l1
set_option maxHeartbeats 1000000 in
theorem nat_Sub.calls (A0 : Option Addr) (c0 : Nat) (l0 : List Int) (A1 : Option Addr) (c1 : Nat) (l1 : List Int) (r1 : List Int) (r2 : Bool) (w : World) (hr0 : Kd.C (Kd.int .u32) w A0 l0.length l0) (hc0 : l0.length ≤ c0) (hr1 : Kd.C (Kd.int .u32) w A1 l1.length l1) (hc1 : l1.length ≤ c1) (h : nat_Sub.f l0 l1 = some (r1, r2)) :
    Calls Try.prog 29 #[.slice A0 l0.length c0, .slice A1 l1.length c1] w fun e w' => ∃ v0_ : Value, e = .returned (.tuple #[v0_, .bool r2]) ∧ Kd.R (Kd.int .u32) 32 w' w.heap.size (fun _ => True) v0_ r1 ∧ Below w.heap.size w w' := by
  unfold nat_Sub.f subF at h
  by_cases hg : goodL l0 = true ∧ goodL l1 = true ∧ l0.length ≤ 1000000000000 ∧ l1.length ≤ 1000000000000
  · rw [if_pos hg] at h
    obtain ⟨g0, g1, z0, z1⟩ := hg
    obtain ⟨cc, hcc⟩ : ∃ c, c = cmpN (valL l0) (valL l1) := ⟨_, rfl⟩
    have HCM := Aside0.mk (show nat_Cmp.f l0 l1 = some cc by rw [hcc]; exact cmpF_eq g0 g1 z0 z1)
    have G0 := Aside0.mk g0
    have G1 := Aside0.mk g1
    have HR0 := Aside0.mk hr0
    have HR1 := Aside0.mk hr1
    have HC0 := Aside0.mk hc0
    have HC1 := Aside0.mk hc1
    clear g0 g1 hr0 hr1 hc0 hc1
    by_cases hlt : valL l0 < valL l1
    · rw [if_pos hlt] at h
      simp only [Option.some.injEq, Prod.mk.injEq] at h
      obtain ⟨rfl, rfl⟩ := h
      have hneg : cc < 0 := by rw [hcc]; unfold cmpN; rw [if_pos hlt]; omega
      have dc : decide (cc < 0) = true := decide_eq_true hneg
      clear hcc hneg hlt
      go_enter Try.func29, Try.ntmps29
      go_wp2_with (go_at_call 27; (with_reducible refine (nat_Cmp.calls _ _ l0 _ _ l1 cc _ ?side1 ?side2 ?side3 ?side4 HCM.out).mono ?_); (case side1 => exact HR0.out); (case side2 => exact HC0.out); (case side3 => exact HR1.out); (case side4 => exact HC1.out); rintro e w' ⟨rfl, ⟨nd, rfl⟩⟩)
      go_ret2
      exact ⟨_, rfl, Kd.R_nil _ _ _ _ _, pw_below_drewN (Below.refl _ _) _⟩
    · rw [if_neg hlt] at h
      simp only [Option.some.injEq, Prod.mk.injEq] at h
      obtain ⟨rfl, rfl⟩ := h
      have hneg : ¬ cc < 0 := by rw [hcc]; unfold cmpN; rw [if_neg hlt]; split <;> omega
      have dc : decide (cc < 0) = false := decide_eq_false hneg
      have hle : valL l1 ≤ valL l0 := by omega
      obtain ⟨k1, hk1⟩ := top_at (l := l1) (by omega)
      have ht1 := trimL_len l1
      have hm1 : (trimL l1).length ≤ l0.length := by
        rcases Nat.lt_or_ge l0.length (trimL l1).length with h1 | h1
        · have := len_lt G0.out (trimL_good G1.out) (trimL_canon l1) h1
          rw [trimL_val] at this; omega
        · exact h1
      have hq1 := Fig.take_trim l1
      have hv1 := trimL_val l1
      obtain ⟨m, hm⟩ : ∃ m, m = (trimL l1).length := ⟨_, rfl⟩
      rw [← hm] at hk1 ht1 hm1 hq1
      obtain ⟨i0, hi0, _, hsz, _⟩ := info_parts info32
      obtain ⟨hcutB, _, hcB⟩ := print_take_of (P := Try.prog) (Value.int .u32) 0 22 32 .i64 Try.underlying22 hi0 hsz A1 c1 l1 (m : Int) (by omega) (by omega) HC1.out
      rw [Int.toNat_natCast] at hcutB
      have Hk1 := Aside0.mk hk1
      have HT := Aside0.mk (And.intro hq1 hv1)
      have HLE := Aside0.mk hle
      clear hcc hneg hlt hk1 hm hq1 hv1 hle hi0 hsz hcB
      go_enter Try.func29, Try.ntmps29
      go_wp2_with (first
        | (go_at_call 27; (with_reducible refine (nat_Cmp.calls _ _ l0 _ _ l1 cc _ ?side1 ?side2 ?side3 ?side4 HCM.out).mono ?_); (case side1 => exact HR0.out); (case side2 => exact HC0.out); (case side3 => exact HR1.out); (case side4 => exact HC1.out); rintro e w' ⟨rfl, ⟨nd, rfl⟩⟩)
        | (go_at_call 26; (with_reducible refine (nat_top.calls k1 _ _ l1 (m : Int) _ ?side1 ?side2 Hk1.out).mono ?_); (case side1 => repeat (first | exact HR1.out | (with_reducible refine Kd.C_drewN ?_ _) | (with_reducible refine Kd.C_drew ?_))); (case side2 => exact HC1.out); rintro e w' ⟨rfl, ⟨nd2, rfl⟩⟩)
        | ((with_reducible refine gate_dst (N := 21) rfl ?_); refine R_make_cap (k := .u32) w.heap.size 32 rfl 22 _ _ rfl l0.length rfl (by first | rfl | simp) Try.underlying22 (.int .u32 0) 4 info32 (fun _ => True) trivial (by omega) (by omega) (w0 := w) (by repeat (first | exact Below.refl _ _ | apply pw_below_drewN | apply below_drew1)) (by first | exact Nat.le_refl _ | simp) ?_; intro v20 w20 ho20 hb20; have HO := Aside0.mk ho20; have HB := Aside0.mk hb20; clear ho20 hb20))
      go_loopg [6, 7, 24] l0.length (fun j v6 v7 v24 w' => ∃ (n bw : Nat) (o : List Int), v24 = .int .i64 (n : Int) ∧ v7 = .int .u32 (bw : Int) ∧ Aside0 (n + j = l0.length) ∧ Aside0 (bw ≤ 1 ∧ goodL o = true ∧ o.length = n ∧ valL (l0.take n) + 1000000000 ^ n * bw = valL o + valL ((l1.take m).take n)) ∧ Aside0 (Kd.R (Kd.int .u32) 32 w' w.heap.size (fun _ => True) v6 o) ∧ Aside0 (Below w.heap.size w w'))
      case atStart => exact ⟨0, 0, [], rfl, rfl, ⟨by omega⟩, ⟨by omega, rfl, rfl, by simp [valL]⟩, HO, HB⟩
      case round =>
        clear HO HB
        obtain ⟨n, bw, o, rfl, rfl, HN, HI, HO, HB⟩ := hrel
        cases gk with
        | zero =>
          have hn := HN.out
          have hd : decide (n < l0.length) = false := decide_eq_false (by omega)
          have HV := Aside0.mk (show goodL o = true ∧ o.length ≤ 1000000000000 ∧ valL o = valL l0 - valL l1 by
            obtain ⟨i1, i2, i3, i4⟩ := HI.out
            refine ⟨i2, by omega, ?_⟩
            have ho := valL_lt i2
            have hle := HLE.out
            rw [List.take_of_length_le (by omega), List.take_of_length_le (by simp; omega), HT.out.1, HT.out.2] at i4
            rw [i3] at ho
            rcases Nat.eq_zero_or_pos bw with h0 | h0
            · subst h0; omega
            · have := Nat.mul_le_mul_left (1000000000 ^ n) h0
              omega)
          clear hn
          obtain ⟨A9, c9, rfl⟩ := Kd.R_slice HO.out
          go_wp2_with (first
            | (go_at_call 20; (with_reducible refine (nat_Trim.calls A9 c9 o (limbs (valL l0 - valL l1)) _ ?side1 ?side2 ?side3).mono ?_); (case side1 => exact (Kd.R_reads' HO.out).2.2); (case side2 => exact (Kd.R_reads' HO.out).2.1); (case side3 => rw [← HV.out.2.2]; exact trimF_eq HV.out.1 (by have := HV.out.2.1; omega)); rintro e w12 ⟨v0, rfl, ho, hb⟩; have n0_ := Aside0.mk (Kd.R_lower ho (below_size (by repeat (first | (with_reducible first | exact HB.out | apply below_alloc | apply pw_below_drewN | apply below_drew1) | exact HB.out)))); have n1_ := Aside0.mk (below_step (by repeat (first | (with_reducible first | exact HB.out | apply below_alloc | apply pw_below_drewN | apply below_drew1) | exact HB.out)) hb); clear ho hb HB HO; have HB := n1_; have HO := n0_; clear n0_ n1_))
          go_ret2
          exact ⟨_, rfl, HO.out, HB.out⟩
        | succ j =>
          have hn := HN.out
          have hnl : n < l0.length := by omega
          have hd : decide (n < l0.length) = true := decide_eq_true hnl
          obtain ⟨ad, ea, hc⟩ := Kd.at_int HR0.out (n : Int) (by omega) (by omega)
          cases ea
          rw [Int.toNat_natCast] at hc
          replace hc := (HB.out.cell (World.block_lt_of_cell? w _ hc)).trans hc
          obtain ⟨p, hp⟩ : ∃ p : Nat, rd l0 (n : Int) = (p : Int) := ⟨(rd l0 (n : Int)).toNat, by have := goodL_iff.1 G0.out _ (List.getElem_mem hnl); rw [rd_get hnl]; omega⟩
          have hp9 : p < 1000000000 := by have := goodL_iff.1 G0.out _ (List.getElem_mem hnl); rw [rd_get hnl] at hp; omega
          rw [hp] at hc
          have HNL := Aside0.mk hnl
          have HP := Aside0.mk (show (l0[n]'HNL.out).toNat = p by rw [rd_get hnl] at hp; rw [hp]; rfl)
          have HS := Aside0.mk (Fig.valL_take_succ HNL.out)
          have hbw : bw ≤ 1 := HI.out.1
          have HL := Aside0.mk (show (o.length + 1) * 4 ≤ 140737488355328 by
            have := HI.out
            omega)
          have qn := eq_true hnl
          clear hp hn hnl
          by_cases hm : n < m
          · have hdm : decide (n < m) = true := decide_eq_true hm
            have hm' : n < l1.length := by omega
            obtain ⟨ad2, ea2, hc2⟩ := Kd.at_int HR1.out (n : Int) (by omega) (by omega)
            cases ea2
            rw [Int.toNat_natCast] at hc2
            replace hc2 := (HB.out.cell (World.block_lt_of_cell? w _ hc2)).trans hc2
            obtain ⟨q, hq⟩ : ∃ q : Nat, rd l1 (n : Int) = (q : Int) := ⟨(rd l1 (n : Int)).toNat, by have := goodL_iff.1 G1.out _ (List.getElem_mem hm'); rw [rd_get hm']; omega⟩
            have hq9 : q < 1000000000 := by have := goodL_iff.1 G1.out _ (List.getElem_mem hm'); rw [rd_get hm'] at hq; omega
            rw [hq] at hc2
            have HM := Aside0.mk hm'
            have HQ := Aside0.mk (show (l1[n]'HM.out).toNat = q by rw [rd_get hm'] at hq; rw [hq]; rfl)
            have HS2 := Aside0.mk (Fig.valL_take_succ HM.out)
            have HM2 := Aside0.mk hm
            have qm := eq_true hm
            clear hq hm hm'
            by_cases hv : p < bw + q
            · have dv : decide (p < bw + q) = true := decide_eq_true hv
              have dv2 : decide ((p : Int) < (bw : Int) + (q : Int)) = true := decide_eq_true (by omega)
              go_wp2_with (first | ((with_reducible refine gate_builtin (b := .append) (xs := #[.tmp 45, .tmp 49]) rfl ?_); at_builtin; refine Kd.R_append (Kd.int .u32) (w0 := w) w.heap.size rfl (.tmp 45) (.tmp 49) 22 32 (.int .u32 0) 4 rfl Try.underlying22 info32 rfl (by decide) (by omega) _ o ((p : Int) + 1000000000 - ((bw : Int) + (q : Int))) [.int .u32 ((p : Int) + 1000000000 - ((bw : Int) + (q : Int)))] (fun _ => True) (fun _ => False) rfl rfl ?aP (fun _ hk => hk.elim) ?aF ?aO ?aB ?aS ?aL ?_; (case aP => exact rfl); (case aB => exact (by repeat (first | (with_reducible first | exact HB.out | apply below_alloc | apply pw_below_drewN | apply below_drew1) | exact HB.out))); (case aF => exact (fun _ _ => trivial)); (case aO => exact (by (with_reducible repeat (first | apply Kd.R_alloc | apply Kd.R_drewN | apply Kd.R_drew)); exact HO.out)); (case aS => exact (below_size (by repeat (first | (with_reducible first | exact HB.out | apply below_alloc | apply pw_below_drewN | apply below_drew1) | exact HB.out)))); (case aL => exact HL.out); intro v49 w11 ho hb hg hat; have n0_ := Aside0.mk hb; have n1_ := Aside0.mk ho; clear HB; clear HO; have HB := n0_; have HO := n1_; clear n0_ n1_; clear ho hb hg hat))
              go_roundg j
              case measure => omega
              case rel =>
                exact ⟨n + 1, 1, _, by rw [succ64 n (by have := HN.out; omega)], by first | rfl | go_num, ⟨by have := HN.out; omega⟩, ⟨by
                  obtain ⟨i1, i2, i3, i4⟩ := HI.out
                  rw [show ((p : Int) + 1000000000 - ((bw : Int) + (q : Int))) = ((p + 1000000000 - (bw + q) : Nat) : Int) by omega]
                  refine ⟨by omega, goodL_append.2 ⟨i2, goodL_cons.2 ⟨by omega, rfl⟩⟩, by simp [i3], ?_⟩
                  have hm := HM2.out
                  have e1 : (l1.take m).take (n + 1) = l1.take (n + 1) := by rw [List.take_take, Nat.min_eq_left (by omega)]
                  have e2 : (l1.take m).take n = l1.take n := by rw [List.take_take, Nat.min_eq_left (by omega)]
                  rw [e2] at i4
                  rw [valL_snoc, Int.toNat_natCast, i3, Nat.pow_succ, HS.out, HP.out, e1, HS2.out, HQ.out]
                  exact sub_digit1 _ _ _ _ _ _ q (by omega) (by omega) (by omega) i4⟩, HO, HB⟩
            · have dv : decide (p < bw + q) = false := decide_eq_false hv
              have dv2 : decide ((p : Int) < (bw : Int) + (q : Int)) = false := decide_eq_false (by omega)
              go_wp2_with (first | ((with_reducible refine gate_builtin (b := .append) (xs := #[.tmp 45, .tmp 49]) rfl ?_); at_builtin; refine Kd.R_append (Kd.int .u32) (w0 := w) w.heap.size rfl (.tmp 45) (.tmp 49) 22 32 (.int .u32 0) 4 rfl Try.underlying22 info32 rfl (by decide) (by omega) _ o ((p : Int) - ((bw : Int) + (q : Int))) [.int .u32 ((p : Int) - ((bw : Int) + (q : Int)))] (fun _ => True) (fun _ => False) rfl rfl ?aP (fun _ hk => hk.elim) ?aF ?aO ?aB ?aS ?aL ?_; (case aP => exact rfl); (case aB => exact (by repeat (first | (with_reducible first | exact HB.out | apply below_alloc | apply pw_below_drewN | apply below_drew1) | exact HB.out))); (case aF => exact (fun _ _ => trivial)); (case aO => exact (by (with_reducible repeat (first | apply Kd.R_alloc | apply Kd.R_drewN | apply Kd.R_drew)); exact HO.out)); (case aS => exact (below_size (by repeat (first | (with_reducible first | exact HB.out | apply below_alloc | apply pw_below_drewN | apply below_drew1) | exact HB.out)))); (case aL => exact HL.out); intro v49 w11 ho hb hg hat; have n0_ := Aside0.mk hb; have n1_ := Aside0.mk ho; clear HB; clear HO; have HB := n0_; have HO := n1_; clear n0_ n1_; clear ho hb hg hat))
              go_roundg j
              case measure => omega
              case rel =>
                exact ⟨n + 1, 0, _, by rw [succ64 n (by have := HN.out; omega)], by first | rfl | go_num, ⟨by have := HN.out; omega⟩, ⟨by
                  obtain ⟨i1, i2, i3, i4⟩ := HI.out
                  rw [show ((p : Int) - ((bw : Int) + (q : Int))) = ((p - (bw + q) : Nat) : Int) by omega]
                  refine ⟨by omega, goodL_append.2 ⟨i2, goodL_cons.2 ⟨by omega, rfl⟩⟩, by simp [i3], ?_⟩
                  have hm := HM2.out
                  have e1 : (l1.take m).take (n + 1) = l1.take (n + 1) := by rw [List.take_take, Nat.min_eq_left (by omega)]
                  have e2 : (l1.take m).take n = l1.take n := by rw [List.take_take, Nat.min_eq_left (by omega)]
                  rw [e2] at i4
                  rw [valL_snoc, Int.toNat_natCast, i3, Nat.pow_succ, HS.out, HP.out, e1, HS2.out, HQ.out]
                  exact sub_digit0 _ _ _ _ _ _ q (by omega) i4⟩, HO, HB⟩

          · have hdm : decide (n < m) = false := decide_eq_false hm
            have HM := Aside0.mk hm
            clear hm
            by_cases hv : p < bw
            · have dv : decide (p < bw) = true := decide_eq_true hv
              have dv2 : decide ((p : Int) < (bw : Int)) = true := decide_eq_true (by omega)
              go_wp2_with (first | ((with_reducible refine gate_builtin (b := .append) (xs := #[.tmp 45, .tmp 49]) rfl ?_); at_builtin; refine Kd.R_append (Kd.int .u32) (w0 := w) w.heap.size rfl (.tmp 45) (.tmp 49) 22 32 (.int .u32 0) 4 rfl Try.underlying22 info32 rfl (by decide) (by omega) _ o ((p : Int) + 1000000000 - (bw : Int)) [.int .u32 ((p : Int) + 1000000000 - (bw : Int))] (fun _ => True) (fun _ => False) rfl rfl ?aP (fun _ hk => hk.elim) ?aF ?aO ?aB ?aS ?aL ?_; (case aP => exact rfl); (case aB => exact (by repeat (first | (with_reducible first | exact HB.out | apply below_alloc | apply pw_below_drewN | apply below_drew1) | exact HB.out))); (case aF => exact (fun _ _ => trivial)); (case aO => exact (by (with_reducible repeat (first | apply Kd.R_alloc | apply Kd.R_drewN | apply Kd.R_drew)); exact HO.out)); (case aS => exact (below_size (by repeat (first | (with_reducible first | exact HB.out | apply below_alloc | apply pw_below_drewN | apply below_drew1) | exact HB.out)))); (case aL => exact HL.out); intro v49 w11 ho hb hg hat; have n0_ := Aside0.mk hb; have n1_ := Aside0.mk ho; clear HB; clear HO; have HB := n0_; have HO := n1_; clear n0_ n1_; clear ho hb hg hat))
              go_roundg j
              case measure => omega
              case rel =>
                exact ⟨n + 1, 1, _, by rw [succ64 n (by have := HN.out; omega)], by first | rfl | go_num, ⟨by have := HN.out; omega⟩, ⟨by
                  obtain ⟨i1, i2, i3, i4⟩ := HI.out
                  rw [show ((p : Int) + 1000000000 - (bw : Int)) = ((p + 1000000000 - (bw) : Nat) : Int) by omega]
                  refine ⟨by omega, goodL_append.2 ⟨i2, goodL_cons.2 ⟨by omega, rfl⟩⟩, by simp [i3], ?_⟩
                  have hm := HM.out
                  have e1 : (l1.take m).take (n + 1) = (l1.take m).take n := by rw [List.take_take, List.take_take, Nat.min_eq_right (by omega), Nat.min_eq_right (by omega)]
                  rw [valL_snoc, Int.toNat_natCast, i3, Nat.pow_succ, HS.out, HP.out, e1]
                  exact sub_digit1 _ _ _ _ _ _ 0 (by omega) (by omega) (by omega) i4⟩, HO, HB⟩
            · have dv : decide (p < bw) = false := decide_eq_false hv
              have dv2 : decide ((p : Int) < (bw : Int)) = false := decide_eq_false (by omega)
              go_wp2_with (first | ((with_reducible refine gate_builtin (b := .append) (xs := #[.tmp 45, .tmp 49]) rfl ?_); at_builtin; refine Kd.R_append (Kd.int .u32) (w0 := w) w.heap.size rfl (.tmp 45) (.tmp 49) 22 32 (.int .u32 0) 4 rfl Try.underlying22 info32 rfl (by decide) (by omega) _ o ((p : Int) - (bw : Int)) [.int .u32 ((p : Int) - (bw : Int))] (fun _ => True) (fun _ => False) rfl rfl ?aP (fun _ hk => hk.elim) ?aF ?aO ?aB ?aS ?aL ?_; (case aP => exact rfl); (case aB => exact (by repeat (first | (with_reducible first | exact HB.out | apply below_alloc | apply pw_below_drewN | apply below_drew1) | exact HB.out))); (case aF => exact (fun _ _ => trivial)); (case aO => exact (by (with_reducible repeat (first | apply Kd.R_alloc | apply Kd.R_drewN | apply Kd.R_drew)); exact HO.out)); (case aS => exact (below_size (by repeat (first | (with_reducible first | exact HB.out | apply below_alloc | apply pw_below_drewN | apply below_drew1) | exact HB.out)))); (case aL => exact HL.out); intro v49 w11 ho hb hg hat; have n0_ := Aside0.mk hb; have n1_ := Aside0.mk ho; clear HB; clear HO; have HB := n0_; have HO := n1_; clear n0_ n1_; clear ho hb hg hat))
              go_roundg j
              case measure => omega
              case rel =>
                exact ⟨n + 1, 0, _, by rw [succ64 n (by have := HN.out; omega)], by first | rfl | go_num, ⟨by have := HN.out; omega⟩, ⟨by
                  obtain ⟨i1, i2, i3, i4⟩ := HI.out
                  rw [show ((p : Int) - (bw : Int)) = ((p - (bw) : Nat) : Int) by omega]
                  refine ⟨by omega, goodL_append.2 ⟨i2, goodL_cons.2 ⟨by omega, rfl⟩⟩, by simp [i3], ?_⟩
                  have hm := HM.out
                  have e1 : (l1.take m).take (n + 1) = (l1.take m).take n := by rw [List.take_take, List.take_take, Nat.min_eq_right (by omega), Nat.min_eq_right (by omega)]
                  rw [valL_snoc, Int.toNat_natCast, i3, Nat.pow_succ, HS.out, HP.out, e1]
                  exact sub_digit0 _ _ _ _ _ _ 0 (by omega) i4⟩, HO, HB⟩

  · rw [if_neg hg] at h; cases h

end Go.Proofs.Ytnpibnjncjieaaa.Px

namespace Go.Proofs.Ytnpibnjncjieaaa.Px
open Fig Go.RowKit Go.Proofs.YtnpibnjncjieaaaW.PrintWords Go.Proofs.YtnpibnjncjieaaaW.PrintLast Go.Proofs.YtnpibnjncjieaaaW.PrintMore
attribute [local go_sem] max2_int min2_int max_two min_two max_three min_three max_four min_four   -- for this text's walks alone

/-! ### div_guess: function 21 -/
def div_guess.l0 : Nat → List Int → List Int → Int → Int → Option (Int × List Int)
  | 0, _, _, _, _ => none
  | k + 1, x0, x1, x6, x7 => if ((x7 - x6) % 4294967296) > 1 then ((mul_Small.f k x1 (((x6 + x7) % 4294967296) / 2) 0).bind fun t130 => ((nat_Cmp.f t130 x0).bind fun t133 => (if t133 ≤ 0 then (div_guess.l0 k x0 x1 (((x6 + x7) % 4294967296) / 2) x7) else (div_guess.l0 k x0 x1 x6 (((x6 + x7) % 4294967296) / 2))))) else ((mul_Small.f k x1 x6 0).bind fun t123 => ((nat_Sub.f x0 t123).bind fun bt126 => (some (x6, bt126.1))))
def div_guess.f (k : Nat) (l0 : List Int) (l1 : List Int) : Option (Int × List Int) := div_guess.l0 k l0 l1 0 1000000000
theorem div_guess.mono_l : ∀ k, (∀ y0 y1 y2 y3, LeO (div_guess.l0 k y0 y1 y2 y3) (div_guess.l0 (k + 1) y0 y1 y2 y3))
  | 0 => fun _ _ _ _ r h => by simp [div_guess.l0] at h
  | k + 1 => by
    have ih0 := div_guess.mono_l k
    · intro y0 y1 y2 y3
      unfold div_guess.l0
      repeat' first
      | (with_reducible exact ih0 _ _ _ _)
      | (with_reducible exact mul_Small.mono _ _ _ _)
      | (with_reducible exact LeO.refl _)
      | (with_reducible exact LeO.none _)
      | (with_reducible refine LeO.ite ?_ ?_)
      | (with_reducible refine LeO.bind ?_ (fun _ => ?_))
      | exact ih0 _ _ _ _
      | exact mul_Small.mono _ _ _ _
      | exact LeO.none _
      | refine LeO.ite ?_ ?_
      | refine LeO.bind ?_ (fun _ => ?_)
theorem div_guess.mono : ∀ a0 a1 k, LeO (div_guess.f k a0 a1) (div_guess.f (k + 1) a0 a1) := by
  intro a0 a1 k
  have ih0 := div_guess.mono_l k
  unfold div_guess.f
  repeat' first
      | (with_reducible exact ih0 _ _ _ _)
      | (with_reducible exact mul_Small.mono _ _ _ _)
      | (with_reducible exact LeO.refl _)
      | (with_reducible exact LeO.none _)
      | (with_reducible refine LeO.ite ?_ ?_)
      | (with_reducible refine LeO.bind ?_ (fun _ => ?_))
      | exact ih0 _ _ _ _
      | exact mul_Small.mono _ _ _ _
      | exact LeO.none _
      | refine LeO.ite ?_ ?_
      | refine LeO.bind ?_ (fun _ => ?_)
set_option maxHeartbeats 8000000 in
set_option maxRecDepth 100000 in
theorem div_guess.calls (k : Nat) (A0 : Option Addr) (c0 : Nat) (l0 : List Int) (A1 : Option Addr) (c1 : Nat) (l1 : List Int) (r1 : Int) (r2 : List Int) (w : World) (hr0 : Kd.C (Kd.int .u32) w A0 l0.length l0) (hc0 : l0.length ≤ c0) (hr1 : Kd.C (Kd.int .u32) w A1 l1.length l1) (hc1 : l1.length ≤ c1) (h : div_guess.f k l0 l1 = some (r1, r2)) :
    Calls Try.prog 21 #[.slice A0 l0.length c0, .slice A1 l1.length c1] w fun e w' => ∃ v1_ : Value, e = .returned (.tuple #[.int .u32 r1, v1_]) ∧ Kd.R (Kd.int .u32) 32 w' w.heap.size (fun _ => True) v1_ r2 ∧ Below w.heap.size w w' := by
  have HR0 := Aside0.mk hr0
  have HC0 := Aside0.mk hc0
  clear hr0 hc0
  have HR1 := Aside0.mk hr1
  have HC1 := Aside0.mk hc1
  clear hr1 hc1
  have HB := Aside0.mk (Below.refl w.heap.size w)
  have H : (div_guess.l0 k l0 l1 0 1000000000) = some (r1, r2) := h
  clear h
  have H' := Aside0.mk H
  clear H
  go_enter Try.func21, Try.ntmps21
  go_wp2
  go_loopg [6, 7] k (fun kq v6 v7 w' => ∃ (x6_1 : Int) (x7_1 : Int), v6 = .int .u32 x6_1 ∧ v7 = .int .u32 x7_1 ∧ Aside0 (div_guess.l0 kq l0 l1 x6_1 x7_1 = some (r1, r2)) ∧ Aside0 (kq ≤ k) ∧ Aside0 (Below w.heap.size w w'))
  case atStart => exact ⟨(0), (1000000000), (by first | rfl | (simp; done) | (simp [*]; done) | (simp [*, Fig.bne_nil]; done)), (by first | rfl | (simp; done) | (simp [*]; done) | (simp [*, Fig.bne_nil]; done)), H', ⟨Nat.le_refl _⟩, ⟨by repeat (first | (with_reducible first | exact HB.out | apply below_alloc | apply pw_below_drewN | apply below_drew1) | exact HB.out)⟩⟩
  case round =>
    clear H'
    try clear c1
    try clear c2
    try clear p2
    obtain ⟨x6_1, x7_1, rfl, rfl, HA, HK1, HB⟩ := hrel
    cases gk with
    | zero => exact absurd HA.out (by simp [div_guess.l0])
    | succ k1 =>
      have H := HA.out
      clear HA
      simp only [div_guess.l0] at H
      by_cases c3 : ((x7_1 - x6_1) % 4294967296) > 1
      · rw [if_pos c3] at H
        have c3b0 : decide (1 < ((x7_1 - x6_1) % 4294967296)) = true := decide_eq_true c3
        clear c3
        replace H := Option.bind_eq_some_iff.mp H
        obtain ⟨t130, A40, H⟩ := H
        replace H : ((nat_Cmp.f t130 l0).bind fun t133 => (if t133 ≤ 0 then (div_guess.l0 k1 l0 l1 (((x6_1 + x7_1) % 4294967296) / 2) x7_1) else (div_guess.l0 k1 l0 l1 x6_1 (((x6_1 + x7_1) % 4294967296) / 2)))) = some (r1, r2) := H
        have A4 := Aside0.mk A40
        clear A40
        replace H := Option.bind_eq_some_iff.mp H
        obtain ⟨t133, A50, H⟩ := H
        replace H : (if t133 ≤ 0 then (div_guess.l0 k1 l0 l1 (((x6_1 + x7_1) % 4294967296) / 2) x7_1) else (div_guess.l0 k1 l0 l1 x6_1 (((x6_1 + x7_1) % 4294967296) / 2))) = some (r1, r2) := H
        have A5 := Aside0.mk A50
        clear A50
        by_cases c6 : t133 ≤ 0
        · rw [if_pos c6] at H
          have c6b0 : decide (t133 ≤ 0) = true := decide_eq_true c6
          clear c6
          have H' := Aside0.mk H
          clear H
          go_wp2_with (first | ((with_reducible refine gate_callee (f := 28) rfl ?_); refine goesL_ (some 21) rfl rfl Try.func28 (by kernel_rfl) rfl #[.slice A1 l1.length c1, .int .u32 (((x6_1 + x7_1) % 4294967296) / 2), .int .u32 0] rfl (by (try simp only [List.map_toArray, List.map_cons, List.map_nil]); first | done | rfl | (simp only [List.length_drop, List.length_take]; rfl)) ?_; (with_reducible refine (mul_Small.calls k1 _ _ l1 (((x6_1 + x7_1) % 4294967296) / 2) 0 t130 _ ?side1 ?side2 A4.out).mono ?_); (case side1 => repeat (first | exact (Kd.C_below HR1.out HB.out) | (with_reducible refine Kd.C_alloc ?_ _) | (with_reducible refine Kd.C_drewN ?_ _) | (with_reducible refine Kd.C_drew ?_))); (case side2 => exact HC1.out); rintro e w7 ⟨v131, rfl, ho0, hb⟩; refine ⟨_, rfl, ?_⟩; have n0_ := Aside0.mk (Kd.R_lower ho0 (below_size (by repeat (first | (with_reducible first | exact HB.out | apply below_alloc | apply pw_below_drewN | apply below_drew1) | exact HB.out)))); have n1_ := Aside0.mk (below_step (by repeat (first | (with_reducible first | exact HB.out | apply below_alloc | apply pw_below_drewN | apply below_drew1) | exact HB.out)) hb); clear HB; have HO132 := n0_; have HB := n1_; clear n0_ n1_; (try clear hb); (try clear hb2); (try clear hk); (try clear hi); (try clear ho0); obtain ⟨Ao8, co8, eo8⟩ := Kd.R_slice HO132.out; subst eo8) | ((with_reducible refine gate_callee (f := 27) rfl ?_); refine goesL_ (some 23) rfl rfl Try.func27 (by kernel_rfl) rfl #[.slice Ao8 t130.length co8, .slice A0 l0.length c0] rfl (by (try simp only [List.map_toArray, List.map_cons, List.map_nil]); first | done | rfl | (simp only [List.length_drop, List.length_take]; rfl)) ?_; (with_reducible refine (nat_Cmp.calls _ _ t130 _ _ l0 t133 _ ?side1 ?side2 ?side3 ?side4 A5.out).mono ?_); (case side1 => repeat (first | exact (Kd.R_reads' HO132.out).2.2 | (with_reducible refine Kd.C_alloc ?_ _) | (with_reducible refine Kd.C_drewN ?_ _) | (with_reducible refine Kd.C_drew ?_))); (case side2 => exact (Kd.R_reads' HO132.out).2.1); (case side3 => repeat (first | exact (Kd.C_below HR0.out HB.out) | (with_reducible refine Kd.C_alloc ?_ _) | (with_reducible refine Kd.C_drewN ?_ _) | (with_reducible refine Kd.C_drew ?_))); (case side4 => exact HC0.out); rintro e w' ⟨rfl, ⟨nd, rfl⟩⟩; refine ⟨_, rfl, ?_⟩))
          go_roundg k1
          case measure => have := HK1.out; omega
          case rel => exact ⟨(((x6_1 + x7_1) % 4294967296) / 2), (x7_1), (by first | rfl | (simp; done) | (simp [*]; done) | (simp [*, Fig.bne_nil]; done)), (by first | rfl | (simp; done) | (simp [*]; done) | (simp [*, Fig.bne_nil]; done)), H', ⟨by have := HK1.out; omega⟩, ⟨by repeat (first | (with_reducible first | exact HB.out | apply below_alloc | apply pw_below_drewN | apply below_drew1) | exact HB.out)⟩⟩
        · rw [if_neg c6] at H
          have c6b0 : decide (t133 ≤ 0) = false := decide_eq_false c6
          clear c6
          have H' := Aside0.mk H
          clear H
          go_wp2_with (first | ((with_reducible refine gate_callee (f := 28) rfl ?_); refine goesL_ (some 21) rfl rfl Try.func28 (by kernel_rfl) rfl #[.slice A1 l1.length c1, .int .u32 (((x6_1 + x7_1) % 4294967296) / 2), .int .u32 0] rfl (by (try simp only [List.map_toArray, List.map_cons, List.map_nil]); first | done | rfl | (simp only [List.length_drop, List.length_take]; rfl)) ?_; (with_reducible refine (mul_Small.calls k1 _ _ l1 (((x6_1 + x7_1) % 4294967296) / 2) 0 t130 _ ?side1 ?side2 A4.out).mono ?_); (case side1 => repeat (first | exact (Kd.C_below HR1.out HB.out) | (with_reducible refine Kd.C_alloc ?_ _) | (with_reducible refine Kd.C_drewN ?_ _) | (with_reducible refine Kd.C_drew ?_))); (case side2 => exact HC1.out); rintro e w9 ⟨v131, rfl, ho0, hb⟩; refine ⟨_, rfl, ?_⟩; have n0_ := Aside0.mk (Kd.R_lower ho0 (below_size (by repeat (first | (with_reducible first | exact HB.out | apply below_alloc | apply pw_below_drewN | apply below_drew1) | exact HB.out)))); have n1_ := Aside0.mk (below_step (by repeat (first | (with_reducible first | exact HB.out | apply below_alloc | apply pw_below_drewN | apply below_drew1) | exact HB.out)) hb); clear HB; have HO132 := n0_; have HB := n1_; clear n0_ n1_; (try clear hb); (try clear hb2); (try clear hk); (try clear hi); (try clear ho0); obtain ⟨Ao10, co10, eo10⟩ := Kd.R_slice HO132.out; subst eo10) | ((with_reducible refine gate_callee (f := 27) rfl ?_); refine goesL_ (some 23) rfl rfl Try.func27 (by kernel_rfl) rfl #[.slice Ao10 t130.length co10, .slice A0 l0.length c0] rfl (by (try simp only [List.map_toArray, List.map_cons, List.map_nil]); first | done | rfl | (simp only [List.length_drop, List.length_take]; rfl)) ?_; (with_reducible refine (nat_Cmp.calls _ _ t130 _ _ l0 t133 _ ?side1 ?side2 ?side3 ?side4 A5.out).mono ?_); (case side1 => repeat (first | exact (Kd.R_reads' HO132.out).2.2 | (with_reducible refine Kd.C_alloc ?_ _) | (with_reducible refine Kd.C_drewN ?_ _) | (with_reducible refine Kd.C_drew ?_))); (case side2 => exact (Kd.R_reads' HO132.out).2.1); (case side3 => repeat (first | exact (Kd.C_below HR0.out HB.out) | (with_reducible refine Kd.C_alloc ?_ _) | (with_reducible refine Kd.C_drewN ?_ _) | (with_reducible refine Kd.C_drew ?_))); (case side4 => exact HC0.out); rintro e w' ⟨rfl, ⟨nd, rfl⟩⟩; refine ⟨_, rfl, ?_⟩))
          go_roundg k1
          case measure => have := HK1.out; omega
          case rel => exact ⟨(x6_1), (((x6_1 + x7_1) % 4294967296) / 2), (by first | rfl | (simp; done) | (simp [*]; done) | (simp [*, Fig.bne_nil]; done)), (by first | rfl | (simp; done) | (simp [*]; done) | (simp [*, Fig.bne_nil]; done)), H', ⟨by have := HK1.out; omega⟩, ⟨by repeat (first | (with_reducible first | exact HB.out | apply below_alloc | apply pw_below_drewN | apply below_drew1) | exact HB.out)⟩⟩
      · rw [if_neg c3] at H
        have c3b0 : decide (1 < ((x7_1 - x6_1) % 4294967296)) = false := decide_eq_false c3
        clear c3
        replace H := Option.bind_eq_some_iff.mp H
        obtain ⟨t123, A110, H⟩ := H
        replace H : ((nat_Sub.f l0 t123).bind fun bt126 => (some (x6_1, bt126.1))) = some (r1, r2) := H
        have A11 := Aside0.mk A110
        clear A110
        replace H := Option.bind_eq_some_iff.mp H
        obtain ⟨⟨t126, t127⟩, A120, H⟩ := H
        replace H : (some (x6_1, t126)) = some (r1, r2) := H
        have A12 := Aside0.mk A120
        clear A120
        simp only [Option.some.injEq, Prod.mk.injEq] at H
        obtain ⟨rfl, rfl⟩ := H
        go_wp2_with (first | ((with_reducible refine gate_callee (f := 28) rfl ?_); refine goesL_ (some 31) rfl rfl Try.func28 (by kernel_rfl) rfl #[.slice A1 l1.length c1, .int .u32 x6_1, .int .u32 0] rfl (by (try simp only [List.map_toArray, List.map_cons, List.map_nil]); first | done | rfl | (simp only [List.length_drop, List.length_take]; rfl)) ?_; (with_reducible refine (mul_Small.calls k1 _ _ l1 x6_1 0 t123 _ ?side1 ?side2 A11.out).mono ?_); (case side1 => repeat (first | exact (Kd.C_below HR1.out HB.out) | (with_reducible refine Kd.C_alloc ?_ _) | (with_reducible refine Kd.C_drewN ?_ _) | (with_reducible refine Kd.C_drew ?_))); (case side2 => exact HC1.out); rintro e w13 ⟨v124, rfl, ho0, hb⟩; refine ⟨_, rfl, ?_⟩; have n0_ := Aside0.mk (Kd.R_lower ho0 (below_size (by repeat (first | (with_reducible first | exact HB.out | apply below_alloc | apply pw_below_drewN | apply below_drew1) | exact HB.out)))); have n1_ := Aside0.mk (below_step (by repeat (first | (with_reducible first | exact HB.out | apply below_alloc | apply pw_below_drewN | apply below_drew1) | exact HB.out)) hb); clear HB; have HO125 := n0_; have HB := n1_; clear n0_ n1_; (try clear hb); (try clear hb2); (try clear hk); (try clear hi); (try clear ho0); obtain ⟨Ao14, co14, eo14⟩ := Kd.R_slice HO125.out; subst eo14) | ((with_reducible refine gate_callee (f := 29) rfl ?_); refine goesL_ (some 32) rfl rfl Try.func29 (by kernel_rfl) rfl #[.slice A0 l0.length c0, .slice Ao14 t123.length co14] rfl (by (try simp only [List.map_toArray, List.map_cons, List.map_nil]); first | done | rfl | (simp only [List.length_drop, List.length_take]; rfl)) ?_; (with_reducible refine (nat_Sub.calls _ _ l0 _ _ t123 t126 t127 _ ?side1 ?side2 ?side3 ?side4 A12.out).mono ?_); (case side1 => repeat (first | exact (Kd.C_below HR0.out HB.out) | (with_reducible refine Kd.C_alloc ?_ _) | (with_reducible refine Kd.C_drewN ?_ _) | (with_reducible refine Kd.C_drew ?_))); (case side2 => exact HC0.out); (case side3 => repeat (first | exact (Kd.R_reads' HO125.out).2.2 | (with_reducible refine Kd.C_alloc ?_ _) | (with_reducible refine Kd.C_drewN ?_ _) | (with_reducible refine Kd.C_drew ?_))); (case side4 => exact (Kd.R_reads' HO125.out).2.1); rintro e w15 ⟨v128, rfl, ho0, hb⟩; refine ⟨_, rfl, ?_⟩; have n0_ := Aside0.mk (Kd.R_elder' (by (with_reducible repeat (first | apply Kd.R_alloc | apply Kd.R_drewN | apply Kd.R_drew)); exact HO125.out) (Kd.R_base ho0) hb); have n1_ := Aside0.mk (Kd.R_lower (Kd.R_new' ho0 (Kd.R_lt (by (with_reducible repeat (first | apply Kd.R_alloc | apply Kd.R_drewN | apply Kd.R_drew)); exact HO125.out))) (below_size (by repeat (first | (with_reducible first | exact HB.out | apply below_alloc | apply pw_below_drewN | apply below_drew1) | exact HB.out)))); have n2_ := Aside0.mk (below_step (by repeat (first | (with_reducible first | exact HB.out | apply below_alloc | apply pw_below_drewN | apply below_drew1) | exact HB.out)) hb); clear HO125; clear HB; have HO125 := n0_; have HO129 := n1_; have HB := n2_; clear n0_ n1_ n2_; (try clear hb); (try clear hb2); (try clear hk); (try clear hi); (try clear ho0)))
        go_ret2
        exact ⟨_, by first | rfl | (simp [errW_none, errW_some] <;> rfl) | (simp [*, errW_none, errW_some] <;> rfl), by (with_reducible repeat (first | apply Kd.R_alloc | apply Kd.R_drewN | apply Kd.R_drew)); exact Kd.R_mono HO129.out (fun _ hk => trivial), by repeat (first | (with_reducible first | exact HB.out | apply below_alloc | apply pw_below_drewN | apply below_drew1) | exact HB.out)⟩

end Go.Proofs.Ytnpibnjncjieaaa.Px

namespace Go.Proofs.Ytnpibnjncjieaaa.Px
open Fig Go.RowKit Go.Proofs.YtnpibnjncjieaaaW.PrintWords Go.Proofs.YtnpibnjncjieaaaW.PrintLast Go.Proofs.YtnpibnjncjieaaaW.PrintMore
attribute [local go_sem] max2_int min2_int max_two min_two max_three min_three max_four min_four   -- for this text's walks alone

/-! ### div_DivMod: function 10 -/
def div_DivMod.l0 : Nat → List Int → List Int → List Int → List Int → Int → Option (List Int × List Int × Bool)
  | 0, _, _, _, _, _ => none
  | k + 1, x0, x1, x4, x5, x7 => if x7 ≥ 0 then (if 0 ≤ x7 then (if x7 < (x0.length : Int) then ((some (([rd x0 x7] : List Int) : List Int)).bind fun y141 => (if y141.length + x5.length < 35184372088832 then ((nat_Trim.f (y141 ++ x5)).bind fun t147 => ((div_guess.f k t147 x1).bind fun bt150 => (if x7 < (x4.length : Int) then (div_DivMod.l0 k x0 x1 (x4.set (x7 : Int).toNat bt150.1) bt150.2 (wrap64 (x7 - 1))) else (none)))) else (none))) else (none)) else (none)) else ((nat_Trim.f x4).bind fun t155 => ((nat_Trim.f x5).bind fun t158 => (some (t155, t158, true))))
def div_DivMod.f (k : Nat) (l0 : List Int) (l1 : List Int) : Option (List Int × List Int × Bool) := (nat_Trim.f l1).bind fun t134 => (if (t134.length : Int) = 0 then (some (([] : List Int), ([] : List Int), false)) else (if 0 ≤ (l0.length : Int) then (if ((l0.length : Int) : Int).toNat ≤ 70368744177664 then (div_DivMod.l0 k l0 t134 (List.replicate ((l0.length : Int) : Int).toNat 0) ([] : List Int) (wrap64 ((l0.length : Int) - 1))) else (none)) else (none)))
theorem div_DivMod.mono_l : ∀ k, (∀ y0 y1 y2 y3 y4, LeO (div_DivMod.l0 k y0 y1 y2 y3 y4) (div_DivMod.l0 (k + 1) y0 y1 y2 y3 y4))
  | 0 => fun _ _ _ _ _ r h => by simp [div_DivMod.l0] at h
  | k + 1 => by
    have ih0 := div_DivMod.mono_l k
    · intro y0 y1 y2 y3 y4
      unfold div_DivMod.l0
      repeat' first
      | (with_reducible exact ih0 _ _ _ _ _)
      | (with_reducible exact div_guess.mono _ _ _)
      | (with_reducible exact LeO.refl _)
      | (with_reducible exact LeO.none _)
      | (with_reducible refine LeO.ite ?_ ?_)
      | (with_reducible refine LeO.bind ?_ (fun _ => ?_))
      | exact ih0 _ _ _ _ _
      | exact div_guess.mono _ _ _
      | exact LeO.none _
      | refine LeO.ite ?_ ?_
      | refine LeO.bind ?_ (fun _ => ?_)
theorem div_DivMod.mono : ∀ a0 a1 k, LeO (div_DivMod.f k a0 a1) (div_DivMod.f (k + 1) a0 a1) := by
  intro a0 a1 k
  have ih0 := div_DivMod.mono_l k
  unfold div_DivMod.f
  repeat' first
      | (with_reducible exact ih0 _ _ _ _ _)
      | (with_reducible exact div_guess.mono _ _ _)
      | (with_reducible exact LeO.refl _)
      | (with_reducible exact LeO.none _)
      | (with_reducible refine LeO.ite ?_ ?_)
      | (with_reducible refine LeO.bind ?_ (fun _ => ?_))
      | exact ih0 _ _ _ _ _
      | exact div_guess.mono _ _ _
      | exact LeO.none _
      | refine LeO.ite ?_ ?_
      | refine LeO.bind ?_ (fun _ => ?_)
set_option maxHeartbeats 8000000 in
set_option maxRecDepth 100000 in
theorem div_DivMod.calls (k : Nat) (A0 : Option Addr) (c0 : Nat) (l0 : List Int) (A1 : Option Addr) (c1 : Nat) (l1 : List Int) (r1 : List Int) (r2 : List Int) (r3 : Bool) (w : World) (hr0 : Kd.C (Kd.int .u32) w A0 l0.length l0) (hc0 : l0.length ≤ c0) (hr1 : Kd.C (Kd.int .u32) w A1 l1.length l1) (hc1 : l1.length ≤ c1) (h : div_DivMod.f k l0 l1 = some (r1, r2, r3)) :
    Calls Try.prog 10 #[.slice A0 l0.length c0, .slice A1 l1.length c1] w fun e w' => ∃ v0_ v1_ : Value, e = .returned (.tuple #[v0_, v1_, .bool r3]) ∧ Kd.R (Kd.int .u32) 32 w' w.heap.size (fun k_ => some k_ ≠ (v1_ : Value).ownBlock) v0_ r1 ∧ Kd.R (Kd.int .u32) 32 w' w.heap.size (fun k_ => some k_ ≠ (v0_ : Value).ownBlock) v1_ r2 ∧ Below w.heap.size w w' := by
  have HR0 := Aside0.mk hr0
  have HC0 := Aside0.mk hc0
  clear hr0 hc0
  have HR1 := Aside0.mk hr1
  have HC1 := Aside0.mk hc1
  clear hr1 hc1
  have HB := Aside0.mk (Below.refl w.heap.size w)
  have H : ((nat_Trim.f l1).bind fun t134 => (if (t134.length : Int) = 0 then (some (([] : List Int), ([] : List Int), false)) else (if 0 ≤ (l0.length : Int) then (if ((l0.length : Int) : Int).toNat ≤ 70368744177664 then (div_DivMod.l0 k l0 t134 (List.replicate ((l0.length : Int) : Int).toNat 0) ([] : List Int) (wrap64 ((l0.length : Int) - 1))) else (none)) else (none)))) = some (r1, r2, r3) := h
  clear h
  replace H := Option.bind_eq_some_iff.mp H
  obtain ⟨t134, A30, H⟩ := H
  replace H : (if (t134.length : Int) = 0 then (some (([] : List Int), ([] : List Int), false)) else (if 0 ≤ (l0.length : Int) then (if ((l0.length : Int) : Int).toNat ≤ 70368744177664 then (div_DivMod.l0 k l0 t134 (List.replicate ((l0.length : Int) : Int).toNat 0) ([] : List Int) (wrap64 ((l0.length : Int) - 1))) else (none)) else (none))) = some (r1, r2, r3) := H
  have A3 := Aside0.mk A30
  clear A30
  by_cases c4 : (t134.length : Int) = 0
  · rw [if_pos c4] at H
    have c4b0 : ((t134.length : Int) == 0) = true := beq_iff_eq.mpr c4
    have c4b1 : ((t134.length : Int) != 0) = false := bne_eq_false_iff_eq.mpr c4
    clear c4
    simp only [Option.some.injEq, Prod.mk.injEq] at H
    obtain ⟨rfl, rfl, rfl⟩ := H
    go_enter Try.func10, Try.ntmps10
    go_wp2_with (first | ((with_reducible refine gate_callee (f := 20) rfl ?_); refine goesL_ (some 9) rfl rfl Try.func20 (by kernel_rfl) rfl #[.slice A1 l1.length c1] rfl (by (try simp only [List.map_toArray, List.map_cons, List.map_nil]); first | done | rfl | (simp only [List.length_drop, List.length_take]; rfl)) ?_; (with_reducible refine (nat_Trim.calls _ _ l1 t134 _ ?side1 ?side2 A3.out).mono ?_); (case side1 => repeat (first | exact HR1.out | (with_reducible refine Kd.C_alloc ?_ _) | (with_reducible refine Kd.C_drewN ?_ _) | (with_reducible refine Kd.C_drew ?_))); (case side2 => exact HC1.out); rintro e w5 ⟨v135, rfl, ho0, hb⟩; refine ⟨_, rfl, ?_⟩; have n0_ := Aside0.mk (Kd.R_lower ho0 (below_size (by repeat (first | (with_reducible first | exact HB.out | apply below_alloc | apply pw_below_drewN | apply below_drew1) | exact HB.out)))); have n1_ := Aside0.mk (below_step (by repeat (first | (with_reducible first | exact HB.out | apply below_alloc | apply pw_below_drewN | apply below_drew1) | exact HB.out)) hb); clear HB; have HO136 := n0_; have HB := n1_; clear n0_ n1_; (try clear hb); (try clear hb2); (try clear hk); (try clear hi); (try clear ho0); obtain ⟨Ao6, co6, eo6⟩ := Kd.R_slice HO136.out; subst eo6))
    go_ret3
    exact ⟨_, _, by first | rfl | (simp [errW_none, errW_some] <;> rfl) | (simp [*, errW_none, errW_some] <;> rfl), by first | exact Kd.R_nil _ _ _ _ _ | exact Kd.N_nil _ _ _ _ _ | exact Kd.V_nil _ _ _ _ _ | exact Kd.Q_nil _ _ _ _ _ | exact Kd.S_nil _ _ _ _ _, by first | exact Kd.R_nil _ _ _ _ _ | exact Kd.N_nil _ _ _ _ _ | exact Kd.V_nil _ _ _ _ _ | exact Kd.Q_nil _ _ _ _ _ | exact Kd.S_nil _ _ _ _ _, by repeat (first | (with_reducible first | exact HB.out | apply below_alloc | apply pw_below_drewN | apply below_drew1) | exact HB.out)⟩
  · rw [if_neg c4] at H
    have c4b0 : ((t134.length : Int) == 0) = false := beq_eq_false_iff_ne.mpr c4
    have c4b1 : ((t134.length : Int) != 0) = true := bne_iff_ne.mpr c4
    have c4b2 : ¬ (t134 = []) := fun h_ => c4 (by rw [h_]; rfl)
    by_cases c7 : 0 ≤ (l0.length : Int)
    · rw [if_pos c7] at H
      have c7b0 := eq_true c7
      have c7b1 : decide (0 ≤ (l0.length : Int)) = true := decide_eq_true c7
      clear c7
      by_cases c8 : ((l0.length : Int) : Int).toNat ≤ 70368744177664
      · rw [if_pos c8] at H
        have c8b0 := eq_true c8
        have c8b1 : decide (((l0.length : Int) : Int).toNat ≤ 70368744177664) = true := decide_eq_true c8
        clear c8
        obtain ⟨y137, hy137⟩ : ∃ y_ : List Int, y_ = (List.replicate ((l0.length : Int) : Int).toNat 0) := ⟨_, rfl⟩
        replace H : (div_DivMod.l0 k l0 t134 y137 ([] : List Int) (wrap64 ((l0.length : Int) - 1))) = some (r1, r2, r3) := by first | (rw [hy137]; with_reducible exact H) | (have H2_ := (Option.bind_some _ _).symm.trans H; rw [hy137]; with_reducible exact H2_) | (have H2_ := (Option.bind_some _ _).symm.trans H; with_reducible exact H2_) | with_reducible exact H | (rw [hy137]; exact H) | exact H
        have Ny137 := Aside0.mk hy137
        clear hy137
        have H' := Aside0.mk H
        clear H
        go_enter Try.func10, Try.ntmps10
        go_wp2_with (first | ((with_reducible refine gate_callee (f := 20) rfl ?_); refine goesL_ (some 9) rfl rfl Try.func20 (by kernel_rfl) rfl #[.slice A1 l1.length c1] rfl (by (try simp only [List.map_toArray, List.map_cons, List.map_nil]); first | done | rfl | (simp only [List.length_drop, List.length_take]; rfl)) ?_; (with_reducible refine (nat_Trim.calls _ _ l1 t134 _ ?side1 ?side2 A3.out).mono ?_); (case side1 => repeat (first | exact HR1.out | (with_reducible refine Kd.C_alloc ?_ _) | (with_reducible refine Kd.C_drewN ?_ _) | (with_reducible refine Kd.C_drew ?_))); (case side2 => exact HC1.out); rintro e w9 ⟨v135, rfl, ho0, hb⟩; refine ⟨_, rfl, ?_⟩; have n0_ := Aside0.mk (Kd.R_lower ho0 (below_size (by repeat (first | (with_reducible first | exact HB.out | apply below_alloc | apply pw_below_drewN | apply below_drew1) | exact HB.out)))); have n1_ := Aside0.mk (below_step (by repeat (first | (with_reducible first | exact HB.out | apply below_alloc | apply pw_below_drewN | apply below_drew1) | exact HB.out)) hb); clear HB; have HO136 := n0_; have HB := n1_; clear n0_ n1_; (try clear hb); (try clear hb2); (try clear hk); (try clear hi); (try clear ho0); obtain ⟨Ao10, co10, eo10⟩ := Kd.R_slice HO136.out; subst eo10) | ((with_reducible refine gate_dst (N := 15) rfl ?_); refine Kd.R_make (Kd.int .u32) _ 32 rfl (N := 15) rfl 22 _ _ rfl (l0.length : Int) rfl rfl Try.underlying22 (.int .u32 0) 4 info32 rfl (by decide) (by omega) 0 (ok := fun _ => True) (okp := fun _ => True) rfl (fun _ hk => hk) trivial (of_decide_eq_true (by first | (with_reducible assumption) | assumption)) (Nat.le_trans (Nat.mul_le_mul_right _ (of_decide_eq_true (by first | (with_reducible assumption) | assumption) : (l0.length : Int).toNat ≤ 70368744177664)) (by omega)) (Below.refl _ _) (Nat.le_refl _) ?_; intro v138 w11 ho12 hb hg_ hnew_; clear hg_ hnew_; (first | rw [← Ny137.out] at ho12 | (simp only [Int.reduceToNat] at ho12; rw [← Ny137.out] at ho12)); have n0_ := Aside0.mk (Kd.R_elder' (by (with_reducible repeat (first | apply Kd.R_alloc | apply Kd.R_drewN | apply Kd.R_drew)); exact HO136.out) (Kd.R_base ho12) hb); have n1_ := Aside0.mk (Kd.R_lower (Kd.R_new' ho12 (Kd.R_lt (by (with_reducible repeat (first | apply Kd.R_alloc | apply Kd.R_drewN | apply Kd.R_drew)); exact HO136.out))) (below_size (by repeat (first | (with_reducible first | exact HB.out | apply below_alloc | apply pw_below_drewN | apply below_drew1) | exact HB.out)))); have n2_ := Aside0.mk (below_step (by repeat (first | (with_reducible first | exact HB.out | apply below_alloc | apply pw_below_drewN | apply below_drew1) | exact HB.out)) hb); clear HO136; clear HB; have HO136 := n0_; have HO139 := n1_; have HB := n2_; clear n0_ n1_ n2_; clear hb ho12))
        go_loopg [5, 7] k (fun kq v5 v7 w' => ∃ (x4_1 : List Int) (x5_1 : List Int) (x7_1 : Int), v7 = .int .i64 x7_1 ∧ Aside0 (div_DivMod.l0 kq l0 t134 x4_1 x5_1 x7_1 = some (r1, r2, r3)) ∧ Aside0 (kq ≤ k) ∧ Aside0 (Kd.R (Kd.int .u32) 32 w' w.heap.size (fun k_ => some k_ ≠ (v138 : Value).ownBlock ∧ some k_ ≠ (v5 : Value).ownBlock) (.slice Ao10 t134.length co10) t134) ∧ Aside0 (Kd.R (Kd.int .u32) 32 w' w.heap.size (fun k_ => some k_ ≠ ((.slice Ao10 t134.length co10) : Value).ownBlock ∧ some k_ ≠ (v5 : Value).ownBlock) v138 x4_1) ∧ Aside0 (Kd.R (Kd.int .u32) 32 w' w.heap.size (fun k_ => some k_ ≠ ((.slice Ao10 t134.length co10) : Value).ownBlock ∧ some k_ ≠ (v138 : Value).ownBlock) v5 x5_1) ∧ Aside0 (Below w.heap.size w w'))
        case atStart => exact ⟨(y137), (([] : List Int)), (wrap64 ((l0.length : Int) - 1)), (by first | rfl | (simp; done) | (simp [*]; done) | (simp [*, Fig.bne_nil]; done)), H', ⟨Nat.le_refl _⟩, ⟨by (with_reducible repeat (first | apply Kd.R_alloc | apply Kd.R_drewN | apply Kd.R_drew)); exact Kd.R_mono HO136.out (fun _ hk => ⟨hk.2, (by simp [Value.ownBlock])⟩)⟩, ⟨by (with_reducible repeat (first | apply Kd.R_alloc | apply Kd.R_drewN | apply Kd.R_drew)); exact Kd.R_mono HO139.out (fun _ hk => ⟨hk.2, (by simp [Value.ownBlock])⟩)⟩, ⟨by first | exact Kd.R_nil _ _ _ _ _ | exact Kd.N_nil _ _ _ _ _ | exact Kd.V_nil _ _ _ _ _ | exact Kd.Q_nil _ _ _ _ _ | exact Kd.S_nil _ _ _ _ _⟩, ⟨by repeat (first | (with_reducible first | exact HB.out | apply below_alloc | apply pw_below_drewN | apply below_drew1) | exact HB.out)⟩⟩
        case round =>
          clear H'
          try clear c1
          try clear c2
          try clear p2
          try clear c4
          try clear c4b0
          try clear c4b1
          try clear c4b2
          try clear p6
          try clear c7
          try clear c7b0
          try clear c7b1
          try clear c8
          try clear c8b0
          try clear c8b1
          try clear c10
          obtain ⟨x4_1, x5_1, x7_1, rfl, HA, HK1, HO_1, HO_4, HO_5, HB⟩ := hrel
          cases gk with
          | zero => exact absurd HA.out (by simp [div_DivMod.l0])
          | succ k1 =>
            have H := HA.out
            clear HA
            simp only [div_DivMod.l0] at H
            by_cases c13 : x7_1 ≥ 0
            · rw [if_pos c13] at H
              have c13b0 : decide (0 ≤ x7_1) = true := decide_eq_true c13
              clear c13
              by_cases c14 : 0 ≤ x7_1
              · rw [if_pos c14] at H
                have c14b0 : decide (0 ≤ x7_1) = true := decide_eq_true c14
                clear c14
                by_cases c15 : x7_1 < (l0.length : Int)
                · rw [if_pos c15] at H
                  have c15b0 : decide (x7_1 < (l0.length : Int)) = true := decide_eq_true c15
                  clear c15
                  obtain ⟨y141, hy141⟩ : ∃ y_ : List Int, y_ = (([rd l0 x7_1] : List Int)) := ⟨_, rfl⟩
                  replace H : (if y141.length + x5_1.length < 35184372088832 then ((nat_Trim.f (y141 ++ x5_1)).bind fun t147 => ((div_guess.f k1 t147 t134).bind fun bt150 => (if x7_1 < (x4_1.length : Int) then (div_DivMod.l0 k1 l0 t134 (x4_1.set (x7_1 : Int).toNat bt150.1) bt150.2 (wrap64 (x7_1 - 1))) else (none)))) else (none)) = some (r1, r2, r3) := by first | (rw [hy141]; with_reducible exact H) | (have H2_ := (Option.bind_some _ _).symm.trans H; rw [hy141]; with_reducible exact H2_) | (have H2_ := (Option.bind_some _ _).symm.trans H; with_reducible exact H2_) | with_reducible exact H | (rw [hy141]; exact H) | exact H
                  have Ny141 := Aside0.mk hy141
                  clear hy141
                  by_cases c16 : y141.length + x5_1.length < 35184372088832
                  · rw [if_pos c16] at H
                    have LMc16 := Aside0.mk c16
                    clear c16
                    obtain ⟨y144, hy144⟩ : ∃ y_ : List Int, y_ = (y141 ++ x5_1) := ⟨_, rfl⟩
                    replace H : ((nat_Trim.f y144).bind fun t147 => ((div_guess.f k1 t147 t134).bind fun bt150 => (if x7_1 < (x4_1.length : Int) then (div_DivMod.l0 k1 l0 t134 (x4_1.set (x7_1 : Int).toNat bt150.1) bt150.2 (wrap64 (x7_1 - 1))) else (none)))) = some (r1, r2, r3) := by first | (rw [hy144]; with_reducible exact H) | (have H2_ := (Option.bind_some _ _).symm.trans H; rw [hy144]; with_reducible exact H2_) | (have H2_ := (Option.bind_some _ _).symm.trans H; with_reducible exact H2_) | with_reducible exact H | (rw [hy144]; exact H) | exact H
                    have Ny144 := Aside0.mk hy144
                    clear hy144
                    replace H := Option.bind_eq_some_iff.mp H
                    obtain ⟨t147, A170, H⟩ := H
                    replace H : ((div_guess.f k1 t147 t134).bind fun bt150 => (if x7_1 < (x4_1.length : Int) then (div_DivMod.l0 k1 l0 t134 (x4_1.set (x7_1 : Int).toNat bt150.1) bt150.2 (wrap64 (x7_1 - 1))) else (none))) = some (r1, r2, r3) := H
                    have A17 := Aside0.mk A170
                    clear A170
                    replace H := Option.bind_eq_some_iff.mp H
                    obtain ⟨⟨t150, t151⟩, A180, H⟩ := H
                    replace H : (if x7_1 < (x4_1.length : Int) then (div_DivMod.l0 k1 l0 t134 (x4_1.set (x7_1 : Int).toNat t150) t151 (wrap64 (x7_1 - 1))) else (none)) = some (r1, r2, r3) := H
                    have A18 := Aside0.mk A180
                    clear A180
                    by_cases c19 : x7_1 < (x4_1.length : Int)
                    · rw [if_pos c19] at H
                      have c19b0 : decide (x7_1 < (x4_1.length : Int)) = true := decide_eq_true c19
                      clear c19
                      obtain ⟨y154, hy154⟩ : ∃ y_ : List Int, y_ = (x4_1.set (x7_1 : Int).toNat t150) := ⟨_, rfl⟩
                      replace H : (div_DivMod.l0 k1 l0 t134 y154 t151 (wrap64 (x7_1 - 1))) = some (r1, r2, r3) := by first | (rw [hy154]; with_reducible exact H) | (have H2_ := (Option.bind_some _ _).symm.trans H; rw [hy154]; with_reducible exact H2_) | (have H2_ := (Option.bind_some _ _).symm.trans H; with_reducible exact H2_) | with_reducible exact H | (rw [hy154]; exact H) | exact H
                      have Ny154 := Aside0.mk hy154
                      clear hy154
                      have H' := Aside0.mk H
                      clear H
                      have p140 : 0 ≤ (x7_1 : Int) := of_decide_eq_true (by first | (with_reducible assumption) | assumption)
                      have q140 : x7_1 < (l0.length : Int) := of_decide_eq_true (by first | (with_reducible assumption) | assumption)
                      obtain ⟨ad140, e140, hx140_0⟩ := Kd.at_int HR0.out x7_1 p140 q140
                      cases e140
                      replace hx140_0 := (HB.out.cell (World.block_lt_of_cell? w _ hx140_0)).trans hx140_0
                      replace p140 := eq_true p140
                      replace q140 := eq_true q140
                      go_wp2_with (first | ((with_reducible refine gate_dst (N := 27) rfl ?_); refine Kd.R_lit (Kd.int .u32) _ 32 ?hg (N := 27) ?hd (xs := ([rd l0 x7_1] : List Int)) (inner := [.int .u32 (rd l0 x7_1)]) (ok := fun _ => True) (okp := fun _ => True) ?hr ?hp (fun _ hk => hk) trivial (Below.refl _ _) (Nat.le_refl _) (by simp) ?_; (case hd => rfl); (case hg => rfl); (case hr => first | (go_simp; done) | (go_simp; rfl)); (case hp => exact (Reps.one (show Kd.M (Kd.int .u32) _ _ _ (rd l0 x7_1) [.int .u32 (rd l0 x7_1)] from rfl) (Reps.none _ _))); intro v142 w21 ho22 hb hg_ hnew_; clear hg_ hnew_; (first | rw [← Ny141.out] at ho22 | (simp only [Int.reduceToNat] at ho22; rw [← Ny141.out] at ho22)); have n0_ := Aside0.mk (Kd.R_elder' (by (with_reducible repeat (first | apply Kd.R_alloc | apply Kd.R_drewN | apply Kd.R_drew)); exact HO_1.out) (Kd.R_base ho22) hb); have n1_ := Aside0.mk (Kd.R_elder' (by (with_reducible repeat (first | apply Kd.R_alloc | apply Kd.R_drewN | apply Kd.R_drew)); exact HO_4.out) (Kd.R_base ho22) hb); have n2_ := Aside0.mk (Kd.R_elder' (by (with_reducible repeat (first | apply Kd.R_alloc | apply Kd.R_drewN | apply Kd.R_drew)); exact HO_5.out) (Kd.R_base ho22) hb); have n3_ := Aside0.mk (Kd.R_lower (Kd.R_new' (Kd.R_new' (Kd.R_new' ho22 (Kd.R_lt (by (with_reducible repeat (first | apply Kd.R_alloc | apply Kd.R_drewN | apply Kd.R_drew)); exact HO_1.out))) (Kd.R_lt (by (with_reducible repeat (first | apply Kd.R_alloc | apply Kd.R_drewN | apply Kd.R_drew)); exact HO_4.out))) (Kd.R_lt (by (with_reducible repeat (first | apply Kd.R_alloc | apply Kd.R_drewN | apply Kd.R_drew)); exact HO_5.out))) (below_size (by repeat (first | (with_reducible first | exact HB.out | apply below_alloc | apply pw_below_drewN | apply below_drew1) | exact HB.out)))); have n4_ := Aside0.mk (below_step (by repeat (first | (with_reducible first | exact HB.out | apply below_alloc | apply pw_below_drewN | apply below_drew1) | exact HB.out)) hb); clear HO_1; clear HO_4; clear HO_5; clear HB; have HO_1 := n0_; have HO_4 := n1_; have HO_5 := n2_; have HO143 := n3_; have HB := n4_; clear n0_ n1_ n2_ n3_ n4_; clear hb ho22; obtain ⟨Ao24, co24, eo24⟩ := Kd.R_slice HO_5.out; subst eo24) | ((with_reducible refine gate_builtin (b := .append) (xs := #[.tmp 27, .tmp 28]) rfl ?_); at_builtin; refine Kd.R_append_rows (Kd.int .u32) (w0 := w) w.heap.size rfl (.tmp 27) (.tmp 28) 22 32 (.int .u32 0) 4 rfl Try.underlying22 info32 rfl (by decide) (by omega) v142 y141 x5_1 _ _ _ (fun k_ => some k_ ≠ (.slice Ao10 t134.length co10 : Value).ownBlock ∧ some k_ ≠ (v138 : Value).ownBlock ∧ some k_ ≠ (.slice Ao24 x5_1.length co24 : Value).ownBlock) (fun _ => False) rfl rfl ?aO ?aR (fun _ _ h => h) (fun _ h => h.elim) ?aF ?aB ?aS ?aL ?_; (case aR => repeat (first | exact (Kd.R_reads' HO_5.out).2.2 | (with_reducible refine Kd.C_alloc ?_ _) | (with_reducible refine Kd.C_drewN ?_ _) | (with_reducible refine Kd.C_drew ?_))); (case aB => exact (by repeat (first | (with_reducible first | exact HB.out | apply below_alloc | apply pw_below_drewN | apply below_drew1) | exact HB.out))); (case aF => exact (fun k_ hk => ⟨Kd.fresh' (Kd.R_lt (by (with_reducible repeat (first | apply Kd.R_alloc | apply Kd.R_drewN | apply Kd.R_drew)); exact HO_1.out)) k_ hk, Kd.fresh' (Kd.R_lt (by (with_reducible repeat (first | apply Kd.R_alloc | apply Kd.R_drewN | apply Kd.R_drew)); exact HO_4.out)) k_ hk, Kd.fresh' (Kd.R_lt (by (with_reducible repeat (first | apply Kd.R_alloc | apply Kd.R_drewN | apply Kd.R_drew)); exact HO_5.out)) k_ hk⟩)); (case aO => exact (by (with_reducible repeat (first | apply Kd.R_alloc | apply Kd.R_drewN | apply Kd.R_drew)); exact Kd.R_mono HO143.out (fun _ hk => ⟨hk.1.1.2, ⟨hk.1.2, hk.2⟩⟩))); (case aS => exact (below_size (by repeat (first | (with_reducible first | exact HB.out | apply below_alloc | apply pw_below_drewN | apply below_drew1) | exact HB.out)))); (case aL => have := LMc16.out; omega); intro v145 w23 ho hb hg hat; rw [← Ny144.out] at ho; have n0_ := Aside0.mk (Kd.R_after (ok := (fun k_ => some k_ ≠ (v138 : Value).ownBlock ∧ some k_ ≠ (.slice Ao24 x5_1.length co24 : Value).ownBlock)) (by (with_reducible repeat (first | apply Kd.R_alloc | apply Kd.R_drewN | apply Kd.R_drew)); exact HO_1.out) hg hat); have n1_ := Aside0.mk (Kd.R_after (ok := (fun k_ => some k_ ≠ (.slice Ao10 t134.length co10 : Value).ownBlock ∧ some k_ ≠ (.slice Ao24 x5_1.length co24 : Value).ownBlock)) (by (with_reducible repeat (first | apply Kd.R_alloc | apply Kd.R_drewN | apply Kd.R_drew)); exact HO_4.out) hg hat); have n2_ := Aside0.mk (Kd.R_after (ok := (fun k_ => some k_ ≠ (.slice Ao10 t134.length co10 : Value).ownBlock ∧ some k_ ≠ (v138 : Value).ownBlock)) (by (with_reducible repeat (first | apply Kd.R_alloc | apply Kd.R_drewN | apply Kd.R_drew)); exact HO_5.out) hg hat); have n3_ := Aside0.mk (hb); have n4_ := Aside0.mk (ho); clear HO_1; clear HO_4; clear HO_5; clear HB; clear HO143; have HO_1 := n0_; have HO_4 := n1_; have HO_5 := n2_; have HB := n3_; have HO146 := n4_; clear n0_ n1_ n2_ n3_ n4_; clear ho hb hg hat; obtain ⟨Ao25, co25, eo25⟩ := Kd.R_slice HO146.out; subst eo25) | ((with_reducible refine gate_callee (f := 20) rfl ?_); refine goesL_ (some 30) rfl rfl Try.func20 (by kernel_rfl) rfl #[.slice Ao25 y144.length co25] rfl (by (try simp only [List.map_toArray, List.map_cons, List.map_nil]); first | done | rfl | (simp only [List.length_drop, List.length_take]; rfl)) ?_; (with_reducible refine (nat_Trim.calls _ _ y144 t147 _ ?side1 ?side2 A17.out).mono ?_); (case side1 => repeat (first | exact (Kd.R_reads' HO146.out).2.2 | (with_reducible refine Kd.C_alloc ?_ _) | (with_reducible refine Kd.C_drewN ?_ _) | (with_reducible refine Kd.C_drew ?_))); (case side2 => exact (Kd.R_reads' HO146.out).2.1); rintro e w26 ⟨v148, rfl, ho0, hb⟩; refine ⟨_, rfl, ?_⟩; have n0_ := Aside0.mk (Kd.R_elder' (by (with_reducible repeat (first | apply Kd.R_alloc | apply Kd.R_drewN | apply Kd.R_drew)); exact HO_1.out) (Kd.R_base ho0) hb); have n1_ := Aside0.mk (Kd.R_elder' (by (with_reducible repeat (first | apply Kd.R_alloc | apply Kd.R_drewN | apply Kd.R_drew)); exact HO_4.out) (Kd.R_base ho0) hb); have n2_ := Aside0.mk (Kd.R_elder' (by (with_reducible repeat (first | apply Kd.R_alloc | apply Kd.R_drewN | apply Kd.R_drew)); exact HO_5.out) (Kd.R_base ho0) hb); have n3_ := Aside0.mk (Kd.R_elder' (by (with_reducible repeat (first | apply Kd.R_alloc | apply Kd.R_drewN | apply Kd.R_drew)); exact HO146.out) (Kd.R_base ho0) hb); have n4_ := Aside0.mk (Kd.R_lower (Kd.R_new' (Kd.R_new' (Kd.R_new' (Kd.R_new' ho0 (Kd.R_lt (by (with_reducible repeat (first | apply Kd.R_alloc | apply Kd.R_drewN | apply Kd.R_drew)); exact HO_1.out))) (Kd.R_lt (by (with_reducible repeat (first | apply Kd.R_alloc | apply Kd.R_drewN | apply Kd.R_drew)); exact HO_4.out))) (Kd.R_lt (by (with_reducible repeat (first | apply Kd.R_alloc | apply Kd.R_drewN | apply Kd.R_drew)); exact HO_5.out))) (Kd.R_lt (by (with_reducible repeat (first | apply Kd.R_alloc | apply Kd.R_drewN | apply Kd.R_drew)); exact HO146.out))) (below_size (by repeat (first | (with_reducible first | exact HB.out | apply below_alloc | apply pw_below_drewN | apply below_drew1) | exact HB.out)))); have n5_ := Aside0.mk (below_step (by repeat (first | (with_reducible first | exact HB.out | apply below_alloc | apply pw_below_drewN | apply below_drew1) | exact HB.out)) hb); clear HO_1; clear HO_4; clear HO_5; clear HO146; clear HB; have HO_1 := n0_; have HO_4 := n1_; have HO_5 := n2_; have HO146 := n3_; have HO149 := n4_; have HB := n5_; clear n0_ n1_ n2_ n3_ n4_ n5_; (try clear hb); (try clear hb2); (try clear hk); (try clear hi); (try clear ho0); obtain ⟨Ao27, co27, eo27⟩ := Kd.R_slice HO149.out; subst eo27) | ((with_reducible refine gate_callee (f := 21) rfl ?_); refine goesL_ (some 36) rfl rfl Try.func21 (by kernel_rfl) rfl #[.slice Ao27 t147.length co27, .slice Ao10 t134.length co10] rfl (by (try simp only [List.map_toArray, List.map_cons, List.map_nil]); first | done | rfl | (simp only [List.length_drop, List.length_take]; rfl)) ?_; (with_reducible refine (div_guess.calls k1 _ _ t147 _ _ t134 t150 t151 _ ?side1 ?side2 ?side3 ?side4 A18.out).mono ?_); (case side1 => repeat (first | exact (Kd.R_reads' HO149.out).2.2 | (with_reducible refine Kd.C_alloc ?_ _) | (with_reducible refine Kd.C_drewN ?_ _) | (with_reducible refine Kd.C_drew ?_))); (case side2 => exact (Kd.R_reads' HO149.out).2.1); (case side3 => repeat (first | exact (Kd.R_reads' HO_1.out).2.2 | (with_reducible refine Kd.C_alloc ?_ _) | (with_reducible refine Kd.C_drewN ?_ _) | (with_reducible refine Kd.C_drew ?_))); (case side4 => exact (Kd.R_reads' HO_1.out).2.1); rintro e w28 ⟨v152, rfl, ho0, hb⟩; refine ⟨_, rfl, ?_⟩; have n0_ := Aside0.mk (Kd.R_elder' (by (with_reducible repeat (first | apply Kd.R_alloc | apply Kd.R_drewN | apply Kd.R_drew)); exact HO_1.out) (Kd.R_base ho0) hb); have n1_ := Aside0.mk (Kd.R_elder' (by (with_reducible repeat (first | apply Kd.R_alloc | apply Kd.R_drewN | apply Kd.R_drew)); exact HO_4.out) (Kd.R_base ho0) hb); have n2_ := Aside0.mk (Kd.R_elder' (by (with_reducible repeat (first | apply Kd.R_alloc | apply Kd.R_drewN | apply Kd.R_drew)); exact HO_5.out) (Kd.R_base ho0) hb); have n3_ := Aside0.mk (Kd.R_elder' (by (with_reducible repeat (first | apply Kd.R_alloc | apply Kd.R_drewN | apply Kd.R_drew)); exact HO146.out) (Kd.R_base ho0) hb); have n4_ := Aside0.mk (Kd.R_elder' (by (with_reducible repeat (first | apply Kd.R_alloc | apply Kd.R_drewN | apply Kd.R_drew)); exact HO149.out) (Kd.R_base ho0) hb); have n5_ := Aside0.mk (Kd.R_lower (Kd.R_new' (Kd.R_new' (Kd.R_new' (Kd.R_new' (Kd.R_new' ho0 (Kd.R_lt (by (with_reducible repeat (first | apply Kd.R_alloc | apply Kd.R_drewN | apply Kd.R_drew)); exact HO_1.out))) (Kd.R_lt (by (with_reducible repeat (first | apply Kd.R_alloc | apply Kd.R_drewN | apply Kd.R_drew)); exact HO_4.out))) (Kd.R_lt (by (with_reducible repeat (first | apply Kd.R_alloc | apply Kd.R_drewN | apply Kd.R_drew)); exact HO_5.out))) (Kd.R_lt (by (with_reducible repeat (first | apply Kd.R_alloc | apply Kd.R_drewN | apply Kd.R_drew)); exact HO146.out))) (Kd.R_lt (by (with_reducible repeat (first | apply Kd.R_alloc | apply Kd.R_drewN | apply Kd.R_drew)); exact HO149.out))) (below_size (by repeat (first | (with_reducible first | exact HB.out | apply below_alloc | apply pw_below_drewN | apply below_drew1) | exact HB.out)))); have n6_ := Aside0.mk (below_step (by repeat (first | (with_reducible first | exact HB.out | apply below_alloc | apply pw_below_drewN | apply below_drew1) | exact HB.out)) hb); clear HO_1; clear HO_4; clear HO_5; clear HO146; clear HO149; clear HB; have HO_1 := n0_; have HO_4 := n1_; have HO_5 := n2_; have HO146 := n3_; have HO149 := n4_; have HO153 := n5_; have HB := n6_; clear n0_ n1_ n2_ n3_ n4_ n5_ n6_; (try clear hb); (try clear hb2); (try clear hk); (try clear hi); (try clear ho0); have p20 : 0 ≤ (x7_1 : Int) := of_decide_eq_true (by first | (with_reducible assumption) | assumption); have q20 : (x7_1 : Int) < ((x4_1.length : Int) : Int) := of_decide_eq_true (by first | (with_reducible assumption) | assumption); obtain ⟨go20, co20, eo20, gb20, gl20, cl20, HG20⟩ := Kd.R_form HO_4.out (by omega); (first | cases eo20 | (injection eo20 with ea_ en_ ec_; (first | subst ea_ | (injection ea_ with ea_; subst ea_)); subst ec_; clear en_)); have GB20 := Aside0.mk gb20; have GG20 := Aside0.mk HG20; clear gb20 gl20 HG20; obtain ⟨hx20_0, hf20_0⟩ := Kd.R_celln 0 HO_4.out (x7_1 : Int) p20 q20; replace p20 := eq_true p20; replace q20 := eq_true q20; have n_ := Aside0.mk (Kd.R_mono (ok' := (fun k_ => some k_ ≠ (.slice Ao10 t134.length co10 : Value).ownBlock ∧ some k_ ≠ (.slice Ao24 x5_1.length co24 : Value).ownBlock ∧ some k_ ≠ (.slice Ao25 y144.length co25 : Value).ownBlock ∧ some k_ ≠ (.slice Ao27 t147.length co27 : Value).ownBlock ∧ some k_ ≠ (v152 : Value).ownBlock)) HO_4.out (fun k_ hk => ⟨hk.1.1.1.1, ⟨hk.1.1.1.2, ⟨hk.1.1.2, ⟨hk.1.2, hk.2⟩⟩⟩⟩)); clear HO_4; have HO_4 := n_; clear n_; obtain ⟨hy29_, hz29_⟩ := Kd.R_celln 0 HO_4.out (x7_1 : Int) (of_decide_eq_true (by first | (with_reducible assumption) | assumption)) (of_decide_eq_true (by first | (with_reducible assumption) | assumption)); have HP29 := Kd.R_putg HO_4.out (x7_1 : Int) t150) | ((with_reducible refine gate_store (t := 32) (p := 39) rfl ?_); refine store_event (t := 32) (p := 39) (v := ?vo_w30) (w1 := (w28.setCell ⟨go20, (x7_1 : Int).toNat, none⟩ (.int .u32 t150))) ?hg ?ho ?hn ?hr ?_; (case ho => rfl); (case hg => rfl); (case hn => rfl); (case hr => first | (go_simp; done) | (go_simp; rfl)); intro w30 hw; have hg : w28.grownBy w30 (some go20) := (by rw [hw]; exact HP29.2); have hp_ : Kd.R (Kd.int .u32) 32 w30 w.heap.size (fun k_ => some k_ ≠ (.slice Ao10 t134.length co10 : Value).ownBlock ∧ some k_ ≠ (.slice Ao24 x5_1.length co24 : Value).ownBlock ∧ some k_ ≠ (.slice Ao25 y144.length co25 : Value).ownBlock ∧ some k_ ≠ (.slice Ao27 t147.length co27 : Value).ownBlock ∧ some k_ ≠ (v152 : Value).ownBlock) (.slice (some ⟨go20, 0, none⟩) x4_1.length co20) y154 := (by rw [hw, Ny154.out]; exact HP29.1); clear HP29; have n0_ := Aside0.mk (Kd.R_after (v := (.slice (some ⟨go20, 0, none⟩) x4_1.length co20)) (v1 := (.slice (some ⟨go20, 0, none⟩) x4_1.length co20)) (ok := (fun k_ => some k_ ≠ (.slice Ao24 x5_1.length co24 : Value).ownBlock ∧ some k_ ≠ (.slice Ao25 y144.length co25 : Value).ownBlock ∧ some k_ ≠ (.slice Ao27 t147.length co27 : Value).ownBlock ∧ some k_ ≠ (v152 : Value).ownBlock)) (by (with_reducible repeat (first | apply Kd.R_alloc | apply Kd.R_drewN | apply Kd.R_drew)); exact Kd.R_mono HO_1.out (fun _ hk => ⟨⟨hk.1.1.1.2, ⟨hk.1.1.2, ⟨hk.1.2, hk.2⟩⟩⟩, hk.1.1.1.1⟩)) hg (.inl rfl)); have n1_ := Aside0.mk (hp_); have n2_ := Aside0.mk (Kd.R_after (v := (.slice (some ⟨go20, 0, none⟩) x4_1.length co20)) (v1 := (.slice (some ⟨go20, 0, none⟩) x4_1.length co20)) (ok := (fun k_ => some k_ ≠ (.slice Ao10 t134.length co10 : Value).ownBlock ∧ some k_ ≠ (.slice Ao25 y144.length co25 : Value).ownBlock ∧ some k_ ≠ (.slice Ao27 t147.length co27 : Value).ownBlock ∧ some k_ ≠ (v152 : Value).ownBlock)) (by (with_reducible repeat (first | apply Kd.R_alloc | apply Kd.R_drewN | apply Kd.R_drew)); exact Kd.R_mono HO_5.out (fun _ hk => ⟨⟨hk.1.1.1.1, ⟨hk.1.1.2, ⟨hk.1.2, hk.2⟩⟩⟩, hk.1.1.1.2⟩)) hg (.inl rfl)); have n3_ := Aside0.mk (Kd.R_after (v := (.slice (some ⟨go20, 0, none⟩) x4_1.length co20)) (v1 := (.slice (some ⟨go20, 0, none⟩) x4_1.length co20)) (ok := (fun k_ => some k_ ≠ (.slice Ao10 t134.length co10 : Value).ownBlock ∧ some k_ ≠ (.slice Ao24 x5_1.length co24 : Value).ownBlock ∧ some k_ ≠ (.slice Ao27 t147.length co27 : Value).ownBlock ∧ some k_ ≠ (v152 : Value).ownBlock)) (by (with_reducible repeat (first | apply Kd.R_alloc | apply Kd.R_drewN | apply Kd.R_drew)); exact Kd.R_mono HO146.out (fun _ hk => ⟨⟨hk.1.1.1, ⟨hk.1.1.2.2, ⟨hk.1.2, hk.2⟩⟩⟩, hk.1.1.2.1⟩)) hg (.inl rfl)); have n4_ := Aside0.mk (Kd.R_after (v := (.slice (some ⟨go20, 0, none⟩) x4_1.length co20)) (v1 := (.slice (some ⟨go20, 0, none⟩) x4_1.length co20)) (ok := (fun k_ => some k_ ≠ (.slice Ao10 t134.length co10 : Value).ownBlock ∧ some k_ ≠ (.slice Ao24 x5_1.length co24 : Value).ownBlock ∧ some k_ ≠ (.slice Ao25 y144.length co25 : Value).ownBlock ∧ some k_ ≠ (v152 : Value).ownBlock)) (by (with_reducible repeat (first | apply Kd.R_alloc | apply Kd.R_drewN | apply Kd.R_drew)); exact Kd.R_mono HO149.out (fun _ hk => ⟨⟨hk.1.1.1.1.2, ⟨hk.1.1.2, ⟨hk.1.2, hk.2⟩⟩⟩, hk.1.1.1.2⟩)) hg (.inl rfl)); have n5_ := Aside0.mk (Kd.R_after (v := (.slice (some ⟨go20, 0, none⟩) x4_1.length co20)) (v1 := (.slice (some ⟨go20, 0, none⟩) x4_1.length co20)) (ok := (fun k_ => some k_ ≠ (.slice Ao10 t134.length co10 : Value).ownBlock ∧ some k_ ≠ (.slice Ao24 x5_1.length co24 : Value).ownBlock ∧ some k_ ≠ (.slice Ao25 y144.length co25 : Value).ownBlock ∧ some k_ ≠ (.slice Ao27 t147.length co27 : Value).ownBlock)) (by (with_reducible repeat (first | apply Kd.R_alloc | apply Kd.R_drewN | apply Kd.R_drew)); exact Kd.R_mono HO153.out (fun _ hk => ⟨⟨hk.1.1.1.1.2, ⟨hk.1.1.2, ⟨hk.1.2, hk.2⟩⟩⟩, hk.1.1.1.2⟩)) hg (.inl rfl)); have n6_ := Aside0.mk ((by rw [hw]; exact below_set (HB.out) GB20.out : Below w.heap.size w w30)); clear HO_1; clear HO_4; clear HO_5; clear HO146; clear HO149; clear HO153; clear HB; have HO_1 := n0_; have HO_4 := n1_; have HO_5 := n2_; have HO146 := n3_; have HO149 := n4_; have HO153 := n5_; have HB := n6_; clear n0_ n1_ n2_ n3_ n4_ n5_ n6_; clear hg hw hp_))
                      go_roundg k1
                      case measure => have := HK1.out; omega
                      case rel => exact ⟨(y154), (t151), (wrap64 (x7_1 - 1)), (by first | rfl | (simp; done) | (simp [*]; done) | (simp [*, Fig.bne_nil]; done)), H', ⟨by have := HK1.out; omega⟩, ⟨by (with_reducible repeat (first | apply Kd.R_alloc | apply Kd.R_drewN | apply Kd.R_drew)); exact Kd.R_mono HO_1.out (fun _ hk => ⟨hk.2, hk.1.2.2.2⟩)⟩, ⟨by (with_reducible repeat (first | apply Kd.R_alloc | apply Kd.R_drewN | apply Kd.R_drew)); exact Kd.R_mono HO_4.out (fun _ hk => ⟨hk.1, hk.2.2.2.2⟩)⟩, ⟨by (with_reducible repeat (first | apply Kd.R_alloc | apply Kd.R_drewN | apply Kd.R_drew)); exact Kd.R_mono HO153.out (fun _ hk => ⟨hk.1.1, hk.2⟩)⟩, ⟨by repeat (first | (with_reducible first | exact HB.out | apply below_alloc | apply pw_below_drewN | apply below_drew1) | exact HB.out)⟩⟩
                    · rw [if_neg c19] at H
                      exact absurd H (by simp)
                  · rw [if_neg c16] at H
                    exact absurd H (by simp)
                · rw [if_neg c15] at H
                  exact absurd H (by simp)
              · rw [if_neg c14] at H
                exact absurd H (by simp)
            · rw [if_neg c13] at H
              have c13b0 : decide (0 ≤ x7_1) = false := decide_eq_false c13
              clear c13
              replace H := Option.bind_eq_some_iff.mp H
              obtain ⟨t155, A310, H⟩ := H
              replace H : ((nat_Trim.f x5_1).bind fun t158 => (some (t155, t158, true))) = some (r1, r2, r3) := H
              have A31 := Aside0.mk A310
              clear A310
              replace H := Option.bind_eq_some_iff.mp H
              obtain ⟨t158, A320, H⟩ := H
              replace H : (some (t155, t158, true)) = some (r1, r2, r3) := H
              have A32 := Aside0.mk A320
              clear A320
              simp only [Option.some.injEq, Prod.mk.injEq] at H
              obtain ⟨rfl, rfl, rfl⟩ := H
              obtain ⟨Ao33, co33, eo33⟩ := Kd.R_slice HO_4.out
              subst eo33
              go_wp2_with (first | ((with_reducible refine gate_callee (f := 20) rfl ?_); refine goesL_ (some 41) rfl rfl Try.func20 (by kernel_rfl) rfl #[.slice Ao33 x4_1.length co33] rfl (by (try simp only [List.map_toArray, List.map_cons, List.map_nil]); first | done | rfl | (simp only [List.length_drop, List.length_take]; rfl)) ?_; (with_reducible refine (nat_Trim.calls _ _ x4_1 t155 _ ?side1 ?side2 A31.out).mono ?_); (case side1 => repeat (first | exact (Kd.R_reads' HO_4.out).2.2 | (with_reducible refine Kd.C_alloc ?_ _) | (with_reducible refine Kd.C_drewN ?_ _) | (with_reducible refine Kd.C_drew ?_))); (case side2 => exact (Kd.R_reads' HO_4.out).2.1); rintro e w34 ⟨v156, rfl, ho0, hb⟩; refine ⟨_, rfl, ?_⟩; have n0_ := Aside0.mk (Kd.R_elder' (by (with_reducible repeat (first | apply Kd.R_alloc | apply Kd.R_drewN | apply Kd.R_drew)); exact HO_1.out) (Kd.R_base ho0) hb); have n1_ := Aside0.mk (Kd.R_elder' (by (with_reducible repeat (first | apply Kd.R_alloc | apply Kd.R_drewN | apply Kd.R_drew)); exact HO_4.out) (Kd.R_base ho0) hb); have n2_ := Aside0.mk (Kd.R_elder' (by (with_reducible repeat (first | apply Kd.R_alloc | apply Kd.R_drewN | apply Kd.R_drew)); exact HO_5.out) (Kd.R_base ho0) hb); have n3_ := Aside0.mk (Kd.R_lower (Kd.R_new' (Kd.R_new' (Kd.R_new' ho0 (Kd.R_lt (by (with_reducible repeat (first | apply Kd.R_alloc | apply Kd.R_drewN | apply Kd.R_drew)); exact HO_1.out))) (Kd.R_lt (by (with_reducible repeat (first | apply Kd.R_alloc | apply Kd.R_drewN | apply Kd.R_drew)); exact HO_4.out))) (Kd.R_lt (by (with_reducible repeat (first | apply Kd.R_alloc | apply Kd.R_drewN | apply Kd.R_drew)); exact HO_5.out))) (below_size (by repeat (first | (with_reducible first | exact HB.out | apply below_alloc | apply pw_below_drewN | apply below_drew1) | exact HB.out)))); have n4_ := Aside0.mk (below_step (by repeat (first | (with_reducible first | exact HB.out | apply below_alloc | apply pw_below_drewN | apply below_drew1) | exact HB.out)) hb); clear HO_1; clear HO_4; clear HO_5; clear HB; have HO_1 := n0_; have HO_4 := n1_; have HO_5 := n2_; have HO157 := n3_; have HB := n4_; clear n0_ n1_ n2_ n3_ n4_; (try clear hb); (try clear hb2); (try clear hk); (try clear hi); (try clear ho0); obtain ⟨Ao35, co35, eo35⟩ := Kd.R_slice HO_5.out; subst eo35) | ((with_reducible refine gate_callee (f := 20) rfl ?_); refine goesL_ (some 43) rfl rfl Try.func20 (by kernel_rfl) rfl #[.slice Ao35 x5_1.length co35] rfl (by (try simp only [List.map_toArray, List.map_cons, List.map_nil]); first | done | rfl | (simp only [List.length_drop, List.length_take]; rfl)) ?_; (with_reducible refine (nat_Trim.calls _ _ x5_1 t158 _ ?side1 ?side2 A32.out).mono ?_); (case side1 => repeat (first | exact (Kd.R_reads' HO_5.out).2.2 | (with_reducible refine Kd.C_alloc ?_ _) | (with_reducible refine Kd.C_drewN ?_ _) | (with_reducible refine Kd.C_drew ?_))); (case side2 => exact (Kd.R_reads' HO_5.out).2.1); rintro e w36 ⟨v159, rfl, ho0, hb⟩; refine ⟨_, rfl, ?_⟩; have n0_ := Aside0.mk (Kd.R_elder' (by (with_reducible repeat (first | apply Kd.R_alloc | apply Kd.R_drewN | apply Kd.R_drew)); exact HO_1.out) (Kd.R_base ho0) hb); have n1_ := Aside0.mk (Kd.R_elder' (by (with_reducible repeat (first | apply Kd.R_alloc | apply Kd.R_drewN | apply Kd.R_drew)); exact HO_4.out) (Kd.R_base ho0) hb); have n2_ := Aside0.mk (Kd.R_elder' (by (with_reducible repeat (first | apply Kd.R_alloc | apply Kd.R_drewN | apply Kd.R_drew)); exact HO_5.out) (Kd.R_base ho0) hb); have n3_ := Aside0.mk (Kd.R_elder' (by (with_reducible repeat (first | apply Kd.R_alloc | apply Kd.R_drewN | apply Kd.R_drew)); exact HO157.out) (Kd.R_base ho0) hb); have n4_ := Aside0.mk (Kd.R_lower (Kd.R_new' (Kd.R_new' (Kd.R_new' (Kd.R_new' ho0 (Kd.R_lt (by (with_reducible repeat (first | apply Kd.R_alloc | apply Kd.R_drewN | apply Kd.R_drew)); exact HO_1.out))) (Kd.R_lt (by (with_reducible repeat (first | apply Kd.R_alloc | apply Kd.R_drewN | apply Kd.R_drew)); exact HO_4.out))) (Kd.R_lt (by (with_reducible repeat (first | apply Kd.R_alloc | apply Kd.R_drewN | apply Kd.R_drew)); exact HO_5.out))) (Kd.R_lt (by (with_reducible repeat (first | apply Kd.R_alloc | apply Kd.R_drewN | apply Kd.R_drew)); exact HO157.out))) (below_size (by repeat (first | (with_reducible first | exact HB.out | apply below_alloc | apply pw_below_drewN | apply below_drew1) | exact HB.out)))); have n5_ := Aside0.mk (below_step (by repeat (first | (with_reducible first | exact HB.out | apply below_alloc | apply pw_below_drewN | apply below_drew1) | exact HB.out)) hb); clear HO_1; clear HO_4; clear HO_5; clear HO157; clear HB; have HO_1 := n0_; have HO_4 := n1_; have HO_5 := n2_; have HO157 := n3_; have HO160 := n4_; have HB := n5_; clear n0_ n1_ n2_ n3_ n4_ n5_; (try clear hb); (try clear hb2); (try clear hk); (try clear hi); (try clear ho0)))
              go_ret3
              exact ⟨_, _, by first | rfl | (simp [errW_none, errW_some] <;> rfl) | (simp [*, errW_none, errW_some] <;> rfl), by (with_reducible repeat (first | apply Kd.R_alloc | apply Kd.R_drewN | apply Kd.R_drew)); exact Kd.R_mono HO157.out (fun _ hk => hk.2), by (with_reducible repeat (first | apply Kd.R_alloc | apply Kd.R_drewN | apply Kd.R_drew)); exact Kd.R_mono HO160.out (fun _ hk => hk.2), by repeat (first | (with_reducible first | exact HB.out | apply below_alloc | apply pw_below_drewN | apply below_drew1) | exact HB.out)⟩
      · rw [if_neg c8] at H
        exact absurd H (by simp)
    · rw [if_neg c7] at H
      exact absurd H (by simp)

end Go.Proofs.Ytnpibnjncjieaaa.Px

namespace Go.Proofs.Ytnpibnjncjieaaa.Px
open Fig Go.RowKit Go.Proofs.YtnpibnjncjieaaaW.PrintWords Go.Proofs.YtnpibnjncjieaaaW.PrintLast Go.Proofs.YtnpibnjncjieaaaW.PrintMore
attribute [local go_sem] max2_int min2_int max_two min_two max_three min_three max_four min_four   -- for this text's walks alone

/-! ### div_Small: function 15 -/
def div_Small.l0 : Nat → List Int → Int → List Int → Int → Int → Option (List Int × Int × Bool)
  | 0, _, _, _, _, _ => none
  | k + 1, x0, x1, x4, x7, x8 => if x8 ≥ 0 then (if 0 ≤ x8 then (if x8 < (x0.length : Int) then (if (IntKind.u64.wrap (x1)) = 0 then (none) else (if x8 < (x4.length : Int) then (div_Small.l0 k x0 x1 (x4.set (x8 : Int).toNat ((IntKind.u64.wrap (Int.tdiv (IntKind.u64.wrap ((IntKind.u64.wrap (x7 * 1000000000)) + (IntKind.u64.wrap (rd x0 x8)))) (IntKind.u64.wrap (x1)))) % 4294967296)) (Int.tmod (IntKind.u64.wrap ((IntKind.u64.wrap (x7 * 1000000000)) + (IntKind.u64.wrap (rd x0 x8)))) (IntKind.u64.wrap (x1))) (wrap64 (x8 - 1))) else (none))) else (none)) else (none)) else ((nat_Trim.f x4).bind fun t166 => (some (t166, (x7) % 4294967296, true)))
def div_Small.f (k : Nat) (l0 : List Int) (a1 : Int) : Option (List Int × Int × Bool) := if a1 = 0 then (some (([] : List Int), 0, false)) else (if 0 ≤ (l0.length : Int) then (if ((l0.length : Int) : Int).toNat ≤ 70368744177664 then (div_Small.l0 k l0 a1 (List.replicate ((l0.length : Int) : Int).toNat 0) 0 (wrap64 ((l0.length : Int) - 1))) else (none)) else (none))
theorem div_Small.mono_l : ∀ k, (∀ y0 y1 y2 y3 y4, LeO (div_Small.l0 k y0 y1 y2 y3 y4) (div_Small.l0 (k + 1) y0 y1 y2 y3 y4))
  | 0 => fun _ _ _ _ _ r h => by simp [div_Small.l0] at h
  | k + 1 => by
    have ih0 := div_Small.mono_l k
    · intro y0 y1 y2 y3 y4
      unfold div_Small.l0
      repeat' first
      | (with_reducible exact ih0 _ _ _ _ _)
      | (with_reducible exact LeO.refl _)
      | (with_reducible exact LeO.none _)
      | (with_reducible refine LeO.ite ?_ ?_)
      | (with_reducible refine LeO.bind ?_ (fun _ => ?_))
      | exact ih0 _ _ _ _ _
      | exact LeO.none _
      | refine LeO.ite ?_ ?_
      | refine LeO.bind ?_ (fun _ => ?_)
theorem div_Small.mono : ∀ a0 a1 k, LeO (div_Small.f k a0 a1) (div_Small.f (k + 1) a0 a1) := by
  intro a0 a1 k
  have ih0 := div_Small.mono_l k
  unfold div_Small.f
  repeat' first
      | (with_reducible exact ih0 _ _ _ _ _)
      | (with_reducible exact LeO.refl _)
      | (with_reducible exact LeO.none _)
      | (with_reducible refine LeO.ite ?_ ?_)
      | (with_reducible refine LeO.bind ?_ (fun _ => ?_))
      | exact ih0 _ _ _ _ _
      | exact LeO.none _
      | refine LeO.ite ?_ ?_
      | refine LeO.bind ?_ (fun _ => ?_)
set_option maxHeartbeats 8000000 in
set_option maxRecDepth 100000 in
theorem div_Small.calls (k : Nat) (A0 : Option Addr) (c0 : Nat) (l0 : List Int) (a1 : Int) (r1 : List Int) (r2 : Int) (r3 : Bool) (w : World) (hr0 : Kd.C (Kd.int .u32) w A0 l0.length l0) (hc0 : l0.length ≤ c0) (h : div_Small.f k l0 a1 = some (r1, r2, r3)) :
    Calls Try.prog 15 #[.slice A0 l0.length c0, .int .u32 a1] w fun e w' => ∃ v0_ : Value, e = .returned (.tuple #[v0_, .int .u32 r2, .bool r3]) ∧ Kd.R (Kd.int .u32) 32 w' w.heap.size (fun _ => True) v0_ r1 ∧ Below w.heap.size w w' := by
  have HR0 := Aside0.mk hr0
  have HC0 := Aside0.mk hc0
  clear hr0 hc0
  have HB := Aside0.mk (Below.refl w.heap.size w)
  have H : (if a1 = 0 then (some (([] : List Int), 0, false)) else (if 0 ≤ (l0.length : Int) then (if ((l0.length : Int) : Int).toNat ≤ 70368744177664 then (div_Small.l0 k l0 a1 (List.replicate ((l0.length : Int) : Int).toNat 0) 0 (wrap64 ((l0.length : Int) - 1))) else (none)) else (none))) = some (r1, r2, r3) := h
  clear h
  by_cases c3 : a1 = 0
  · rw [if_pos c3] at H
    have c3b0 : (a1 == 0) = true := beq_iff_eq.mpr c3
    have c3b1 : (a1 != 0) = false := bne_eq_false_iff_eq.mpr c3
    clear c3
    simp only [Option.some.injEq, Prod.mk.injEq] at H
    obtain ⟨rfl, rfl, rfl⟩ := H
    go_enter Try.func15, Try.ntmps15
    go_wp2
    go_ret3
    exact ⟨_, by first | rfl | (simp [errW_none, errW_some] <;> rfl) | (simp [*, errW_none, errW_some] <;> rfl), by first | exact Kd.R_nil _ _ _ _ _ | exact Kd.N_nil _ _ _ _ _ | exact Kd.V_nil _ _ _ _ _ | exact Kd.Q_nil _ _ _ _ _ | exact Kd.S_nil _ _ _ _ _, by repeat (first | (with_reducible first | exact HB.out | apply below_alloc | apply pw_below_drewN | apply below_drew1) | exact HB.out)⟩
  · rw [if_neg c3] at H
    have c3b0 : (a1 == 0) = false := beq_eq_false_iff_ne.mpr c3
    have c3b1 : (a1 != 0) = true := bne_iff_ne.mpr c3
    by_cases c4 : 0 ≤ (l0.length : Int)
    · rw [if_pos c4] at H
      have c4b0 := eq_true c4
      have c4b1 : decide (0 ≤ (l0.length : Int)) = true := decide_eq_true c4
      clear c4
      by_cases c5 : ((l0.length : Int) : Int).toNat ≤ 70368744177664
      · rw [if_pos c5] at H
        have c5b0 := eq_true c5
        have c5b1 : decide (((l0.length : Int) : Int).toNat ≤ 70368744177664) = true := decide_eq_true c5
        clear c5
        obtain ⟨y161, hy161⟩ : ∃ y_ : List Int, y_ = (List.replicate ((l0.length : Int) : Int).toNat 0) := ⟨_, rfl⟩
        replace H : (div_Small.l0 k l0 a1 y161 0 (wrap64 ((l0.length : Int) - 1))) = some (r1, r2, r3) := by first | (rw [hy161]; with_reducible exact H) | (have H2_ := (Option.bind_some _ _).symm.trans H; rw [hy161]; with_reducible exact H2_) | (have H2_ := (Option.bind_some _ _).symm.trans H; with_reducible exact H2_) | with_reducible exact H | (rw [hy161]; exact H) | exact H
        have Ny161 := Aside0.mk hy161
        clear hy161
        have H' := Aside0.mk H
        clear H
        go_enter Try.func15, Try.ntmps15
        go_wp2_with (first | ((with_reducible refine gate_dst (N := 13) rfl ?_); refine Kd.R_make (Kd.int .u32) _ 32 rfl (N := 13) rfl 22 _ _ rfl (l0.length : Int) rfl rfl Try.underlying22 (.int .u32 0) 4 info32 rfl (by decide) (by omega) 0 (ok := fun _ => True) (okp := fun _ => True) rfl (fun _ hk => hk) trivial (of_decide_eq_true (by first | (with_reducible assumption) | assumption)) (Nat.le_trans (Nat.mul_le_mul_right _ (of_decide_eq_true (by first | (with_reducible assumption) | assumption) : (l0.length : Int).toNat ≤ 70368744177664)) (by omega)) (Below.refl _ _) (Nat.le_refl _) ?_; intro v162 w6 ho7 hb hg_ hnew_; clear hg_ hnew_; (first | rw [← Ny161.out] at ho7 | (simp only [Int.reduceToNat] at ho7; rw [← Ny161.out] at ho7)); have n0_ := Aside0.mk (Kd.R_lower ho7 (below_size (by repeat (first | (with_reducible first | exact HB.out | apply below_alloc | apply pw_below_drewN | apply below_drew1) | exact HB.out)))); have n1_ := Aside0.mk (below_step (by repeat (first | (with_reducible first | exact HB.out | apply below_alloc | apply pw_below_drewN | apply below_drew1) | exact HB.out)) hb); clear HB; have HO163 := n0_; have HB := n1_; clear n0_ n1_; clear hb ho7))
        go_loopg [7, 8] k (fun kq v7 v8 w' => ∃ (x4_1 : List Int) (x7_1 : Int) (x8_1 : Int), v7 = .int .u64 x7_1 ∧ v8 = .int .i64 x8_1 ∧ Aside0 (div_Small.l0 kq l0 a1 x4_1 x7_1 x8_1 = some (r1, r2, r3)) ∧ Aside0 (kq ≤ k) ∧ Aside0 (Kd.R (Kd.int .u32) 32 w' w.heap.size (fun _ => True) v162 x4_1) ∧ Aside0 (Below w.heap.size w w'))
        case atStart => exact ⟨(y161), (0), (wrap64 ((l0.length : Int) - 1)), (by first | rfl | (simp; done) | (simp [*]; done) | (simp [*, Fig.bne_nil]; done)), (by first | rfl | (simp; done) | (simp [*]; done) | (simp [*, Fig.bne_nil]; done)), H', ⟨Nat.le_refl _⟩, ⟨by (with_reducible repeat (first | apply Kd.R_alloc | apply Kd.R_drewN | apply Kd.R_drew)); exact HO163.out⟩, ⟨by repeat (first | (with_reducible first | exact HB.out | apply below_alloc | apply pw_below_drewN | apply below_drew1) | exact HB.out)⟩⟩
        case round =>
          clear H'
          try clear c1
          try clear p2
          try clear c3
          try clear c3b0
          try clear c3b1
          try clear c4
          try clear c4b0
          try clear c4b1
          try clear c5
          try clear c5b0
          try clear c5b1
          try clear p6
          obtain ⟨x4_1, x7_1, x8_1, rfl, rfl, HA, HK1, HO_4, HB⟩ := hrel
          cases gk with
          | zero => exact absurd HA.out (by simp [div_Small.l0])
          | succ k1 =>
            have H := HA.out
            clear HA
            simp only [div_Small.l0] at H
            by_cases c8 : x8_1 ≥ 0
            · rw [if_pos c8] at H
              have c8b0 : decide (0 ≤ x8_1) = true := decide_eq_true c8
              clear c8
              by_cases c9 : 0 ≤ x8_1
              · rw [if_pos c9] at H
                have c9b0 : decide (0 ≤ x8_1) = true := decide_eq_true c9
                clear c9
                by_cases c10 : x8_1 < (l0.length : Int)
                · rw [if_pos c10] at H
                  have c10b0 : decide (x8_1 < (l0.length : Int)) = true := decide_eq_true c10
                  clear c10
                  by_cases c11 : (IntKind.u64.wrap (a1)) = 0
                  · rw [if_pos c11] at H
                    exact absurd H (by simp)
                  · rw [if_neg c11] at H
                    have c11b0 : ((IntKind.u64.wrap (a1)) == 0) = false := beq_eq_false_iff_ne.mpr c11
                    have c11b1 : ((IntKind.u64.wrap (a1)) != 0) = true := bne_iff_ne.mpr c11
                    by_cases c12 : x8_1 < (x4_1.length : Int)
                    · rw [if_pos c12] at H
                      have c12b0 : decide (x8_1 < (x4_1.length : Int)) = true := decide_eq_true c12
                      clear c12
                      obtain ⟨y165, hy165⟩ : ∃ y_ : List Int, y_ = (x4_1.set (x8_1 : Int).toNat ((IntKind.u64.wrap (Int.tdiv (IntKind.u64.wrap ((IntKind.u64.wrap (x7_1 * 1000000000)) + (IntKind.u64.wrap (rd l0 x8_1)))) (IntKind.u64.wrap (a1)))) % 4294967296)) := ⟨_, rfl⟩
                      replace H : (div_Small.l0 k1 l0 a1 y165 (Int.tmod (IntKind.u64.wrap ((IntKind.u64.wrap (x7_1 * 1000000000)) + (IntKind.u64.wrap (rd l0 x8_1)))) (IntKind.u64.wrap (a1))) (wrap64 (x8_1 - 1))) = some (r1, r2, r3) := by first | (rw [hy165]; with_reducible exact H) | (have H2_ := (Option.bind_some _ _).symm.trans H; rw [hy165]; with_reducible exact H2_) | (have H2_ := (Option.bind_some _ _).symm.trans H; with_reducible exact H2_) | with_reducible exact H | (rw [hy165]; exact H) | exact H
                      have Ny165 := Aside0.mk hy165
                      clear hy165
                      have H' := Aside0.mk H
                      clear H
                      have p164 : 0 ≤ (x8_1 : Int) := of_decide_eq_true (by first | (with_reducible assumption) | assumption)
                      have q164 : x8_1 < (l0.length : Int) := of_decide_eq_true (by first | (with_reducible assumption) | assumption)
                      obtain ⟨ad164, e164, hx164_0⟩ := Kd.at_int HR0.out x8_1 p164 q164
                      cases e164
                      replace hx164_0 := (HB.out.cell (World.block_lt_of_cell? w _ hx164_0)).trans hx164_0
                      replace p164 := eq_true p164
                      replace q164 := eq_true q164
                      have p13 : 0 ≤ (x8_1 : Int) := of_decide_eq_true (by first | (with_reducible assumption) | assumption)
                      have q13 : (x8_1 : Int) < ((x4_1.length : Int) : Int) := of_decide_eq_true (by first | (with_reducible assumption) | assumption)
                      obtain ⟨go13, co13, eo13, gb13, gl13, cl13, HG13⟩ := Kd.R_form HO_4.out (by omega)
                      (first | cases eo13 | (injection eo13 with ea_ en_ ec_; (first | subst ea_ | (injection ea_ with ea_; subst ea_)); subst ec_; clear en_))
                      have GB13 := Aside0.mk gb13
                      have GG13 := Aside0.mk HG13
                      clear gb13 gl13 HG13
                      obtain ⟨hx13_0, hf13_0⟩ := Kd.R_celln 0 HO_4.out (x8_1 : Int) p13 q13
                      replace p13 := eq_true p13
                      replace q13 := eq_true q13
                      have HP14 := Kd.R_putg HO_4.out (x8_1 : Int) ((IntKind.u64.wrap (Int.tdiv (IntKind.u64.wrap ((IntKind.u64.wrap (x7_1 * 1000000000)) + (IntKind.u64.wrap (rd l0 x8_1)))) (IntKind.u64.wrap (a1)))) % 4294967296)
                      go_wp2_with (first | ((with_reducible refine gate_store (t := 32) (p := 36) rfl ?_); refine store_event (t := 32) (p := 36) (v := ?vo_w15) (w1 := (wr.setCell ⟨go13, (x8_1 : Int).toNat, none⟩ (.int .u32 ((IntKind.u64.wrap (Int.tdiv (IntKind.u64.wrap ((IntKind.u64.wrap (x7_1 * 1000000000)) + (IntKind.u64.wrap (rd l0 x8_1)))) (IntKind.u64.wrap (a1)))) % 4294967296)))) ?hg ?ho ?hn ?hr ?_; (case ho => rfl); (case hg => rfl); (case hn => rfl); (case hr => first | (go_simp; done) | (go_simp; rfl)); intro w15 hw; have hg : wr.grownBy w15 (some go13) := (by rw [hw]; exact HP14.2); have hp_ : Kd.R (Kd.int .u32) 32 w15 w.heap.size (fun _ => True) (.slice (some ⟨go13, 0, none⟩) x4_1.length co13) y165 := (by rw [hw, Ny165.out]; exact HP14.1); clear HP14; have n0_ := Aside0.mk (hp_); have n1_ := Aside0.mk ((by rw [hw]; exact below_set (HB.out) GB13.out : Below w.heap.size w w15)); clear HO_4; clear HB; have HO_4 := n0_; have HB := n1_; clear n0_ n1_; clear hg hw hp_))
                      go_roundg k1
                      case measure => have := HK1.out; omega
                      case rel => exact ⟨(y165), (Int.tmod (IntKind.u64.wrap ((IntKind.u64.wrap (x7_1 * 1000000000)) + (IntKind.u64.wrap (rd l0 x8_1)))) (IntKind.u64.wrap (a1))), (wrap64 (x8_1 - 1)), (by first | rfl | (simp; done) | (simp [*]; done) | (simp [*, Fig.bne_nil]; done)), (by first | rfl | (simp; done) | (simp [*]; done) | (simp [*, Fig.bne_nil]; done)), H', ⟨by have := HK1.out; omega⟩, ⟨by (with_reducible repeat (first | apply Kd.R_alloc | apply Kd.R_drewN | apply Kd.R_drew)); exact HO_4.out⟩, ⟨by repeat (first | (with_reducible first | exact HB.out | apply below_alloc | apply pw_below_drewN | apply below_drew1) | exact HB.out)⟩⟩
                    · rw [if_neg c12] at H
                      exact absurd H (by simp)
                · rw [if_neg c10] at H
                  exact absurd H (by simp)
              · rw [if_neg c9] at H
                exact absurd H (by simp)
            · rw [if_neg c8] at H
              have c8b0 : decide (0 ≤ x8_1) = false := decide_eq_false c8
              clear c8
              replace H := Option.bind_eq_some_iff.mp H
              obtain ⟨t166, A160, H⟩ := H
              replace H : (some (t166, (x7_1) % 4294967296, true)) = some (r1, r2, r3) := H
              have A16 := Aside0.mk A160
              clear A160
              simp only [Option.some.injEq, Prod.mk.injEq] at H
              obtain ⟨rfl, rfl, rfl⟩ := H
              obtain ⟨Ao17, co17, eo17⟩ := Kd.R_slice HO_4.out
              subst eo17
              go_wp2_with (first | ((with_reducible refine gate_callee (f := 20) rfl ?_); refine goesL_ (some 42) rfl rfl Try.func20 (by kernel_rfl) rfl #[.slice Ao17 x4_1.length co17] rfl (by (try simp only [List.map_toArray, List.map_cons, List.map_nil]); first | done | rfl | (simp only [List.length_drop, List.length_take]; rfl)) ?_; (with_reducible refine (nat_Trim.calls _ _ x4_1 t166 _ ?side1 ?side2 A16.out).mono ?_); (case side1 => repeat (first | exact (Kd.R_reads' HO_4.out).2.2 | (with_reducible refine Kd.C_alloc ?_ _) | (with_reducible refine Kd.C_drewN ?_ _) | (with_reducible refine Kd.C_drew ?_))); (case side2 => exact (Kd.R_reads' HO_4.out).2.1); rintro e w18 ⟨v167, rfl, ho0, hb⟩; refine ⟨_, rfl, ?_⟩; have n0_ := Aside0.mk (Kd.R_elder' (by (with_reducible repeat (first | apply Kd.R_alloc | apply Kd.R_drewN | apply Kd.R_drew)); exact HO_4.out) (Kd.R_base ho0) hb); have n1_ := Aside0.mk (Kd.R_lower (Kd.R_new' ho0 (Kd.R_lt (by (with_reducible repeat (first | apply Kd.R_alloc | apply Kd.R_drewN | apply Kd.R_drew)); exact HO_4.out))) (below_size (by repeat (first | (with_reducible first | exact HB.out | apply below_alloc | apply pw_below_drewN | apply below_drew1) | exact HB.out)))); have n2_ := Aside0.mk (below_step (by repeat (first | (with_reducible first | exact HB.out | apply below_alloc | apply pw_below_drewN | apply below_drew1) | exact HB.out)) hb); clear HO_4; clear HB; have HO_4 := n0_; have HO168 := n1_; have HB := n2_; clear n0_ n1_ n2_; (try clear hb); (try clear hb2); (try clear hk); (try clear hi); (try clear ho0)))
              go_ret3
              exact ⟨_, by first | rfl | (simp [errW_none, errW_some] <;> rfl) | (simp [*, errW_none, errW_some] <;> rfl), by (with_reducible repeat (first | apply Kd.R_alloc | apply Kd.R_drewN | apply Kd.R_drew)); exact Kd.R_mono HO168.out (fun _ hk => trivial), by repeat (first | (with_reducible first | exact HB.out | apply below_alloc | apply pw_below_drewN | apply below_drew1) | exact HB.out)⟩
      · rw [if_neg c5] at H
        exact absurd H (by simp)
    · rw [if_neg c4] at H
      exact absurd H (by simp)

end Go.Proofs.Ytnpibnjncjieaaa.Px

namespace Go.Proofs.Ytnpibnjncjieaaa.Px
open Fig Go.RowKit Go.Proofs.YtnpibnjncjieaaaW.PrintWords Go.Proofs.YtnpibnjncjieaaaW.PrintLast Go.Proofs.YtnpibnjncjieaaaW.PrintMore
attribute [local go_sem] max2_int min2_int max_two min_two max_three min_three max_four min_four   -- for this text's walks alone

/-! ### figureheadlaw03_answers: function 9 -/
def figureheadlaw03_answers.f (k : Nat)  : Option (Bool) := (div_DivMod.f k (([7] : List Int)) (([2] : List Int))).bind fun bt175 => ((div_Small.f k (([7] : List Int)) 2).bind fun bt185 => ((div_DivMod.f k (([7] : List Int)) ([] : List Int)).bind fun bt193 => (if bt175.2.2 = true then (if (bt175.1.length : Int) = 1 then (if 0 < (bt175.1.length : Int) then (if (rd bt175.1 0) = 3 then (if (bt175.2.1.length : Int) = 1 then (if 0 < (bt175.2.1.length : Int) then (if (rd bt175.2.1 0) = 1 then (if bt185.2.2 = true then (if (bt185.1.length : Int) = 1 then (if 0 < (bt185.1.length : Int) then (if (rd bt185.1 0) = 3 then (if bt185.2.1 = 1 then (some (!bt193.2.2)) else (some false)) else (some false)) else (none)) else (some false)) else (some false)) else (some false)) else (none)) else (some false)) else (some false)) else (none)) else (some false)) else (some false))))
theorem figureheadlaw03_answers.mono : ∀ k, LeO (figureheadlaw03_answers.f k ) (figureheadlaw03_answers.f (k + 1) ) := by
  intro  k
  unfold figureheadlaw03_answers.f
  repeat' first
      | (with_reducible exact div_DivMod.mono _ _ _)
      | (with_reducible exact div_Small.mono _ _ _)
      | (with_reducible exact LeO.refl _)
      | (with_reducible exact LeO.none _)
      | (with_reducible refine LeO.ite ?_ ?_)
      | (with_reducible refine LeO.bind ?_ (fun _ => ?_))
      | exact div_DivMod.mono _ _ _
      | exact div_Small.mono _ _ _
      | exact LeO.none _
      | refine LeO.ite ?_ ?_
      | refine LeO.bind ?_ (fun _ => ?_)
set_option maxHeartbeats 8000000 in
set_option maxRecDepth 100000 in
theorem figureheadlaw03_answers.calls (k : Nat)  (r : Bool) (w : World) (HT : Aside0 (r = true)) (h : figureheadlaw03_answers.f k  = some r) :
    Calls Try.prog 9 #[] w fun e w' => e = .returned (.bool r) ∧ Below w.heap.size w w' := by
  have HB := Aside0.mk (Below.refl w.heap.size w)
  have H : ((div_DivMod.f k (([7] : List Int)) (([2] : List Int))).bind fun bt175 => ((div_Small.f k (([7] : List Int)) 2).bind fun bt185 => ((div_DivMod.f k (([7] : List Int)) ([] : List Int)).bind fun bt193 => (if bt175.2.2 = true then (if (bt175.1.length : Int) = 1 then (if 0 < (bt175.1.length : Int) then (if (rd bt175.1 0) = 3 then (if (bt175.2.1.length : Int) = 1 then (if 0 < (bt175.2.1.length : Int) then (if (rd bt175.2.1 0) = 1 then (if bt185.2.2 = true then (if (bt185.1.length : Int) = 1 then (if 0 < (bt185.1.length : Int) then (if (rd bt185.1 0) = 3 then (if bt185.2.1 = 1 then (some (!bt193.2.2)) else (some false)) else (some false)) else (none)) else (some false)) else (some false)) else (some false)) else (none)) else (some false)) else (some false)) else (none)) else (some false)) else (some false))))) = some r := h
  clear h
  obtain ⟨y169, hy169⟩ : ∃ y_ : List Int, y_ = (([7] : List Int)) := ⟨_, rfl⟩
  replace H : ((div_DivMod.f k y169 (([2] : List Int))).bind fun bt175 => ((div_Small.f k (([7] : List Int)) 2).bind fun bt185 => ((div_DivMod.f k (([7] : List Int)) ([] : List Int)).bind fun bt193 => (if bt175.2.2 = true then (if (bt175.1.length : Int) = 1 then (if 0 < (bt175.1.length : Int) then (if (rd bt175.1 0) = 3 then (if (bt175.2.1.length : Int) = 1 then (if 0 < (bt175.2.1.length : Int) then (if (rd bt175.2.1 0) = 1 then (if bt185.2.2 = true then (if (bt185.1.length : Int) = 1 then (if 0 < (bt185.1.length : Int) then (if (rd bt185.1 0) = 3 then (if bt185.2.1 = 1 then (some (!bt193.2.2)) else (some false)) else (some false)) else (none)) else (some false)) else (some false)) else (some false)) else (none)) else (some false)) else (some false)) else (none)) else (some false)) else (some false))))) = some r := by first | (rw [hy169]; with_reducible exact H) | (have H2_ := (Option.bind_some _ _).symm.trans H; rw [hy169]; with_reducible exact H2_) | (have H2_ := (Option.bind_some _ _).symm.trans H; with_reducible exact H2_) | with_reducible exact H | (rw [hy169]; exact H) | exact H
  have Ny169 := Aside0.mk hy169
  clear hy169
  obtain ⟨y172, hy172⟩ : ∃ y_ : List Int, y_ = (([2] : List Int)) := ⟨_, rfl⟩
  replace H : ((div_DivMod.f k y169 y172).bind fun bt175 => ((div_Small.f k (([7] : List Int)) 2).bind fun bt185 => ((div_DivMod.f k (([7] : List Int)) ([] : List Int)).bind fun bt193 => (if bt175.2.2 = true then (if (bt175.1.length : Int) = 1 then (if 0 < (bt175.1.length : Int) then (if (rd bt175.1 0) = 3 then (if (bt175.2.1.length : Int) = 1 then (if 0 < (bt175.2.1.length : Int) then (if (rd bt175.2.1 0) = 1 then (if bt185.2.2 = true then (if (bt185.1.length : Int) = 1 then (if 0 < (bt185.1.length : Int) then (if (rd bt185.1 0) = 3 then (if bt185.2.1 = 1 then (some (!bt193.2.2)) else (some false)) else (some false)) else (none)) else (some false)) else (some false)) else (some false)) else (none)) else (some false)) else (some false)) else (none)) else (some false)) else (some false))))) = some r := by first | (rw [hy172]; with_reducible exact H) | (have H2_ := (Option.bind_some _ _).symm.trans H; rw [hy172]; with_reducible exact H2_) | (have H2_ := (Option.bind_some _ _).symm.trans H; with_reducible exact H2_) | with_reducible exact H | (rw [hy172]; exact H) | exact H
  have Ny172 := Aside0.mk hy172
  clear hy172
  replace H := Option.bind_eq_some_iff.mp H
  obtain ⟨⟨t175, t176, t177⟩, A10, H⟩ := H
  replace H : ((div_Small.f k (([7] : List Int)) 2).bind fun bt185 => ((div_DivMod.f k (([7] : List Int)) ([] : List Int)).bind fun bt193 => (if t177 = true then (if (t175.length : Int) = 1 then (if 0 < (t175.length : Int) then (if (rd t175 0) = 3 then (if (t176.length : Int) = 1 then (if 0 < (t176.length : Int) then (if (rd t176 0) = 1 then (if bt185.2.2 = true then (if (bt185.1.length : Int) = 1 then (if 0 < (bt185.1.length : Int) then (if (rd bt185.1 0) = 3 then (if bt185.2.1 = 1 then (some (!bt193.2.2)) else (some false)) else (some false)) else (none)) else (some false)) else (some false)) else (some false)) else (none)) else (some false)) else (some false)) else (none)) else (some false)) else (some false)))) = some r := H
  have A1 := Aside0.mk A10
  clear A10
  obtain ⟨y182, hy182⟩ : ∃ y_ : List Int, y_ = (([7] : List Int)) := ⟨_, rfl⟩
  replace H : ((div_Small.f k y182 2).bind fun bt185 => ((div_DivMod.f k (([7] : List Int)) ([] : List Int)).bind fun bt193 => (if t177 = true then (if (t175.length : Int) = 1 then (if 0 < (t175.length : Int) then (if (rd t175 0) = 3 then (if (t176.length : Int) = 1 then (if 0 < (t176.length : Int) then (if (rd t176 0) = 1 then (if bt185.2.2 = true then (if (bt185.1.length : Int) = 1 then (if 0 < (bt185.1.length : Int) then (if (rd bt185.1 0) = 3 then (if bt185.2.1 = 1 then (some (!bt193.2.2)) else (some false)) else (some false)) else (none)) else (some false)) else (some false)) else (some false)) else (none)) else (some false)) else (some false)) else (none)) else (some false)) else (some false)))) = some r := by first | (rw [hy182]; with_reducible exact H) | (have H2_ := (Option.bind_some _ _).symm.trans H; rw [hy182]; with_reducible exact H2_) | (have H2_ := (Option.bind_some _ _).symm.trans H; with_reducible exact H2_) | with_reducible exact H | (rw [hy182]; exact H) | exact H
  have Ny182 := Aside0.mk hy182
  clear hy182
  replace H := Option.bind_eq_some_iff.mp H
  obtain ⟨⟨t185, t186, t187⟩, A20, H⟩ := H
  replace H : ((div_DivMod.f k (([7] : List Int)) ([] : List Int)).bind fun bt193 => (if t177 = true then (if (t175.length : Int) = 1 then (if 0 < (t175.length : Int) then (if (rd t175 0) = 3 then (if (t176.length : Int) = 1 then (if 0 < (t176.length : Int) then (if (rd t176 0) = 1 then (if t187 = true then (if (t185.length : Int) = 1 then (if 0 < (t185.length : Int) then (if (rd t185 0) = 3 then (if t186 = 1 then (some (!bt193.2.2)) else (some false)) else (some false)) else (none)) else (some false)) else (some false)) else (some false)) else (none)) else (some false)) else (some false)) else (none)) else (some false)) else (some false))) = some r := H
  have A2 := Aside0.mk A20
  clear A20
  obtain ⟨y190, hy190⟩ : ∃ y_ : List Int, y_ = (([7] : List Int)) := ⟨_, rfl⟩
  replace H : ((div_DivMod.f k y190 ([] : List Int)).bind fun bt193 => (if t177 = true then (if (t175.length : Int) = 1 then (if 0 < (t175.length : Int) then (if (rd t175 0) = 3 then (if (t176.length : Int) = 1 then (if 0 < (t176.length : Int) then (if (rd t176 0) = 1 then (if t187 = true then (if (t185.length : Int) = 1 then (if 0 < (t185.length : Int) then (if (rd t185 0) = 3 then (if t186 = 1 then (some (!bt193.2.2)) else (some false)) else (some false)) else (none)) else (some false)) else (some false)) else (some false)) else (none)) else (some false)) else (some false)) else (none)) else (some false)) else (some false))) = some r := by first | (rw [hy190]; with_reducible exact H) | (have H2_ := (Option.bind_some _ _).symm.trans H; rw [hy190]; with_reducible exact H2_) | (have H2_ := (Option.bind_some _ _).symm.trans H; with_reducible exact H2_) | with_reducible exact H | (rw [hy190]; exact H) | exact H
  have Ny190 := Aside0.mk hy190
  clear hy190
  replace H := Option.bind_eq_some_iff.mp H
  obtain ⟨⟨t193, t194, t195⟩, A30, H⟩ := H
  replace H : (if t177 = true then (if (t175.length : Int) = 1 then (if 0 < (t175.length : Int) then (if (rd t175 0) = 3 then (if (t176.length : Int) = 1 then (if 0 < (t176.length : Int) then (if (rd t176 0) = 1 then (if t187 = true then (if (t185.length : Int) = 1 then (if 0 < (t185.length : Int) then (if (rd t185 0) = 3 then (if t186 = 1 then (some (!t195)) else (some false)) else (some false)) else (none)) else (some false)) else (some false)) else (some false)) else (none)) else (some false)) else (some false)) else (none)) else (some false)) else (some false)) = some r := H
  have A3 := Aside0.mk A30
  clear A30
  by_cases c4 : t177 = true
  · subst c4
    have H1 : (if (t175.length : Int) = 1 then (if 0 < (t175.length : Int) then (if (rd t175 0) = 3 then (if (t176.length : Int) = 1 then (if 0 < (t176.length : Int) then (if (rd t176 0) = 1 then (if t187 = true then (if (t185.length : Int) = 1 then (if 0 < (t185.length : Int) then (if (rd t185 0) = 3 then (if t186 = 1 then (some (!t195)) else (some false)) else (some false)) else (none)) else (some false)) else (some false)) else (some false)) else (none)) else (some false)) else (some false)) else (none)) else (some false)) = some r := by rw [if_pos rfl] at H; exact H
    clear H
    have H := H1
    clear H1
    by_cases c5 : (t175.length : Int) = 1
    · rw [if_pos c5] at H
      have c5b0 : ((t175.length : Int) == 1) = true := beq_iff_eq.mpr c5
      have c5b1 : ((t175.length : Int) != 1) = false := bne_eq_false_iff_eq.mpr c5
      clear c5
      by_cases c6 : 0 < (t175.length : Int)
      · rw [if_pos c6] at H
        have c6b0 : decide (0 < (t175.length : Int)) = true := decide_eq_true c6
        have c6b1 : decide (0 < t175.length) = true := decide_eq_true (by omega)
        clear c6
        by_cases c7 : (rd t175 0) = 3
        · rw [if_pos c7] at H
          have c7b0 : ((rd t175 0) == 3) = true := beq_iff_eq.mpr c7
          have c7b1 : ((rd t175 0) != 3) = false := bne_eq_false_iff_eq.mpr c7
          clear c7
          by_cases c8 : (t176.length : Int) = 1
          · rw [if_pos c8] at H
            have c8b0 : ((t176.length : Int) == 1) = true := beq_iff_eq.mpr c8
            have c8b1 : ((t176.length : Int) != 1) = false := bne_eq_false_iff_eq.mpr c8
            clear c8
            by_cases c9 : 0 < (t176.length : Int)
            · rw [if_pos c9] at H
              have c9b0 : decide (0 < (t176.length : Int)) = true := decide_eq_true c9
              have c9b1 : decide (0 < t176.length) = true := decide_eq_true (by omega)
              clear c9
              by_cases c10 : (rd t176 0) = 1
              · rw [if_pos c10] at H
                have c10b0 : ((rd t176 0) == 1) = true := beq_iff_eq.mpr c10
                have c10b1 : ((rd t176 0) != 1) = false := bne_eq_false_iff_eq.mpr c10
                clear c10
                by_cases c11 : t187 = true
                · subst c11
                  have H1 : (if (t185.length : Int) = 1 then (if 0 < (t185.length : Int) then (if (rd t185 0) = 3 then (if t186 = 1 then (some (!t195)) else (some false)) else (some false)) else (none)) else (some false)) = some r := by rw [if_pos rfl] at H; exact H
                  clear H
                  have H := H1
                  clear H1
                  by_cases c12 : (t185.length : Int) = 1
                  · rw [if_pos c12] at H
                    have c12b0 : ((t185.length : Int) == 1) = true := beq_iff_eq.mpr c12
                    have c12b1 : ((t185.length : Int) != 1) = false := bne_eq_false_iff_eq.mpr c12
                    clear c12
                    by_cases c13 : 0 < (t185.length : Int)
                    · rw [if_pos c13] at H
                      have c13b0 : decide (0 < (t185.length : Int)) = true := decide_eq_true c13
                      have c13b1 : decide (0 < t185.length) = true := decide_eq_true (by omega)
                      clear c13
                      by_cases c14 : (rd t185 0) = 3
                      · rw [if_pos c14] at H
                        have c14b0 : ((rd t185 0) == 3) = true := beq_iff_eq.mpr c14
                        have c14b1 : ((rd t185 0) != 3) = false := bne_eq_false_iff_eq.mpr c14
                        clear c14
                        by_cases c15 : t186 = 1
                        · rw [if_pos c15] at H
                          have c15b0 : (t186 == 1) = true := beq_iff_eq.mpr c15
                          have c15b1 : (t186 != 1) = false := bne_eq_false_iff_eq.mpr c15
                          clear c15
                          obtain rfl := Option.some.inj H
                          go_enter Try.func9, Try.ntmps9
                          go_wp2_with (first | ((with_reducible refine gate_dst (N := 11) rfl ?_); (try (refine gate_guard (by rfl) ?_; dsimp only)); refine Kd.R_lit (Kd.int .u32) _ 32 ?hg (N := 11) ?hd (xs := ([7] : List Int)) (inner := [.int .u32 7]) (ok := fun _ => True) (okp := fun _ => True) ?hr ?hp (fun _ hk => hk) trivial (Below.refl _ _) (Nat.le_refl _) (by simp) ?_; (case hd => rfl); (case hg => rfl); (case hr => first | (go_simp; done) | (go_simp; rfl)); (case hp => exact (Reps.one (show Kd.M (Kd.int .u32) _ _ _ 7 [.int .u32 7] from rfl) (Reps.none _ _))); intro v170 w16 ho17 hb hg_ hnew_; clear hg_ hnew_; (first | rw [← Ny169.out] at ho17 | (simp only [Int.reduceToNat] at ho17; rw [← Ny169.out] at ho17)); have n0_ := Aside0.mk (Kd.R_lower ho17 (below_size (by repeat (first | (with_reducible first | exact HB.out | apply below_alloc | apply pw_below_drewN | apply below_drew1) | exact HB.out)))); have n1_ := Aside0.mk (below_step (by repeat (first | (with_reducible first | exact HB.out | apply below_alloc | apply pw_below_drewN | apply below_drew1) | exact HB.out)) hb); clear HB; have HO171 := n0_; have HB := n1_; clear n0_ n1_; clear hb ho17) | ((with_reducible refine gate_dst (N := 12) rfl ?_); (try (refine gate_guard (by rfl) ?_; dsimp only)); refine Kd.R_lit (Kd.int .u32) _ 32 ?hg (N := 12) ?hd (xs := ([2] : List Int)) (inner := [.int .u32 2]) (ok := fun _ => True) (okp := fun _ => True) ?hr ?hp (fun _ hk => hk) trivial (Below.refl _ _) (Nat.le_refl _) (by simp) ?_; (case hd => rfl); (case hg => rfl); (case hr => first | (go_simp; done) | (go_simp; rfl)); (case hp => exact (Reps.one (show Kd.M (Kd.int .u32) _ _ _ 2 [.int .u32 2] from rfl) (Reps.none _ _))); intro v173 w18 ho19 hb hg_ hnew_; clear hg_ hnew_; (first | rw [← Ny172.out] at ho19 | (simp only [Int.reduceToNat] at ho19; rw [← Ny172.out] at ho19)); have n0_ := Aside0.mk (Kd.R_elder' (by (with_reducible repeat (first | apply Kd.R_alloc | apply Kd.R_drewN | apply Kd.R_drew)); exact HO171.out) (Kd.R_base ho19) hb); have n1_ := Aside0.mk (Kd.R_lower (Kd.R_new' ho19 (Kd.R_lt (by (with_reducible repeat (first | apply Kd.R_alloc | apply Kd.R_drewN | apply Kd.R_drew)); exact HO171.out))) (below_size (by repeat (first | (with_reducible first | exact HB.out | apply below_alloc | apply pw_below_drewN | apply below_drew1) | exact HB.out)))); have n2_ := Aside0.mk (below_step (by repeat (first | (with_reducible first | exact HB.out | apply below_alloc | apply pw_below_drewN | apply below_drew1) | exact HB.out)) hb); clear HO171; clear HB; have HO171 := n0_; have HO174 := n1_; have HB := n2_; clear n0_ n1_ n2_; clear hb ho19; obtain ⟨Ao20, co20, eo20⟩ := Kd.R_slice HO171.out; subst eo20; obtain ⟨Ao21, co21, eo21⟩ := Kd.R_slice HO174.out; subst eo21) | ((with_reducible refine gate_callee (f := 10) rfl ?_); refine goesL_ (some 13) rfl rfl Try.func10 (by kernel_rfl) rfl #[.slice Ao20 y169.length co20, .slice Ao21 y172.length co21] rfl (by (try simp only [List.map_toArray, List.map_cons, List.map_nil]); first | done | rfl | (simp only [List.length_drop, List.length_take]; rfl)) ?_; (with_reducible refine (div_DivMod.calls k _ _ y169 _ _ y172 t175 t176 true _ ?side1 ?side2 ?side3 ?side4 A1.out).mono ?_); (case side1 => repeat (first | exact (Kd.R_reads' HO171.out).2.2 | (with_reducible refine Kd.C_alloc ?_ _) | (with_reducible refine Kd.C_drewN ?_ _) | (with_reducible refine Kd.C_drew ?_))); (case side2 => exact (Kd.R_reads' HO171.out).2.1); (case side3 => repeat (first | exact (Kd.R_reads' HO174.out).2.2 | (with_reducible refine Kd.C_alloc ?_ _) | (with_reducible refine Kd.C_drewN ?_ _) | (with_reducible refine Kd.C_drew ?_))); (case side4 => exact (Kd.R_reads' HO174.out).2.1); rintro e w22 ⟨v178, v180, rfl, ho0, ho1, hb⟩; refine ⟨_, rfl, ?_⟩; have n0_ := Aside0.mk (Kd.R_mono (Kd.R_told (Kd.R_told (Kd.R_old (by (with_reducible repeat (first | apply Kd.R_alloc | apply Kd.R_drewN | apply Kd.R_drew)); exact HO171.out) hb) (Kd.R_base ho0)) (Kd.R_base ho1)) (fun _ h_ => h_.1)); have n1_ := Aside0.mk (Kd.R_mono (Kd.R_told (Kd.R_told (Kd.R_old (by (with_reducible repeat (first | apply Kd.R_alloc | apply Kd.R_drewN | apply Kd.R_drew)); exact HO174.out) hb) (Kd.R_base ho0)) (Kd.R_base ho1)) (fun _ h_ => h_.1)); have n2_ := Aside0.mk (Kd.R_lower (Kd.R_new' (Kd.R_new' ho0 (Kd.R_lt (by (with_reducible repeat (first | apply Kd.R_alloc | apply Kd.R_drewN | apply Kd.R_drew)); exact HO171.out))) (Kd.R_lt (by (with_reducible repeat (first | apply Kd.R_alloc | apply Kd.R_drewN | apply Kd.R_drew)); exact HO174.out))) (below_size (by repeat (first | (with_reducible first | exact HB.out | apply below_alloc | apply pw_below_drewN | apply below_drew1) | exact HB.out)))); have n3_ := Aside0.mk (Kd.R_lower (Kd.R_new' (Kd.R_new' ho1 (Kd.R_lt (by (with_reducible repeat (first | apply Kd.R_alloc | apply Kd.R_drewN | apply Kd.R_drew)); exact HO171.out))) (Kd.R_lt (by (with_reducible repeat (first | apply Kd.R_alloc | apply Kd.R_drewN | apply Kd.R_drew)); exact HO174.out))) (below_size (by repeat (first | (with_reducible first | exact HB.out | apply below_alloc | apply pw_below_drewN | apply below_drew1) | exact HB.out)))); have n4_ := Aside0.mk (below_step (by repeat (first | (with_reducible first | exact HB.out | apply below_alloc | apply pw_below_drewN | apply below_drew1) | exact HB.out)) hb); clear HO171; clear HO174; clear HB; have HO171 := n0_; have HO174 := n1_; have HO179 := n2_; have HO181 := n3_; have HB := n4_; clear n0_ n1_ n2_ n3_ n4_; (try clear hb); (try clear hb2); (try clear hk); (try clear hi); (try clear ho0); (try clear ho1)) | ((with_reducible refine gate_dst (N := 18) rfl ?_); (try (refine gate_guard (by rfl) ?_; dsimp only)); refine Kd.R_lit (Kd.int .u32) _ 32 ?hg (N := 18) ?hd (xs := ([7] : List Int)) (inner := [.int .u32 7]) (ok := fun _ => True) (okp := fun _ => True) ?hr ?hp (fun _ hk => hk) trivial (Below.refl _ _) (Nat.le_refl _) (by simp) ?_; (case hd => rfl); (case hg => rfl); (case hr => first | (go_simp; done) | (go_simp; rfl)); (case hp => exact (Reps.one (show Kd.M (Kd.int .u32) _ _ _ 7 [.int .u32 7] from rfl) (Reps.none _ _))); intro v183 w23 ho24 hb hg_ hnew_; clear hg_ hnew_; (first | rw [← Ny182.out] at ho24 | (simp only [Int.reduceToNat] at ho24; rw [← Ny182.out] at ho24)); have n0_ := Aside0.mk (Kd.R_elder' (by (with_reducible repeat (first | apply Kd.R_alloc | apply Kd.R_drewN | apply Kd.R_drew)); exact HO171.out) (Kd.R_base ho24) hb); have n1_ := Aside0.mk (Kd.R_elder' (by (with_reducible repeat (first | apply Kd.R_alloc | apply Kd.R_drewN | apply Kd.R_drew)); exact HO174.out) (Kd.R_base ho24) hb); have n2_ := Aside0.mk (Kd.R_elder' (by (with_reducible repeat (first | apply Kd.R_alloc | apply Kd.R_drewN | apply Kd.R_drew)); exact HO179.out) (Kd.R_base ho24) hb); have n3_ := Aside0.mk (Kd.R_elder' (by (with_reducible repeat (first | apply Kd.R_alloc | apply Kd.R_drewN | apply Kd.R_drew)); exact HO181.out) (Kd.R_base ho24) hb); have n4_ := Aside0.mk (Kd.R_lower (Kd.R_new' (Kd.R_new' (Kd.R_new' (Kd.R_new' ho24 (Kd.R_lt (by (with_reducible repeat (first | apply Kd.R_alloc | apply Kd.R_drewN | apply Kd.R_drew)); exact HO171.out))) (Kd.R_lt (by (with_reducible repeat (first | apply Kd.R_alloc | apply Kd.R_drewN | apply Kd.R_drew)); exact HO174.out))) (Kd.R_lt (by (with_reducible repeat (first | apply Kd.R_alloc | apply Kd.R_drewN | apply Kd.R_drew)); exact HO179.out))) (Kd.R_lt (by (with_reducible repeat (first | apply Kd.R_alloc | apply Kd.R_drewN | apply Kd.R_drew)); exact HO181.out))) (below_size (by repeat (first | (with_reducible first | exact HB.out | apply below_alloc | apply pw_below_drewN | apply below_drew1) | exact HB.out)))); have n5_ := Aside0.mk (below_step (by repeat (first | (with_reducible first | exact HB.out | apply below_alloc | apply pw_below_drewN | apply below_drew1) | exact HB.out)) hb); clear HO171; clear HO174; clear HO179; clear HO181; clear HB; have HO171 := n0_; have HO174 := n1_; have HO179 := n2_; have HO181 := n3_; have HO184 := n4_; have HB := n5_; clear n0_ n1_ n2_ n3_ n4_ n5_; clear hb ho24; obtain ⟨Ao25, co25, eo25⟩ := Kd.R_slice HO184.out; subst eo25) | ((with_reducible refine gate_callee (f := 15) rfl ?_); refine goesL_ (some 19) rfl rfl Try.func15 (by kernel_rfl) rfl #[.slice Ao25 y182.length co25, .int .u32 2] rfl (by (try simp only [List.map_toArray, List.map_cons, List.map_nil]); first | done | rfl | (simp only [List.length_drop, List.length_take]; rfl)) ?_; (with_reducible refine (div_Small.calls k _ _ y182 2 t185 t186 true _ ?side1 ?side2 A2.out).mono ?_); (case side1 => repeat (first | exact (Kd.R_reads' HO184.out).2.2 | (with_reducible refine Kd.C_alloc ?_ _) | (with_reducible refine Kd.C_drewN ?_ _) | (with_reducible refine Kd.C_drew ?_))); (case side2 => exact (Kd.R_reads' HO184.out).2.1); rintro e w26 ⟨v188, rfl, ho0, hb⟩; refine ⟨_, rfl, ?_⟩; have n0_ := Aside0.mk (Kd.R_elder' (by (with_reducible repeat (first | apply Kd.R_alloc | apply Kd.R_drewN | apply Kd.R_drew)); exact HO171.out) (Kd.R_base ho0) hb); have n1_ := Aside0.mk (Kd.R_elder' (by (with_reducible repeat (first | apply Kd.R_alloc | apply Kd.R_drewN | apply Kd.R_drew)); exact HO174.out) (Kd.R_base ho0) hb); have n2_ := Aside0.mk (Kd.R_elder' (by (with_reducible repeat (first | apply Kd.R_alloc | apply Kd.R_drewN | apply Kd.R_drew)); exact HO179.out) (Kd.R_base ho0) hb); have n3_ := Aside0.mk (Kd.R_elder' (by (with_reducible repeat (first | apply Kd.R_alloc | apply Kd.R_drewN | apply Kd.R_drew)); exact HO181.out) (Kd.R_base ho0) hb); have n4_ := Aside0.mk (Kd.R_elder' (by (with_reducible repeat (first | apply Kd.R_alloc | apply Kd.R_drewN | apply Kd.R_drew)); exact HO184.out) (Kd.R_base ho0) hb); have n5_ := Aside0.mk (Kd.R_lower (Kd.R_new' (Kd.R_new' (Kd.R_new' (Kd.R_new' (Kd.R_new' ho0 (Kd.R_lt (by (with_reducible repeat (first | apply Kd.R_alloc | apply Kd.R_drewN | apply Kd.R_drew)); exact HO171.out))) (Kd.R_lt (by (with_reducible repeat (first | apply Kd.R_alloc | apply Kd.R_drewN | apply Kd.R_drew)); exact HO174.out))) (Kd.R_lt (by (with_reducible repeat (first | apply Kd.R_alloc | apply Kd.R_drewN | apply Kd.R_drew)); exact HO179.out))) (Kd.R_lt (by (with_reducible repeat (first | apply Kd.R_alloc | apply Kd.R_drewN | apply Kd.R_drew)); exact HO181.out))) (Kd.R_lt (by (with_reducible repeat (first | apply Kd.R_alloc | apply Kd.R_drewN | apply Kd.R_drew)); exact HO184.out))) (below_size (by repeat (first | (with_reducible first | exact HB.out | apply below_alloc | apply pw_below_drewN | apply below_drew1) | exact HB.out)))); have n6_ := Aside0.mk (below_step (by repeat (first | (with_reducible first | exact HB.out | apply below_alloc | apply pw_below_drewN | apply below_drew1) | exact HB.out)) hb); clear HO171; clear HO174; clear HO179; clear HO181; clear HO184; clear HB; have HO171 := n0_; have HO174 := n1_; have HO179 := n2_; have HO181 := n3_; have HO184 := n4_; have HO189 := n5_; have HB := n6_; clear n0_ n1_ n2_ n3_ n4_ n5_ n6_; (try clear hb); (try clear hb2); (try clear hk); (try clear hi); (try clear ho0)) | ((with_reducible refine gate_dst (N := 24) rfl ?_); (try (refine gate_guard (by rfl) ?_; dsimp only)); refine Kd.R_lit (Kd.int .u32) _ 32 ?hg (N := 24) ?hd (xs := ([7] : List Int)) (inner := [.int .u32 7]) (ok := fun _ => True) (okp := fun _ => True) ?hr ?hp (fun _ hk => hk) trivial (Below.refl _ _) (Nat.le_refl _) (by simp) ?_; (case hd => rfl); (case hg => rfl); (case hr => first | (go_simp; done) | (go_simp; rfl)); (case hp => exact (Reps.one (show Kd.M (Kd.int .u32) _ _ _ 7 [.int .u32 7] from rfl) (Reps.none _ _))); intro v191 w27 ho28 hb hg_ hnew_; clear hg_ hnew_; (first | rw [← Ny190.out] at ho28 | (simp only [Int.reduceToNat] at ho28; rw [← Ny190.out] at ho28)); have n0_ := Aside0.mk (Kd.R_elder' (by (with_reducible repeat (first | apply Kd.R_alloc | apply Kd.R_drewN | apply Kd.R_drew)); exact HO171.out) (Kd.R_base ho28) hb); have n1_ := Aside0.mk (Kd.R_elder' (by (with_reducible repeat (first | apply Kd.R_alloc | apply Kd.R_drewN | apply Kd.R_drew)); exact HO174.out) (Kd.R_base ho28) hb); have n2_ := Aside0.mk (Kd.R_elder' (by (with_reducible repeat (first | apply Kd.R_alloc | apply Kd.R_drewN | apply Kd.R_drew)); exact HO179.out) (Kd.R_base ho28) hb); have n3_ := Aside0.mk (Kd.R_elder' (by (with_reducible repeat (first | apply Kd.R_alloc | apply Kd.R_drewN | apply Kd.R_drew)); exact HO181.out) (Kd.R_base ho28) hb); have n4_ := Aside0.mk (Kd.R_elder' (by (with_reducible repeat (first | apply Kd.R_alloc | apply Kd.R_drewN | apply Kd.R_drew)); exact HO184.out) (Kd.R_base ho28) hb); have n5_ := Aside0.mk (Kd.R_elder' (by (with_reducible repeat (first | apply Kd.R_alloc | apply Kd.R_drewN | apply Kd.R_drew)); exact HO189.out) (Kd.R_base ho28) hb); have n6_ := Aside0.mk (Kd.R_lower (Kd.R_new' (Kd.R_new' (Kd.R_new' (Kd.R_new' (Kd.R_new' (Kd.R_new' ho28 (Kd.R_lt (by (with_reducible repeat (first | apply Kd.R_alloc | apply Kd.R_drewN | apply Kd.R_drew)); exact HO171.out))) (Kd.R_lt (by (with_reducible repeat (first | apply Kd.R_alloc | apply Kd.R_drewN | apply Kd.R_drew)); exact HO174.out))) (Kd.R_lt (by (with_reducible repeat (first | apply Kd.R_alloc | apply Kd.R_drewN | apply Kd.R_drew)); exact HO179.out))) (Kd.R_lt (by (with_reducible repeat (first | apply Kd.R_alloc | apply Kd.R_drewN | apply Kd.R_drew)); exact HO181.out))) (Kd.R_lt (by (with_reducible repeat (first | apply Kd.R_alloc | apply Kd.R_drewN | apply Kd.R_drew)); exact HO184.out))) (Kd.R_lt (by (with_reducible repeat (first | apply Kd.R_alloc | apply Kd.R_drewN | apply Kd.R_drew)); exact HO189.out))) (below_size (by repeat (first | (with_reducible first | exact HB.out | apply below_alloc | apply pw_below_drewN | apply below_drew1) | exact HB.out)))); have n7_ := Aside0.mk (below_step (by repeat (first | (with_reducible first | exact HB.out | apply below_alloc | apply pw_below_drewN | apply below_drew1) | exact HB.out)) hb); clear HO171; clear HO174; clear HO179; clear HO181; clear HO184; clear HO189; clear HB; have HO171 := n0_; have HO174 := n1_; have HO179 := n2_; have HO181 := n3_; have HO184 := n4_; have HO189 := n5_; have HO192 := n6_; have HB := n7_; clear n0_ n1_ n2_ n3_ n4_ n5_ n6_ n7_; clear hb ho28; obtain ⟨Ao29, co29, eo29⟩ := Kd.R_slice HO192.out; subst eo29) | ((with_reducible refine gate_callee (f := 10) rfl ?_); refine goesL_ (some 25) rfl rfl Try.func10 (by kernel_rfl) rfl #[.slice Ao29 y190.length co29, .slice none 0 0] rfl (by (try simp only [List.map_toArray, List.map_cons, List.map_nil]); first | done | rfl | (simp only [List.length_drop, List.length_take]; rfl)) ?_; (refine (div_DivMod.calls k _ _ y190 _ _ ([] : List Int) t193 t194 t195 _ ?side1 ?side2 ?side3 ?side4 A3.out).mono ?_); (case side1 => repeat (first | exact (Kd.R_reads' HO192.out).2.2 | (with_reducible refine Kd.C_alloc ?_ _) | (with_reducible refine Kd.C_drewN ?_ _) | (with_reducible refine Kd.C_drew ?_))); (case side2 => exact (Kd.R_reads' HO192.out).2.1); (case side3 => exact Kd.C_nil _ _); (case side4 => exact Nat.le_refl _); rintro e w30 ⟨v196, v198, rfl, ho0, ho1, hb⟩; refine ⟨_, rfl, ?_⟩; have n0_ := Aside0.mk (Kd.R_mono (Kd.R_told (Kd.R_told (Kd.R_old (by (with_reducible repeat (first | apply Kd.R_alloc | apply Kd.R_drewN | apply Kd.R_drew)); exact HO171.out) hb) (Kd.R_base ho0)) (Kd.R_base ho1)) (fun _ h_ => h_.1)); have n1_ := Aside0.mk (Kd.R_mono (Kd.R_told (Kd.R_told (Kd.R_old (by (with_reducible repeat (first | apply Kd.R_alloc | apply Kd.R_drewN | apply Kd.R_drew)); exact HO174.out) hb) (Kd.R_base ho0)) (Kd.R_base ho1)) (fun _ h_ => h_.1)); have n2_ := Aside0.mk (Kd.R_mono (Kd.R_told (Kd.R_told (Kd.R_old (by (with_reducible repeat (first | apply Kd.R_alloc | apply Kd.R_drewN | apply Kd.R_drew)); exact HO179.out) hb) (Kd.R_base ho0)) (Kd.R_base ho1)) (fun _ h_ => h_.1)); have n3_ := Aside0.mk (Kd.R_mono (Kd.R_told (Kd.R_told (Kd.R_old (by (with_reducible repeat (first | apply Kd.R_alloc | apply Kd.R_drewN | apply Kd.R_drew)); exact HO181.out) hb) (Kd.R_base ho0)) (Kd.R_base ho1)) (fun _ h_ => h_.1)); have n4_ := Aside0.mk (Kd.R_mono (Kd.R_told (Kd.R_told (Kd.R_old (by (with_reducible repeat (first | apply Kd.R_alloc | apply Kd.R_drewN | apply Kd.R_drew)); exact HO184.out) hb) (Kd.R_base ho0)) (Kd.R_base ho1)) (fun _ h_ => h_.1)); have n5_ := Aside0.mk (Kd.R_mono (Kd.R_told (Kd.R_told (Kd.R_old (by (with_reducible repeat (first | apply Kd.R_alloc | apply Kd.R_drewN | apply Kd.R_drew)); exact HO189.out) hb) (Kd.R_base ho0)) (Kd.R_base ho1)) (fun _ h_ => h_.1)); have n6_ := Aside0.mk (Kd.R_mono (Kd.R_told (Kd.R_told (Kd.R_old (by (with_reducible repeat (first | apply Kd.R_alloc | apply Kd.R_drewN | apply Kd.R_drew)); exact HO192.out) hb) (Kd.R_base ho0)) (Kd.R_base ho1)) (fun _ h_ => h_.1)); have n7_ := Aside0.mk (Kd.R_lower (Kd.R_new' (Kd.R_new' (Kd.R_new' (Kd.R_new' (Kd.R_new' (Kd.R_new' (Kd.R_new' ho0 (Kd.R_lt (by (with_reducible repeat (first | apply Kd.R_alloc | apply Kd.R_drewN | apply Kd.R_drew)); exact HO171.out))) (Kd.R_lt (by (with_reducible repeat (first | apply Kd.R_alloc | apply Kd.R_drewN | apply Kd.R_drew)); exact HO174.out))) (Kd.R_lt (by (with_reducible repeat (first | apply Kd.R_alloc | apply Kd.R_drewN | apply Kd.R_drew)); exact HO179.out))) (Kd.R_lt (by (with_reducible repeat (first | apply Kd.R_alloc | apply Kd.R_drewN | apply Kd.R_drew)); exact HO181.out))) (Kd.R_lt (by (with_reducible repeat (first | apply Kd.R_alloc | apply Kd.R_drewN | apply Kd.R_drew)); exact HO184.out))) (Kd.R_lt (by (with_reducible repeat (first | apply Kd.R_alloc | apply Kd.R_drewN | apply Kd.R_drew)); exact HO189.out))) (Kd.R_lt (by (with_reducible repeat (first | apply Kd.R_alloc | apply Kd.R_drewN | apply Kd.R_drew)); exact HO192.out))) (below_size (by repeat (first | (with_reducible first | exact HB.out | apply below_alloc | apply pw_below_drewN | apply below_drew1) | exact HB.out)))); have n8_ := Aside0.mk (Kd.R_lower (Kd.R_new' (Kd.R_new' (Kd.R_new' (Kd.R_new' (Kd.R_new' (Kd.R_new' (Kd.R_new' ho1 (Kd.R_lt (by (with_reducible repeat (first | apply Kd.R_alloc | apply Kd.R_drewN | apply Kd.R_drew)); exact HO171.out))) (Kd.R_lt (by (with_reducible repeat (first | apply Kd.R_alloc | apply Kd.R_drewN | apply Kd.R_drew)); exact HO174.out))) (Kd.R_lt (by (with_reducible repeat (first | apply Kd.R_alloc | apply Kd.R_drewN | apply Kd.R_drew)); exact HO179.out))) (Kd.R_lt (by (with_reducible repeat (first | apply Kd.R_alloc | apply Kd.R_drewN | apply Kd.R_drew)); exact HO181.out))) (Kd.R_lt (by (with_reducible repeat (first | apply Kd.R_alloc | apply Kd.R_drewN | apply Kd.R_drew)); exact HO184.out))) (Kd.R_lt (by (with_reducible repeat (first | apply Kd.R_alloc | apply Kd.R_drewN | apply Kd.R_drew)); exact HO189.out))) (Kd.R_lt (by (with_reducible repeat (first | apply Kd.R_alloc | apply Kd.R_drewN | apply Kd.R_drew)); exact HO192.out))) (below_size (by repeat (first | (with_reducible first | exact HB.out | apply below_alloc | apply pw_below_drewN | apply below_drew1) | exact HB.out)))); have n9_ := Aside0.mk (below_step (by repeat (first | (with_reducible first | exact HB.out | apply below_alloc | apply pw_below_drewN | apply below_drew1) | exact HB.out)) hb); clear HO171; clear HO174; clear HO179; clear HO181; clear HO184; clear HO189; clear HO192; clear HB; have HO171 := n0_; have HO174 := n1_; have HO179 := n2_; have HO181 := n3_; have HO184 := n4_; have HO189 := n5_; have HO192 := n6_; have HO197 := n7_; have HO199 := n8_; have HB := n9_; clear n0_ n1_ n2_ n3_ n4_ n5_ n6_ n7_ n8_ n9_; (try clear hb); (try clear hb2); (try clear hk); (try clear hi); (try clear ho0); (try clear ho1); obtain ⟨Ao31, co31, eo31⟩ := Kd.R_slice HO179.out; subst eo31; have p200 : 0 ≤ (0 : Int) := (by omega); have q200 : 0 < (t175.length : Int) := of_decide_eq_true (by first | (with_reducible assumption) | assumption); obtain ⟨ad200, e200, hx200_0⟩ := Kd.at_int (Kd.R_reads' HO179.out).2.2 0 p200 q200; cases e200; have qi200 : (0 < t175.length) = True := eq_true (by omega); (try rw [show ((0 : Int)).toNat = 0 from rfl] at hx200_0); (try rw [Addr.add_zero'] at hx200_0); replace p200 := eq_true p200; replace q200 := eq_true q200; obtain ⟨Ao32, co32, eo32⟩ := Kd.R_slice HO181.out; subst eo32; have p201 : 0 ≤ (0 : Int) := (by omega); have q201 : 0 < (t176.length : Int) := of_decide_eq_true (by first | (with_reducible assumption) | assumption); obtain ⟨ad201, e201, hx201_0⟩ := Kd.at_int (Kd.R_reads' HO181.out).2.2 0 p201 q201; cases e201; have qi201 : (0 < t176.length) = True := eq_true (by omega); (try rw [show ((0 : Int)).toNat = 0 from rfl] at hx201_0); (try rw [Addr.add_zero'] at hx201_0); replace p201 := eq_true p201; replace q201 := eq_true q201; obtain ⟨Ao33, co33, eo33⟩ := Kd.R_slice HO189.out; subst eo33; have p202 : 0 ≤ (0 : Int) := (by omega); have q202 : 0 < (t185.length : Int) := of_decide_eq_true (by first | (with_reducible assumption) | assumption); obtain ⟨ad202, e202, hx202_0⟩ := Kd.at_int (Kd.R_reads' HO189.out).2.2 0 p202 q202; cases e202; have qi202 : (0 < t185.length) = True := eq_true (by omega); (try rw [show ((0 : Int)).toNat = 0 from rfl] at hx202_0); (try rw [Addr.add_zero'] at hx202_0); replace p202 := eq_true p202; replace q202 := eq_true q202))
                          go_ret
                          exact ⟨by first | rfl | (simp [errW_none, errW_some] <;> rfl) | (simp [*, errW_none, errW_some] <;> rfl), by repeat (first | (with_reducible first | exact HB.out | apply below_alloc | apply pw_below_drewN | apply below_drew1) | exact HB.out)⟩
                        · rw [if_neg c15] at H
                          have c15b0 : (t186 == 1) = false := beq_eq_false_iff_ne.mpr c15
                          have c15b1 : (t186 != 1) = true := bne_iff_ne.mpr c15
                          exact absurd ((Option.some.inj H).trans HT.out) (by decide)
                      · rw [if_neg c14] at H
                        have c14b0 : ((rd t185 0) == 3) = false := beq_eq_false_iff_ne.mpr c14
                        have c14b1 : ((rd t185 0) != 3) = true := bne_iff_ne.mpr c14
                        exact absurd ((Option.some.inj H).trans HT.out) (by decide)
                    · rw [if_neg c13] at H
                      exact absurd H (by simp)
                  · rw [if_neg c12] at H
                    have c12b0 : ((t185.length : Int) == 1) = false := beq_eq_false_iff_ne.mpr c12
                    have c12b1 : ((t185.length : Int) != 1) = true := bne_iff_ne.mpr c12
                    exact absurd ((Option.some.inj H).trans HT.out) (by decide)
                · replace c11 := Bool.eq_false_iff.mpr c11
                  subst c11
                  have H1 : (some false) = some r := by rw [if_neg (show ¬ (false = true) by decide)] at H; exact H
                  clear H
                  have H := H1
                  clear H1
                  exact absurd ((Option.some.inj H).trans HT.out) (by decide)
              · rw [if_neg c10] at H
                have c10b0 : ((rd t176 0) == 1) = false := beq_eq_false_iff_ne.mpr c10
                have c10b1 : ((rd t176 0) != 1) = true := bne_iff_ne.mpr c10
                exact absurd ((Option.some.inj H).trans HT.out) (by decide)
            · rw [if_neg c9] at H
              exact absurd H (by simp)
          · rw [if_neg c8] at H
            have c8b0 : ((t176.length : Int) == 1) = false := beq_eq_false_iff_ne.mpr c8
            have c8b1 : ((t176.length : Int) != 1) = true := bne_iff_ne.mpr c8
            exact absurd ((Option.some.inj H).trans HT.out) (by decide)
        · rw [if_neg c7] at H
          have c7b0 : ((rd t175 0) == 3) = false := beq_eq_false_iff_ne.mpr c7
          have c7b1 : ((rd t175 0) != 3) = true := bne_iff_ne.mpr c7
          exact absurd ((Option.some.inj H).trans HT.out) (by decide)
      · rw [if_neg c6] at H
        exact absurd H (by simp)
    · rw [if_neg c5] at H
      have c5b0 : ((t175.length : Int) == 1) = false := beq_eq_false_iff_ne.mpr c5
      have c5b1 : ((t175.length : Int) != 1) = true := bne_iff_ne.mpr c5
      exact absurd ((Option.some.inj H).trans HT.out) (by decide)
  · replace c4 := Bool.eq_false_iff.mpr c4
    subst c4
    have H1 : (some false) = some r := by rw [if_neg (show ¬ (false = true) by decide)] at H; exact H
    clear H
    have H := H1
    clear H1
    exact absurd ((Option.some.inj H).trans HT.out) (by decide)

end Go.Proofs.Ytnpibnjncjieaaa.Px

namespace Go.Proofs.Ytnpibnjncjieaaa.Px
open Fig Go.RowKit Go.Proofs.YtnpibnjncjieaaaW.PrintWords Go.Proofs.YtnpibnjncjieaaaW.PrintLast Go.Proofs.YtnpibnjncjieaaaW.PrintMore
attribute [local go_sem] max2_int min2_int max_two min_two max_three min_three max_four min_four   -- for this text's walks alone

/-! ### figureheadref01_Same: function 13 -/
def figureheadref01_Same.l0 : Nat → List Int → List Int → Int → Option (Bool)
  | 0, _, _, _ => none
  | k + 1, x0, x1, x5 => if x5 < (x0.length : Int) then (if 0 ≤ x5 then (if x5 < (x1.length : Int) then (if (rd x0 x5) = (rd x1 x5) then (figureheadref01_Same.l0 k x0 x1 (wrap64 (x5 + 1))) else (some false)) else (none)) else (none)) else (some true)
def figureheadref01_Same.f (k : Nat) (l0 : List Int) (l1 : List Int) : Option (Bool) := if (l0.length : Int) = (l1.length : Int) then (figureheadref01_Same.l0 k l0 l1 0) else (some false)
theorem figureheadref01_Same.mono_l : ∀ k, (∀ y0 y1 y2, LeO (figureheadref01_Same.l0 k y0 y1 y2) (figureheadref01_Same.l0 (k + 1) y0 y1 y2))
  | 0 => fun _ _ _ r h => by simp [figureheadref01_Same.l0] at h
  | k + 1 => by
    have ih0 := figureheadref01_Same.mono_l k
    · intro y0 y1 y2
      unfold figureheadref01_Same.l0
      repeat' first
      | (with_reducible exact ih0 _ _ _)
      | (with_reducible exact LeO.refl _)
      | (with_reducible exact LeO.none _)
      | (with_reducible refine LeO.ite ?_ ?_)
      | (with_reducible refine LeO.bind ?_ (fun _ => ?_))
      | exact ih0 _ _ _
      | exact LeO.none _
      | refine LeO.ite ?_ ?_
      | refine LeO.bind ?_ (fun _ => ?_)
theorem figureheadref01_Same.mono : ∀ a0 a1 k, LeO (figureheadref01_Same.f k a0 a1) (figureheadref01_Same.f (k + 1) a0 a1) := by
  intro a0 a1 k
  have ih0 := figureheadref01_Same.mono_l k
  unfold figureheadref01_Same.f
  repeat' first
      | (with_reducible exact ih0 _ _ _)
      | (with_reducible exact LeO.refl _)
      | (with_reducible exact LeO.none _)
      | (with_reducible refine LeO.ite ?_ ?_)
      | (with_reducible refine LeO.bind ?_ (fun _ => ?_))
      | exact ih0 _ _ _
      | exact LeO.none _
      | refine LeO.ite ?_ ?_
      | refine LeO.bind ?_ (fun _ => ?_)
set_option maxHeartbeats 8000000 in
set_option maxRecDepth 100000 in
theorem figureheadref01_Same.calls (k : Nat) (A0 : Option Addr) (c0 : Nat) (l0 : List Int) (A1 : Option Addr) (c1 : Nat) (l1 : List Int) (r : Bool) (w : World) (hr0 : Kd.C (Kd.int .u32) w A0 l0.length l0) (hc0 : l0.length ≤ c0) (hr1 : Kd.C (Kd.int .u32) w A1 l1.length l1) (hc1 : l1.length ≤ c1) (h : figureheadref01_Same.f k l0 l1 = some r) :
    Calls Try.prog 13 #[.slice A0 l0.length c0, .slice A1 l1.length c1] w fun e w' => e = .returned (.bool r) ∧ Drawn0 w w' := by
  have HR0 := Aside0.mk hr0
  have HC0 := Aside0.mk hc0
  clear hr0 hc0
  have HR1 := Aside0.mk hr1
  have HC1 := Aside0.mk hc1
  clear hr1 hc1
  have H : (if (l0.length : Int) = (l1.length : Int) then (figureheadref01_Same.l0 k l0 l1 0) else (some false)) = some r := h
  clear h
  by_cases c3 : (l0.length : Int) = (l1.length : Int)
  · rw [if_pos c3] at H
    have c3b0 : ((l0.length : Int) == (l1.length : Int)) = true := beq_iff_eq.mpr c3
    have c3b1 : ((l0.length : Int) != (l1.length : Int)) = false := bne_eq_false_iff_eq.mpr c3
    have c3b2 : (l0.length == l1.length) = true := by first | simpa using c3 | (simp at c3 ⊢; omega)
    clear c3
    have H' := Aside0.mk H
    clear H
    go_enter Try.func13, Try.ntmps13
    go_wp2
    repeat (go_quiet (fail); try go_wp2)
    go_loopg [5] k (fun kq v5 w' => ∃ (x5_1 : Int), v5 = .int .i64 x5_1 ∧ Aside0 (figureheadref01_Same.l0 kq l0 l1 x5_1 = some r) ∧ Aside0 (kq ≤ k) ∧ Drawn0 w w')
    case atStart => exact ⟨(0), (by first | rfl | (simp; done) | (simp [*]; done) | (simp [*, Fig.bne_nil]; done)), H', ⟨Nat.le_refl _⟩, by repeat (first | exact Drawn0.refl _ | apply Drawn0.step)⟩
    case round =>
      clear H'
      try clear c1
      try clear p2
      try clear c3
      try clear c3b0
      try clear c3b1
      try clear c3b2
      obtain ⟨x5_1, rfl, HA, HK1, ⟨m1, rfl⟩⟩ := hrel
      cases gk with
      | zero => exact absurd HA.out (by simp [figureheadref01_Same.l0])
      | succ k1 =>
        have H := HA.out
        clear HA
        simp only [figureheadref01_Same.l0] at H
        by_cases c4 : x5_1 < (l0.length : Int)
        · rw [if_pos c4] at H
          have c4b0 : decide (x5_1 < (l0.length : Int)) = true := decide_eq_true c4
          clear c4
          by_cases c5 : 0 ≤ x5_1
          · rw [if_pos c5] at H
            have c5b0 : decide (0 ≤ x5_1) = true := decide_eq_true c5
            clear c5
            by_cases c6 : x5_1 < (l1.length : Int)
            · rw [if_pos c6] at H
              have c6b0 : decide (x5_1 < (l1.length : Int)) = true := decide_eq_true c6
              clear c6
              by_cases c7 : (rd l0 x5_1) = (rd l1 x5_1)
              · rw [if_pos c7] at H
                have c7b0 : ((rd l0 x5_1) == (rd l1 x5_1)) = true := beq_iff_eq.mpr c7
                have c7b1 : ((rd l0 x5_1) != (rd l1 x5_1)) = false := bne_eq_false_iff_eq.mpr c7
                clear c7
                have H' := Aside0.mk H
                clear H
                have p229 : 0 ≤ (x5_1 : Int) := of_decide_eq_true (by first | (with_reducible assumption) | assumption)
                have q229 : x5_1 < (l0.length : Int) := of_decide_eq_true (by first | (with_reducible assumption) | assumption)
                obtain ⟨ad229, e229, hx229_0⟩ := Kd.at_int HR0.out x5_1 p229 q229
                cases e229
                replace p229 := eq_true p229
                replace q229 := eq_true q229
                have p230 : 0 ≤ (x5_1 : Int) := of_decide_eq_true (by first | (with_reducible assumption) | assumption)
                have q230 : x5_1 < (l1.length : Int) := of_decide_eq_true (by first | (with_reducible assumption) | assumption)
                obtain ⟨ad230, e230, hx230_0⟩ := Kd.at_int HR1.out x5_1 p230 q230
                cases e230
                replace p230 := eq_true p230
                replace q230 := eq_true q230
                go_wp2
                repeat (go_quiet (fail); try go_wp2)
                go_roundg k1
                case measure => have := HK1.out; omega
                case rel => exact ⟨(wrap64 (x5_1 + 1)), (by first | rfl | (simp; done) | (simp [*]; done) | (simp [*, Fig.bne_nil]; done)), H', ⟨by have := HK1.out; omega⟩, by repeat (first | exact Drawn0.refl _ | apply Drawn0.step)⟩
              · rw [if_neg c7] at H
                have c7b0 : ((rd l0 x5_1) == (rd l1 x5_1)) = false := beq_eq_false_iff_ne.mpr c7
                have c7b1 : ((rd l0 x5_1) != (rd l1 x5_1)) = true := bne_iff_ne.mpr c7
                obtain rfl := Option.some.inj H
                have p229 : 0 ≤ (x5_1 : Int) := of_decide_eq_true (by first | (with_reducible assumption) | assumption)
                have q229 : x5_1 < (l0.length : Int) := of_decide_eq_true (by first | (with_reducible assumption) | assumption)
                obtain ⟨ad229, e229, hx229_0⟩ := Kd.at_int HR0.out x5_1 p229 q229
                cases e229
                replace p229 := eq_true p229
                replace q229 := eq_true q229
                have p230 : 0 ≤ (x5_1 : Int) := of_decide_eq_true (by first | (with_reducible assumption) | assumption)
                have q230 : x5_1 < (l1.length : Int) := of_decide_eq_true (by first | (with_reducible assumption) | assumption)
                obtain ⟨ad230, e230, hx230_0⟩ := Kd.at_int HR1.out x5_1 p230 q230
                cases e230
                replace p230 := eq_true p230
                replace q230 := eq_true q230
                go_wp2
                repeat (go_quiet (fail); try go_wp2)
                go_ret
                exact ⟨by first | rfl | (simp; done) | (simp [*]; done) | (simp [*, Fig.bne_nil]; done), by repeat (first | exact Drawn0.refl _ | apply Drawn0.step)⟩
            · rw [if_neg c6] at H
              exact absurd H (by simp)
          · rw [if_neg c5] at H
            exact absurd H (by simp)
        · rw [if_neg c4] at H
          have c4b0 : decide (x5_1 < (l0.length : Int)) = false := decide_eq_false c4
          clear c4
          obtain rfl := Option.some.inj H
          go_wp2
          repeat (go_quiet (fail); try go_wp2)
          go_ret
          exact ⟨by first | rfl | (simp; done) | (simp [*]; done) | (simp [*, Fig.bne_nil]; done), by repeat (first | exact Drawn0.refl _ | apply Drawn0.step)⟩
  · rw [if_neg c3] at H
    have c3b0 : ((l0.length : Int) == (l1.length : Int)) = false := beq_eq_false_iff_ne.mpr c3
    have c3b1 : ((l0.length : Int) != (l1.length : Int)) = true := bne_iff_ne.mpr c3
    have c3b2 : (l0.length == l1.length) = false := by first | simpa using c3 | (simp at c3 ⊢; omega)
    obtain rfl := Option.some.inj H
    go_enter Try.func13, Try.ntmps13
    go_wp2
    repeat (go_quiet (fail); try go_wp2)
    go_ret
    exact ⟨by first | rfl | (simp; done) | (simp [*]; done) | (simp [*, Fig.bne_nil]; done), by repeat (first | exact Drawn0.refl _ | apply Drawn0.step)⟩

end Go.Proofs.Ytnpibnjncjieaaa.Px
