/- The functions that the law MulLaws reaches, told as plain functions, with what is proved of them (part 0). -/
import Derived.Test.YtkhmdpplpecgcaaPx0
namespace Go.Proofs.Ytkhmdpplpecgcaa.Px
open Fig Go.RowKit Go.Proofs.YtkhmdpplpecgcaaW.PrintWords Go.Proofs.YtkhmdpplpecgcaaW.PrintLast Go.Proofs.YtkhmdpplpecgcaaW.PrintMore
attribute [local go_sem] max2_int min2_int max_two min_two max_three min_three max_four min_four   -- for this text's walks alone

/-! ### figureheadref01_Good: function 32 -/
def figureheadref01_Good.l0 : Nat → List Int → Int → Option (Bool)
  | 0, _, _ => none
  | k + 1, x0, x3 => if x3 < (x0.length : Int) then (if 0 ≤ x3 then (if (rd x0 x3) > 999999999 then (some false) else (figureheadref01_Good.l0 k x0 (wrap64 (x3 + 1)))) else (none)) else (some true)
def figureheadref01_Good.f (k : Nat) (l0 : List Int) : Option (Bool) := figureheadref01_Good.l0 k l0 0
theorem figureheadref01_Good.mono_l : ∀ k, (∀ y0 y1, LeO (figureheadref01_Good.l0 k y0 y1) (figureheadref01_Good.l0 (k + 1) y0 y1))
  | 0 => fun _ _ r h => by simp [figureheadref01_Good.l0] at h
  | k + 1 => by
    have ih0 := figureheadref01_Good.mono_l k
    · intro y0 y1
      unfold figureheadref01_Good.l0
      repeat' first
      | (with_reducible exact ih0 _ _)
      | (with_reducible exact LeO.refl _)
      | (with_reducible exact LeO.none _)
      | (with_reducible refine LeO.ite ?_ ?_)
      | (with_reducible refine LeO.bind ?_ (fun _ => ?_))
      | exact ih0 _ _
      | exact LeO.none _
      | refine LeO.ite ?_ ?_
      | refine LeO.bind ?_ (fun _ => ?_)
theorem figureheadref01_Good.mono : ∀ a0 k, LeO (figureheadref01_Good.f k a0) (figureheadref01_Good.f (k + 1) a0) := by
  intro a0 k
  have ih0 := figureheadref01_Good.mono_l k
  unfold figureheadref01_Good.f
  repeat' first
      | (with_reducible exact ih0 _ _)
      | (with_reducible exact LeO.refl _)
      | (with_reducible exact LeO.none _)
      | (with_reducible refine LeO.ite ?_ ?_)
      | (with_reducible refine LeO.bind ?_ (fun _ => ?_))
      | exact ih0 _ _
      | exact LeO.none _
      | refine LeO.ite ?_ ?_
      | refine LeO.bind ?_ (fun _ => ?_)
set_option maxHeartbeats 8000000 in
set_option maxRecDepth 100000 in
theorem figureheadref01_Good.calls (k : Nat) (A0 : Option Addr) (c0 : Nat) (l0 : List Int) (r : Bool) (w : World) (hr0 : Kd.C (Kd.int .u32) w A0 l0.length l0) (hc0 : l0.length ≤ c0) (h : figureheadref01_Good.f k l0 = some r) :
    Calls Try.prog 32 #[.slice A0 l0.length c0] w fun e w' => e = .returned (.bool r) ∧ Drawn0 w w' := by
  have HR0 := Aside0.mk hr0
  have HC0 := Aside0.mk hc0
  clear hr0 hc0
  have H : (figureheadref01_Good.l0 k l0 0) = some r := h
  clear h
  have H' := Aside0.mk H
  clear H
  go_enter Try.func32, Try.ntmps32
  go_wp2
  go_loopg [3] k (fun kq v3 w' => ∃ (x3_1 : Int), v3 = .int .i64 x3_1 ∧ Aside0 (figureheadref01_Good.l0 kq l0 x3_1 = some r) ∧ Aside0 (kq ≤ k) ∧ Drawn0 w w')
  case atStart => exact ⟨(0), (by first | rfl | (simp; done) | (simp [*]; done)), H', ⟨Nat.le_refl _⟩, by repeat (first | exact Drawn0.refl _ | apply Drawn0.step)⟩
  case round =>
    clear H'
    obtain ⟨x3_1, rfl, HA, HK1, ⟨m1, rfl⟩⟩ := hrel
    cases gk with
    | zero => exact absurd HA.out (by simp [figureheadref01_Good.l0])
    | succ k1 =>
      have H := HA.out
      clear HA
      simp only [figureheadref01_Good.l0] at H
      by_cases c2 : x3_1 < (l0.length : Int)
      · rw [if_pos c2] at H
        have c2b0 : decide (x3_1 < (l0.length : Int)) = true := decide_eq_true c2
        clear c2
        by_cases c3 : 0 ≤ x3_1
        · rw [if_pos c3] at H
          have c3b0 : decide (0 ≤ x3_1) = true := decide_eq_true c3
          clear c3
          by_cases c4 : (rd l0 x3_1) > 999999999
          · rw [if_pos c4] at H
            have c4b0 : decide (999999999 < (rd l0 x3_1)) = true := decide_eq_true c4
            clear c4
            obtain rfl := Option.some.inj H
            have p101 : 0 ≤ (x3_1 : Int) := of_decide_eq_true (by first | (with_reducible assumption) | assumption)
            have q101 : x3_1 < (l0.length : Int) := of_decide_eq_true (by first | (with_reducible assumption) | assumption)
            obtain ⟨ad101, e101, hx101_0⟩ := Kd.at_int HR0.out x3_1 p101 q101
            cases e101
            replace p101 := eq_true p101
            replace q101 := eq_true q101
            go_wp2
            go_ret
            exact ⟨by first | rfl | (simp; done) | (simp [*]; done), by repeat (first | exact Drawn0.refl _ | apply Drawn0.step)⟩
          · rw [if_neg c4] at H
            have c4b0 : decide (999999999 < (rd l0 x3_1)) = false := decide_eq_false c4
            clear c4
            have H' := Aside0.mk H
            clear H
            have p101 : 0 ≤ (x3_1 : Int) := of_decide_eq_true (by first | (with_reducible assumption) | assumption)
            have q101 : x3_1 < (l0.length : Int) := of_decide_eq_true (by first | (with_reducible assumption) | assumption)
            obtain ⟨ad101, e101, hx101_0⟩ := Kd.at_int HR0.out x3_1 p101 q101
            cases e101
            replace p101 := eq_true p101
            replace q101 := eq_true q101
            go_wp2
            go_roundg k1
            case measure => have := HK1.out; omega
            case rel => exact ⟨(wrap64 (x3_1 + 1)), (by first | rfl | (simp; done) | (simp [*]; done)), H', ⟨by have := HK1.out; omega⟩, by repeat (first | exact Drawn0.refl _ | apply Drawn0.step)⟩
        · rw [if_neg c3] at H
          exact absurd H (by simp)
      · rw [if_neg c2] at H
        have c2b0 : decide (x3_1 < (l0.length : Int)) = false := decide_eq_false c2
        clear c2
        obtain rfl := Option.some.inj H
        go_wp2
        go_ret
        exact ⟨by first | rfl | (simp; done) | (simp [*]; done), by repeat (first | exact Drawn0.refl _ | apply Drawn0.step)⟩

end Go.Proofs.Ytkhmdpplpecgcaa.Px

namespace Go.Proofs.Ytkhmdpplpecgcaa.Px
open Fig Go.RowKit Go.Proofs.YtkhmdpplpecgcaaW.PrintWords Go.Proofs.YtkhmdpplpecgcaaW.PrintLast Go.Proofs.YtkhmdpplpecgcaaW.PrintMore
attribute [local go_sem] max2_int min2_int max_two min_two max_three min_three max_four min_four   -- for this text's walks alone

/-! ### figureheadlaw02_good: function 15 -/
def figureheadlaw02_good.l0 : Nat → List (List Int) → Int → Option (Bool)
  | 0, _, _ => none
  | k + 1, x0, x3 => if x3 < (x0.length : Int) then (if 0 ≤ x3 then (if ((rd_L1 x0 x3).length : Int) > 30 then (some false) else ((figureheadref01_Good.f k (rd_L1 x0 x3)).bind fun t104 => (if t104 = true then (figureheadlaw02_good.l0 k x0 (wrap64 (x3 + 1))) else (some false)))) else (none)) else (some true)
def figureheadlaw02_good.f (k : Nat) (l0 : List (List Int)) : Option (Bool) := figureheadlaw02_good.l0 k l0 0
theorem figureheadlaw02_good.mono_l : ∀ k, (∀ y0 y1, LeO (figureheadlaw02_good.l0 k y0 y1) (figureheadlaw02_good.l0 (k + 1) y0 y1))
  | 0 => fun _ _ r h => by simp [figureheadlaw02_good.l0] at h
  | k + 1 => by
    have ih0 := figureheadlaw02_good.mono_l k
    · intro y0 y1
      unfold figureheadlaw02_good.l0
      repeat' first
      | (with_reducible exact ih0 _ _)
      | (with_reducible exact figureheadref01_Good.mono _ _)
      | (with_reducible exact LeO.refl _)
      | (with_reducible exact LeO.none _)
      | (with_reducible refine LeO.ite ?_ ?_)
      | (with_reducible refine LeO.bind ?_ (fun _ => ?_))
      | exact ih0 _ _
      | exact figureheadref01_Good.mono _ _
      | exact LeO.none _
      | refine LeO.ite ?_ ?_
      | refine LeO.bind ?_ (fun _ => ?_)
theorem figureheadlaw02_good.mono : ∀ a0 k, LeO (figureheadlaw02_good.f k a0) (figureheadlaw02_good.f (k + 1) a0) := by
  intro a0 k
  have ih0 := figureheadlaw02_good.mono_l k
  unfold figureheadlaw02_good.f
  repeat' first
      | (with_reducible exact ih0 _ _)
      | (with_reducible exact figureheadref01_Good.mono _ _)
      | (with_reducible exact LeO.refl _)
      | (with_reducible exact LeO.none _)
      | (with_reducible refine LeO.ite ?_ ?_)
      | (with_reducible refine LeO.bind ?_ (fun _ => ?_))
      | exact ih0 _ _
      | exact figureheadref01_Good.mono _ _
      | exact LeO.none _
      | refine LeO.ite ?_ ?_
      | refine LeO.bind ?_ (fun _ => ?_)
set_option maxHeartbeats 8000000 in
set_option maxRecDepth 100000 in
theorem figureheadlaw02_good.calls (k : Nat) (A0 : Option Addr) (c0 : Nat) (l0 : List (List Int)) (r : Bool) (w : World) (hr0 : Kd.C (Kd.slice 30 (Kd.int .u32)) w A0 l0.length l0) (hc0 : l0.length ≤ c0) (h : figureheadlaw02_good.f k l0 = some r) :
    Calls Try.prog 15 #[.slice A0 l0.length c0] w fun e w' => e = .returned (.bool r) ∧ Drawn0 w w' := by
  have HR0 := Aside0.mk hr0
  have HC0 := Aside0.mk hc0
  clear hr0 hc0
  have H : (figureheadlaw02_good.l0 k l0 0) = some r := h
  clear h
  have H' := Aside0.mk H
  clear H
  go_enter Try.func15, Try.ntmps15
  go_wp2
  go_loopg [3] k (fun kq v3 w' => ∃ (x3_1 : Int), v3 = .int .i64 x3_1 ∧ Aside0 (figureheadlaw02_good.l0 kq l0 x3_1 = some r) ∧ Aside0 (kq ≤ k) ∧ Drawn0 w w')
  case atStart => exact ⟨(0), (by first | rfl | (simp; done) | (simp [*]; done)), H', ⟨Nat.le_refl _⟩, by repeat (first | exact Drawn0.refl _ | apply Drawn0.step)⟩
  case round =>
    clear H'
    try clear c1
    obtain ⟨x3_1, rfl, HA, HK1, ⟨m1, rfl⟩⟩ := hrel
    cases gk with
    | zero => exact absurd HA.out (by simp [figureheadlaw02_good.l0])
    | succ k1 =>
      have H := HA.out
      clear HA
      simp only [figureheadlaw02_good.l0] at H
      by_cases c2 : x3_1 < (l0.length : Int)
      · rw [if_pos c2] at H
        have c2b0 : decide (x3_1 < (l0.length : Int)) = true := decide_eq_true c2
        clear c2
        by_cases c3 : 0 ≤ x3_1
        · rw [if_pos c3] at H
          have c3b0 : decide (0 ≤ x3_1) = true := decide_eq_true c3
          clear c3
          by_cases c4 : ((rd_L1 l0 x3_1).length : Int) > 30
          · rw [if_pos c4] at H
            have c4b0 : decide (30 < ((rd_L1 l0 x3_1).length : Int)) = true := decide_eq_true c4
            have c4b1 : decide (30 < (rd_L1 l0 x3_1).length) = true := decide_eq_true (by omega)
            clear c4
            obtain rfl := Option.some.inj H
            have p102 : 0 ≤ (x3_1 : Int) := of_decide_eq_true (by first | (with_reducible assumption) | assumption)
            have q102 : x3_1 < (l0.length : Int) := of_decide_eq_true (by first | (with_reducible assumption) | assumption)
            obtain ⟨ad102, A102_0, c102_0, e102, hx102_0, hl102_0, hi102_0⟩ := at_L1 HR0.out x3_1 p102 q102
            cases e102
            have HR102_0 := Aside0.mk hi102_0
            have HC102_0 := Aside0.mk hl102_0
            clear hi102_0 hl102_0
            replace p102 := eq_true p102
            replace q102 := eq_true q102
            go_wp2
            go_ret
            exact ⟨by first | rfl | (simp; done) | (simp [*]; done), by repeat (first | exact Drawn0.refl _ | apply Drawn0.step)⟩
          · rw [if_neg c4] at H
            have c4b0 : decide (30 < ((rd_L1 l0 x3_1).length : Int)) = false := decide_eq_false c4
            have c4b1 : decide (30 < (rd_L1 l0 x3_1).length) = false := decide_eq_false (by omega)
            clear c4
            replace H := Option.bind_eq_some_iff.mp H
            obtain ⟨t104, A50, H⟩ := H
            replace H : (if t104 = true then (figureheadlaw02_good.l0 k1 l0 (wrap64 (x3_1 + 1))) else (some false)) = some r := H
            have A5 := Aside0.mk A50
            clear A50
            by_cases c6 : t104 = true
            · subst c6
              have H1 : (figureheadlaw02_good.l0 k1 l0 (wrap64 (x3_1 + 1))) = some r := by rw [if_pos rfl] at H; exact H
              clear H
              have H := H1
              clear H1
              have H' := Aside0.mk H
              clear H
              have p102 : 0 ≤ (x3_1 : Int) := of_decide_eq_true (by first | (with_reducible assumption) | assumption)
              have q102 : x3_1 < (l0.length : Int) := of_decide_eq_true (by first | (with_reducible assumption) | assumption)
              obtain ⟨ad102, A102_0, c102_0, e102, hx102_0, hl102_0, hi102_0⟩ := at_L1 HR0.out x3_1 p102 q102
              cases e102
              have HR102_0 := Aside0.mk hi102_0
              have HC102_0 := Aside0.mk hl102_0
              clear hi102_0 hl102_0
              replace p102 := eq_true p102
              replace q102 := eq_true q102
              have p103 : 0 ≤ (x3_1 : Int) := of_decide_eq_true (by first | (with_reducible assumption) | assumption)
              have q103 : x3_1 < (l0.length : Int) := of_decide_eq_true (by first | (with_reducible assumption) | assumption)
              obtain ⟨ad103, A103_0, c103_0, e103, hx103_0, hl103_0, hi103_0⟩ := at_L1 HR0.out x3_1 p103 q103
              obtain rfl : ad102 = ad103 := (by injection e103)
              have HR103_0 := Aside0.mk hi103_0
              have HC103_0 := Aside0.mk hl103_0
              clear hi103_0 hl103_0
              replace p103 := eq_true p103
              replace q103 := eq_true q103
              have ea_ := Option.some.inj (hx102_0.symm.trans hx103_0)
              injection ea_ with ea_ en_ ec_
              subst ea_
              subst ec_
              clear en_
              go_wp2_with (first | ((with_reducible refine gate_dst (N := 21) rfl ?_); (refine gate_guard (by rfl) ?_; dsimp only); (with_reducible refine gate_callee (f := 32) rfl ?_); refine goesL_ (some 21) rfl rfl Try.func32 (by kernel_rfl) rfl #[.slice A102_0 (rd_L1 l0 x3_1).length c102_0] rfl (by (try simp only [List.map_toArray, List.map_cons, List.map_nil]); first | done | rfl | (simp only [List.length_drop, List.length_take]; rfl)) ?_; (with_reducible refine (figureheadref01_Good.calls k1 _ _ (rd_L1 l0 x3_1) true _ ?side1 ?side2 A5.out).mono ?_); (case side1 => repeat (first | exact HR103_0.out | (with_reducible refine Kd.C_alloc ?_ _) | (with_reducible refine Kd.C_drewN ?_ _) | (with_reducible refine Kd.C_drew ?_))); (case side2 => exact HC103_0.out); rintro e w' ⟨rfl, ⟨nd, rfl⟩⟩; refine ⟨_, rfl, ?_⟩))
              go_roundg k1
              case measure => have := HK1.out; omega
              case rel => exact ⟨(wrap64 (x3_1 + 1)), (by first | rfl | (simp; done) | (simp [*]; done)), H', ⟨by have := HK1.out; omega⟩, by repeat (first | exact Drawn0.refl _ | apply Drawn0.step)⟩
            · replace c6 := Bool.eq_false_iff.mpr c6
              subst c6
              have H1 : (some false) = some r := by rw [if_neg (show ¬ (false = true) by decide)] at H; exact H
              clear H
              have H := H1
              clear H1
              obtain rfl := Option.some.inj H
              have p102 : 0 ≤ (x3_1 : Int) := of_decide_eq_true (by first | (with_reducible assumption) | assumption)
              have q102 : x3_1 < (l0.length : Int) := of_decide_eq_true (by first | (with_reducible assumption) | assumption)
              obtain ⟨ad102, A102_0, c102_0, e102, hx102_0, hl102_0, hi102_0⟩ := at_L1 HR0.out x3_1 p102 q102
              cases e102
              have HR102_0 := Aside0.mk hi102_0
              have HC102_0 := Aside0.mk hl102_0
              clear hi102_0 hl102_0
              replace p102 := eq_true p102
              replace q102 := eq_true q102
              have p103 : 0 ≤ (x3_1 : Int) := of_decide_eq_true (by first | (with_reducible assumption) | assumption)
              have q103 : x3_1 < (l0.length : Int) := of_decide_eq_true (by first | (with_reducible assumption) | assumption)
              obtain ⟨ad103, A103_0, c103_0, e103, hx103_0, hl103_0, hi103_0⟩ := at_L1 HR0.out x3_1 p103 q103
              obtain rfl : ad102 = ad103 := (by injection e103)
              have HR103_0 := Aside0.mk hi103_0
              have HC103_0 := Aside0.mk hl103_0
              clear hi103_0 hl103_0
              replace p103 := eq_true p103
              replace q103 := eq_true q103
              have ea_ := Option.some.inj (hx102_0.symm.trans hx103_0)
              injection ea_ with ea_ en_ ec_
              subst ea_
              subst ec_
              clear en_
              go_wp2_with (first | ((with_reducible refine gate_dst (N := 21) rfl ?_); (refine gate_guard (by rfl) ?_; dsimp only); (with_reducible refine gate_callee (f := 32) rfl ?_); refine goesL_ (some 21) rfl rfl Try.func32 (by kernel_rfl) rfl #[.slice A102_0 (rd_L1 l0 x3_1).length c102_0] rfl (by (try simp only [List.map_toArray, List.map_cons, List.map_nil]); first | done | rfl | (simp only [List.length_drop, List.length_take]; rfl)) ?_; (with_reducible refine (figureheadref01_Good.calls k1 _ _ (rd_L1 l0 x3_1) false _ ?side1 ?side2 A5.out).mono ?_); (case side1 => repeat (first | exact HR103_0.out | (with_reducible refine Kd.C_alloc ?_ _) | (with_reducible refine Kd.C_drewN ?_ _) | (with_reducible refine Kd.C_drew ?_))); (case side2 => exact HC103_0.out); rintro e w' ⟨rfl, ⟨nd, rfl⟩⟩; refine ⟨_, rfl, ?_⟩))
              go_ret
              exact ⟨by first | rfl | (simp; done) | (simp [*]; done), by repeat (first | exact Drawn0.refl _ | apply Drawn0.step)⟩
        · rw [if_neg c3] at H
          exact absurd H (by simp)
      · rw [if_neg c2] at H
        have c2b0 : decide (x3_1 < (l0.length : Int)) = false := decide_eq_false c2
        clear c2
        obtain rfl := Option.some.inj H
        go_wp2
        go_ret
        exact ⟨by first | rfl | (simp; done) | (simp [*]; done), by repeat (first | exact Drawn0.refl _ | apply Drawn0.step)⟩

end Go.Proofs.Ytkhmdpplpecgcaa.Px

namespace Go.Proofs.Ytkhmdpplpecgcaa.Px
open Fig Go.RowKit Go.Proofs.YtkhmdpplpecgcaaW.PrintWords Go.Proofs.YtkhmdpplpecgcaaW.PrintLast Go.Proofs.YtkhmdpplpecgcaaW.PrintMore
attribute [local go_sem] max2_int min2_int max_two min_two max_three min_three max_four min_four   -- for this text's walks alone

/-! ### nat_top: function 38 -/
def nat_top.l0 : Nat → List Int → Int → Option (Int)
  | 0, _, _ => none
  | k + 1, x0, x3 => if x3 > 0 then (if 0 ≤ (wrap64 (x3 - 1)) then (if (wrap64 (x3 - 1)) < (x0.length : Int) then (if (rd x0 (wrap64 (x3 - 1))) = 0 then (nat_top.l0 k x0 (wrap64 (x3 - 1))) else (some x3)) else (none)) else (none)) else (some x3)
def nat_top.f (k : Nat) (l0 : List Int) : Option (Int) := nat_top.l0 k l0 (l0.length : Int)
theorem nat_top.mono_l : ∀ k, (∀ y0 y1, LeO (nat_top.l0 k y0 y1) (nat_top.l0 (k + 1) y0 y1))
  | 0 => fun _ _ r h => by simp [nat_top.l0] at h
  | k + 1 => by
    have ih0 := nat_top.mono_l k
    · intro y0 y1
      unfold nat_top.l0
      repeat' first
      | (with_reducible exact ih0 _ _)
      | (with_reducible exact LeO.refl _)
      | (with_reducible exact LeO.none _)
      | (with_reducible refine LeO.ite ?_ ?_)
      | (with_reducible refine LeO.bind ?_ (fun _ => ?_))
      | exact ih0 _ _
      | exact LeO.none _
      | refine LeO.ite ?_ ?_
      | refine LeO.bind ?_ (fun _ => ?_)
theorem nat_top.mono : ∀ a0 k, LeO (nat_top.f k a0) (nat_top.f (k + 1) a0) := by
  intro a0 k
  have ih0 := nat_top.mono_l k
  unfold nat_top.f
  repeat' first
      | (with_reducible exact ih0 _ _)
      | (with_reducible exact LeO.refl _)
      | (with_reducible exact LeO.none _)
      | (with_reducible refine LeO.ite ?_ ?_)
      | (with_reducible refine LeO.bind ?_ (fun _ => ?_))
      | exact ih0 _ _
      | exact LeO.none _
      | refine LeO.ite ?_ ?_
      | refine LeO.bind ?_ (fun _ => ?_)
set_option maxHeartbeats 8000000 in
set_option maxRecDepth 100000 in
theorem nat_top.calls (k : Nat) (A0 : Option Addr) (c0 : Nat) (l0 : List Int) (r : Int) (w : World) (hr0 : Kd.C (Kd.int .u32) w A0 l0.length l0) (hc0 : l0.length ≤ c0) (h : nat_top.f k l0 = some r) :
    Calls Try.prog 38 #[.slice A0 l0.length c0] w fun e w' => e = .returned (.int .i64 r) ∧ Drawn0 w w' := by
  have HR0 := Aside0.mk hr0
  have HC0 := Aside0.mk hc0
  clear hr0 hc0
  have H : (nat_top.l0 k l0 (l0.length : Int)) = some r := h
  clear h
  have H' := Aside0.mk H
  clear H
  go_enter Try.func38, Try.ntmps38
  go_wp2
  go_loopg [3] k (fun kq v3 w' => ∃ (x3_1 : Int), v3 = .int .i64 x3_1 ∧ Aside0 (nat_top.l0 kq l0 x3_1 = some r) ∧ Aside0 (kq ≤ k) ∧ Drawn0 w w')
  case atStart => exact ⟨((l0.length : Int)), (by first | rfl | (simp; done) | (simp [*]; done)), H', ⟨Nat.le_refl _⟩, by repeat (first | exact Drawn0.refl _ | apply Drawn0.step)⟩
  case round =>
    clear H'
    obtain ⟨x3_1, rfl, HA, HK1, ⟨m1, rfl⟩⟩ := hrel
    cases gk with
    | zero => exact absurd HA.out (by simp [nat_top.l0])
    | succ k1 =>
      have H := HA.out
      clear HA
      simp only [nat_top.l0] at H
      by_cases c2 : x3_1 > 0
      · rw [if_pos c2] at H
        have c2b0 : decide (0 < x3_1) = true := decide_eq_true c2
        clear c2
        obtain ⟨ji3, hji3⟩ : ∃ j_ : Int, (wrap64 (x3_1 - 1)) = j_ := ⟨_, rfl⟩
        replace H : (if 0 ≤ (ji3) then (if (ji3) < (l0.length : Int) then (if (rd l0 (ji3)) = 0 then (nat_top.l0 k1 l0 ji3) else (some x3_1)) else (none)) else (none)) = some r := by first | (rw [hji3] at H; exact H) | (simp only [hji3] at H ⊢; exact H)
        have hji3w : (IntKind.i64.wrap (x3_1 - 1)) = ji3 := (i64_w _).trans hji3
        by_cases c4 : 0 ≤ (ji3)
        · rw [if_pos c4] at H
          have c4b0 : decide (0 ≤ (ji3)) = true := decide_eq_true c4
          clear c4
          by_cases c5 : (ji3) < (l0.length : Int)
          · rw [if_pos c5] at H
            have c5b0 : decide ((ji3) < (l0.length : Int)) = true := decide_eq_true c5
            clear c5
            by_cases c6 : (rd l0 (ji3)) = 0
            · rw [if_pos c6] at H
              have c6b0 : ((rd l0 (ji3)) == 0) = true := beq_iff_eq.mpr c6
              have c6b1 : ((rd l0 (ji3)) != 0) = false := bne_eq_false_iff_eq.mpr c6
              clear c6
              have H' := Aside0.mk H
              clear H
              have p105 : 0 ≤ ((ji3) : Int) := of_decide_eq_true (by first | (with_reducible assumption) | assumption)
              have q105 : (ji3) < (l0.length : Int) := of_decide_eq_true (by first | (with_reducible assumption) | assumption)
              obtain ⟨ad105, e105, hx105_0⟩ := Kd.at_int HR0.out (ji3) p105 q105
              cases e105
              replace p105 := eq_true p105
              replace q105 := eq_true q105
              go_wp2
              go_roundg k1
              case measure => have := HK1.out; omega
              case rel => exact ⟨(ji3), (by first | rfl | (simp; done) | (simp only [← hji3] <;> (first | rfl | simp)) | (simp [*]; done)), H', ⟨by have := HK1.out; omega⟩, by repeat (first | exact Drawn0.refl _ | apply Drawn0.step)⟩
            · rw [if_neg c6] at H
              have c6b0 : ((rd l0 (ji3)) == 0) = false := beq_eq_false_iff_ne.mpr c6
              have c6b1 : ((rd l0 (ji3)) != 0) = true := bne_iff_ne.mpr c6
              obtain rfl := Option.some.inj H
              have p105 : 0 ≤ ((ji3) : Int) := of_decide_eq_true (by first | (with_reducible assumption) | assumption)
              have q105 : (ji3) < (l0.length : Int) := of_decide_eq_true (by first | (with_reducible assumption) | assumption)
              obtain ⟨ad105, e105, hx105_0⟩ := Kd.at_int HR0.out (ji3) p105 q105
              cases e105
              replace p105 := eq_true p105
              replace q105 := eq_true q105
              go_wp2
              go_ret
              exact ⟨by first | rfl | (simp; done) | (simp only [← hji3] <;> (first | rfl | simp)) | (simp [*]; done), by repeat (first | exact Drawn0.refl _ | apply Drawn0.step)⟩
          · rw [if_neg c5] at H
            exact absurd H (by simp)
        · rw [if_neg c4] at H
          exact absurd H (by simp)
      · rw [if_neg c2] at H
        have c2b0 : decide (0 < x3_1) = false := decide_eq_false c2
        clear c2
        obtain rfl := Option.some.inj H
        go_wp2
        go_ret
        exact ⟨by first | rfl | (simp; done) | (simp [*]; done), by repeat (first | exact Drawn0.refl _ | apply Drawn0.step)⟩

end Go.Proofs.Ytkhmdpplpecgcaa.Px

namespace Go.Proofs.Ytkhmdpplpecgcaa.Px
open Fig Go.RowKit Go.Proofs.YtkhmdpplpecgcaaW.PrintWords Go.Proofs.YtkhmdpplpecgcaaW.PrintLast Go.Proofs.YtkhmdpplpecgcaaW.PrintMore
attribute [local go_sem] max2_int min2_int max_two min_two max_three min_three max_four min_four   -- for this text's walks alone

/-! plain facts: nat_top -/
theorem top_loop (l : List Int) (hl : l.length ≤ 4611686018427387904) : ∀ (n : Nat), n ≤ l.length → Ev (fun k => nat_top.l0 k l (n : Int)) (((trimL (l.take n)).length : Nat) : Int)
  | 0, hn => by
    refine evDone (r' := ((0 : Nat) : Int)) (fun k => ?_) (by simp [trimL])
    simp only [nat_top.l0]; rw [if_neg (by omega)]
  | n + 1, hn => by
    have hlt : n < l.length := by omega
    rw [List.take_succ_eq_append_getElem hlt]
    by_cases h0 : l[n] = 0
    · refine evIs (Ev.step (f := fun k => nat_top.l0 k l (n : Int)) (fun k => ?_) (top_loop l hl n (by omega))) (by rw [h0, trimL_snoc_zero])
      simp only [nat_top.l0]; rw [if_pos (by omega), pred64 _ (by omega), if_pos (by omega), if_pos (by omega), rd_get hlt, if_pos h0]
    · refine evDone (r' := ((n + 1 : Nat) : Int)) (fun k => ?_) (by rw [trimL_snoc h0]; simp; omega)
      simp only [nat_top.l0]; rw [if_pos (by omega), pred64 _ (by omega), if_pos (by omega), if_pos (by omega), rd_get hlt, if_neg h0]
theorem top_ev {l : List Int} (hl : l.length ≤ 4611686018427387904) : Ev (fun k => nat_top.f k l) (((trimL l).length : Nat) : Int) := by
  have := top_loop l hl l.length (Nat.le_refl _)
  rwa [List.take_length] at this
theorem top_at {l : List Int} (hl : l.length ≤ 4611686018427387904) : ∃ k, nat_top.f k l = some (((trimL l).length : Nat) : Int) := (top_ev hl).rounds

end Go.Proofs.Ytkhmdpplpecgcaa.Px

namespace Go.Proofs.Ytkhmdpplpecgcaa.Px
open Fig Go.RowKit Go.Proofs.YtkhmdpplpecgcaaW.PrintWords Go.Proofs.YtkhmdpplpecgcaaW.PrintLast Go.Proofs.YtkhmdpplpecgcaaW.PrintMore
attribute [local go_sem] max2_int min2_int max_two min_two max_three min_three max_four min_four   -- for this text's walks alone

/-! ### nat_Trim: function 31 -/
def nat_Trim.f (l0 : List Int) : Option (List Int) := trimF l0
set_option maxHeartbeats 1000000 in
theorem nat_Trim.calls (A0 : Option Addr) (c0 : Nat) (l0 : List Int) (r : List Int) (w : World) (hr0 : Kd.C (Kd.int .u32) w A0 l0.length l0) (hc0 : l0.length ≤ c0) (h : nat_Trim.f l0 = some r) :
    Calls Try.prog 31 #[.slice A0 l0.length c0] w fun e w' => ∃ v0_ : Value, e = .returned (v0_) ∧ Kd.R (Kd.int .u32) 30 w' w.heap.size (fun _ => True) v0_ r ∧ Below w.heap.size w w' := by
  unfold nat_Trim.f trimF at h
  by_cases hl : l0.length ≤ 2000000000000
  · rw [if_pos hl] at h
    obtain rfl := Option.some.inj h
    obtain ⟨k, hk⟩ := top_at (l := l0) (by omega)
    have ht := trimL_len l0
    have hk' := Aside0.mk hk
    have htk := Aside0.mk (Fig.take_trim l0)
    obtain ⟨n, hn⟩ : ∃ n, n = (trimL l0).length := ⟨_, rfl⟩
    rw [← hn] at hk' ht htk
    have hn' := Aside0.mk hn
    have HR0 := Aside0.mk hr0
    have HC0 := Aside0.mk hc0
    clear h hk hr0 hc0 hn
    go_enter Try.func31, Try.ntmps31
    go_wp2_with (first
      | (go_at_call 38; (with_reducible refine (nat_top.calls k _ _ l0 (n : Int) _ ?side1 ?side2 hk'.out).mono ?_); (case side1 => exact HR0.out); (case side2 => exact HC0.out); rintro e w' ⟨rfl, ⟨nd, rfl⟩⟩)
      | ((with_reducible refine gate_dst (N := 6) rfl ?_); refine Kd.R_make (Kd.int .u32) w.heap.size 30 rfl (N := 6) rfl 22 _ _ rfl (n : Int) rfl rfl Try.underlying22 (.int .u32 0) 4 info30 rfl (by decide) (by omega) 0 (ok := fun _ => True) (okp := fun _ => True) rfl (fun _ hk => hk) trivial (by omega) (by omega) (w0 := w) (pw_below_drewN (Below.refl _ _) _) (Nat.le_refl _) ?_; intro v6 w6 ho6 hb6 hg_ hnew_; clear hg_ hnew_; rw [Int.toNat_natCast] at ho6; have HO6 := Aside0.mk ho6; have HB6 := Aside0.mk hb6; clear ho6 hb6)
      | ((with_reducible refine gate_dst (N := 9) rfl ?_); refine R_copy (k := .u32) w.heap.size rfl _ _ 22 30 rfl Try.underlying22 (by kernel_rfl) v6 (List.replicate n 0) l0 A0 l0.length c0 (fun _ => True) rfl rfl HO6.out (Kd.C_below HR0.out HB6.out) ?cs HB6.out ?_; (case cs => rw [List.length_replicate]; exact ht); intro w9 ho9 hb9; rw [List.length_replicate, htk.out] at ho9; have HO9 := Aside0.mk ho9; have HB9 := Aside0.mk hb9; clear ho9 hb9))
    go_ret
    exact ⟨_, rfl, HO9.out, HB9.out⟩
  · rw [if_neg hl] at h; cases h

end Go.Proofs.Ytkhmdpplpecgcaa.Px

namespace Go.Proofs.Ytkhmdpplpecgcaa.Px
open Fig Go.RowKit Go.Proofs.YtkhmdpplpecgcaaW.PrintWords Go.Proofs.YtkhmdpplpecgcaaW.PrintLast Go.Proofs.YtkhmdpplpecgcaaW.PrintMore
attribute [local go_sem] max2_int min2_int max_two min_two max_three min_three max_four min_four   -- for this text's walks alone

/-! ### mul_row: function 34 -/
mutual
def mul_row.l0 : Nat → List Int → List Int → Int → Int → Int → List Int → Int → Int → Option (List Int)
  | 0, _, _, _, _, _, _, _, _ => none
  | k + 1, x0, x1, x2, x3, x8, x14, x15, x16 => if x16 < x15 then (if 0 ≤ x16 then (if x16 < (x14.length : Int) then (if 0 ≤ (wrap64 (x3 + x16)) then (if (wrap64 (x3 + x16)) < (x0.length : Int) then (mul_row.l0 k (x0.set ((wrap64 (x3 + x16)) : Int).toNat ((Int.tmod (IntKind.u64.wrap ((IntKind.u64.wrap ((IntKind.u64.wrap (rd x0 (wrap64 (x3 + x16)))) + (IntKind.u64.wrap ((IntKind.u64.wrap (rd x14 x16)) * (IntKind.u64.wrap (x2)))))) + x8)) 1000000000) % 4294967296)) x1 x2 x3 (IntKind.u64.wrap (Int.tdiv (IntKind.u64.wrap ((IntKind.u64.wrap ((IntKind.u64.wrap (rd x0 (wrap64 (x3 + x16)))) + (IntKind.u64.wrap ((IntKind.u64.wrap (rd x14 x16)) * (IntKind.u64.wrap (x2)))))) + x8)) 1000000000)) x14 x15 (wrap64 (x16 + 1))) else (none)) else (none)) else (none)) else (none)) else (mul_row.l1 k x0 x8 (wrap64 (x3 + (x1.length : Int))))
def mul_row.l1 : Nat → List Int → Int → Int → Option (List Int)
  | 0, _, _, _ => none
  | k + 1, x0, x8, x12 => if x8 > 0 then (if 0 ≤ x12 then (if x12 < (x0.length : Int) then (mul_row.l1 k (x0.set (x12 : Int).toNat ((Int.tmod (IntKind.u64.wrap ((IntKind.u64.wrap (rd x0 x12)) + x8)) 1000000000) % 4294967296)) (IntKind.u64.wrap (Int.tdiv (IntKind.u64.wrap ((IntKind.u64.wrap (rd x0 x12)) + x8)) 1000000000)) (wrap64 (x12 + 1))) else (none)) else (none)) else (some x0)
end
def mul_row.f (k : Nat) (l0 : List Int) (l1 : List Int) (a2 : Int) (a3 : Int) : Option (List Int) := mul_row.l0 k l0 l1 a2 a3 0 l1 (l1.length : Int) 0
theorem mul_row.mono_l : ∀ k, (∀ y0 y1 y2 y3 y4 y5 y6 y7, LeO (mul_row.l0 k y0 y1 y2 y3 y4 y5 y6 y7) (mul_row.l0 (k + 1) y0 y1 y2 y3 y4 y5 y6 y7)) ∧ (∀ y0 y1 y2, LeO (mul_row.l1 k y0 y1 y2) (mul_row.l1 (k + 1) y0 y1 y2))
  | 0 => ⟨fun _ _ _ _ _ _ _ _ r h => by simp [mul_row.l0] at h, fun _ _ _ r h => by simp [mul_row.l1] at h⟩
  | k + 1 => by
    obtain ⟨ih0, ih1⟩ := mul_row.mono_l k
    refine ⟨?_, ?_⟩
    · intro y0 y1 y2 y3 y4 y5 y6 y7
      unfold mul_row.l0
      repeat' first
      | (with_reducible exact ih0 _ _ _ _ _ _ _ _)
      | (with_reducible exact ih1 _ _ _)
      | (with_reducible exact LeO.refl _)
      | (with_reducible exact LeO.none _)
      | (with_reducible refine LeO.ite ?_ ?_)
      | (with_reducible refine LeO.bind ?_ (fun _ => ?_))
      | exact ih0 _ _ _ _ _ _ _ _
      | exact ih1 _ _ _
      | exact LeO.none _
      | refine LeO.ite ?_ ?_
      | refine LeO.bind ?_ (fun _ => ?_)
    · intro y0 y1 y2
      unfold mul_row.l1
      repeat' first
      | (with_reducible exact ih0 _ _ _ _ _ _ _ _)
      | (with_reducible exact ih1 _ _ _)
      | (with_reducible exact LeO.refl _)
      | (with_reducible exact LeO.none _)
      | (with_reducible refine LeO.ite ?_ ?_)
      | (with_reducible refine LeO.bind ?_ (fun _ => ?_))
      | exact ih0 _ _ _ _ _ _ _ _
      | exact ih1 _ _ _
      | exact LeO.none _
      | refine LeO.ite ?_ ?_
      | refine LeO.bind ?_ (fun _ => ?_)
theorem mul_row.mono : ∀ a0 a1 a2 a3 k, LeO (mul_row.f k a0 a1 a2 a3) (mul_row.f (k + 1) a0 a1 a2 a3) := by
  intro a0 a1 a2 a3 k
  obtain ⟨ih0, ih1⟩ := mul_row.mono_l k
  unfold mul_row.f
  repeat' first
      | (with_reducible exact ih0 _ _ _ _ _ _ _ _)
      | (with_reducible exact ih1 _ _ _)
      | (with_reducible exact LeO.refl _)
      | (with_reducible exact LeO.none _)
      | (with_reducible refine LeO.ite ?_ ?_)
      | (with_reducible refine LeO.bind ?_ (fun _ => ?_))
      | exact ih0 _ _ _ _ _ _ _ _
      | exact ih1 _ _ _
      | exact LeO.none _
      | refine LeO.ite ?_ ?_
      | refine LeO.bind ?_ (fun _ => ?_)
set_option maxHeartbeats 8000000 in
set_option maxRecDepth 100000 in
theorem mul_row.calls (k : Nat) (P0_ : Nat → Prop) (u9000_ : Value) (l0 : List Int) (A1 : Option Addr) (c1 : Nat) (l1 : List Int) (a2 : Int) (a3 : Int) (r : List Int) (w0 w : World) (hB : Below w0.heap.size w0 w) (ho0 : Kd.R (Kd.int .u32) 30 w w0.heap.size P0_ u9000_ l0) (hr1 : ∀ W_, Kept w W_ (fun k_ => P0_ k_) → Kd.C (Kd.int .u32) W_ A1 l1.length l1) (hc1 : l1.length ≤ c1) (h : mul_row.f k l0 l1 a2 a3 = some r) :
    Calls Try.prog 34 #[u9000_, .slice A1 l1.length c1, .int .u32 a2, .int .i64 a3] w fun e w' => e = .returned (.tuple #[]) ∧ Kd.R (Kd.int .u32) 30 w' w0.heap.size (fun k_ => (P0_ k_ ∨ w.heap.size ≤ k_)) u9000_ r ∧ Below w0.heap.size w0 w' ∧ Kept w w' (fun k_ => P0_ k_) := by
  have HO0 := Aside0.mk (show Kd.R (Kd.int .u32) 30 w w0.heap.size (fun k_ => (P0_ k_ ∨ w.heap.size ≤ k_)) u9000_ l0 from Kd.R_mono ho0 (fun k_ hk => (.inl hk)))
  have HR1 := Aside0.mk hr1
  have HC1 := Aside0.mk hc1
  clear hr1 hc1
  have HK := Aside0.mk (Kept.refl w (fun k_ => P0_ k_))
  have HW0 := Aside0.mk hB.size
  have HB := Aside0.mk hB
  clear hB
  have H : (mul_row.l0 k l0 l1 a2 a3 0 l1 (l1.length : Int) 0) = some r := h
  clear h
  have H' := Aside0.mk H
  clear H
  go_enter Try.func34, Try.ntmps34
  go_wp2
  go_loopg [8, 16] k (fun kq v8 v16 w' => ∃ (x0_1 : List Int) (x8_1 : Int) (x16_1 : Int), v8 = .int .u64 x8_1 ∧ v16 = .int .i64 x16_1 ∧ Aside0 (mul_row.l0 kq x0_1 l1 a2 a3 x8_1 l1 (l1.length : Int) x16_1 = some r) ∧ Aside0 (kq ≤ k) ∧ Aside0 (Kd.R (Kd.int .u32) 30 w' w0.heap.size (fun k_ => (P0_ k_ ∨ w.heap.size ≤ k_)) u9000_ x0_1) ∧ Aside0 (Kept w w' (fun k_ => P0_ k_)) ∧ Aside0 (Below w0.heap.size w0 w'))
  case atStart => exact ⟨(l0), (0), (0), (by first | rfl | (simp; done) | (simp [*]; done)), (by first | rfl | (simp; done) | (simp [*]; done)), H', ⟨Nat.le_refl _⟩, ⟨by (with_reducible repeat (first | apply Kd.R_alloc | apply Kd.R_drewN | apply Kd.R_drew)); exact HO0.out⟩, ⟨by repeat (first | (with_reducible first | exact HK.out | apply Kept.alloc | apply Kept.drewN | apply Kept.drew) | exact HK.out)⟩, ⟨by repeat (first | (with_reducible first | exact HB.out | apply below_alloc | apply pw_below_drewN | apply below_drew1) | exact HB.out)⟩⟩
  case round =>
    clear H'
    try clear c1
    try clear p2
    try clear c3
    obtain ⟨x0_1, x8_1, x16_1, rfl, rfl, HA, HK1, HO_0, HK, HB⟩ := hrel
    cases gk with
    | zero => exact absurd HA.out (by simp [mul_row.l0])
    | succ k1 =>
      have H := HA.out
      clear HA
      simp only [mul_row.l0] at H
      by_cases c5 : x16_1 < (l1.length : Int)
      · rw [if_pos c5] at H
        have c5b0 : decide (x16_1 < (l1.length : Int)) = true := decide_eq_true c5
        clear c5
        by_cases c6 : 0 ≤ x16_1
        · rw [if_pos c6] at H
          have c6b0 : decide (0 ≤ x16_1) = true := decide_eq_true c6
          clear c6
          by_cases c7 : x16_1 < (l1.length : Int)
          · rw [if_pos c7] at H
            have c7b0 : decide (x16_1 < (l1.length : Int)) = true := decide_eq_true c7
            clear c7
            obtain ⟨ji8, hji8⟩ : ∃ j_ : Int, (wrap64 (a3 + x16_1)) = j_ := ⟨_, rfl⟩
            replace H : (if 0 ≤ (ji8) then (if (ji8) < (x0_1.length : Int) then (mul_row.l0 k1 (x0_1.set ((ji8) : Int).toNat ((Int.tmod (IntKind.u64.wrap ((IntKind.u64.wrap ((IntKind.u64.wrap (rd x0_1 (ji8))) + (IntKind.u64.wrap ((IntKind.u64.wrap (rd l1 x16_1)) * (IntKind.u64.wrap (a2)))))) + x8_1)) 1000000000) % 4294967296)) l1 a2 a3 (IntKind.u64.wrap (Int.tdiv (IntKind.u64.wrap ((IntKind.u64.wrap ((IntKind.u64.wrap (rd x0_1 (ji8))) + (IntKind.u64.wrap ((IntKind.u64.wrap (rd l1 x16_1)) * (IntKind.u64.wrap (a2)))))) + x8_1)) 1000000000)) l1 (l1.length : Int) (wrap64 (x16_1 + 1))) else (none)) else (none)) = some r := by first | (rw [hji8] at H; exact H) | (simp only [hji8] at H ⊢; exact H)
            have hji8w : (IntKind.i64.wrap (a3 + x16_1)) = ji8 := (i64_w _).trans hji8
            by_cases c9 : 0 ≤ (ji8)
            · rw [if_pos c9] at H
              have c9b0 : decide (0 ≤ (ji8)) = true := decide_eq_true c9
              clear c9
              by_cases c10 : (ji8) < (x0_1.length : Int)
              · rw [if_pos c10] at H
                have c10b0 : decide ((ji8) < (x0_1.length : Int)) = true := decide_eq_true c10
                clear c10
                obtain ⟨y108, hy108⟩ : ∃ y_ : List Int, y_ = (x0_1.set ((ji8) : Int).toNat ((Int.tmod (IntKind.u64.wrap ((IntKind.u64.wrap ((IntKind.u64.wrap (rd x0_1 (ji8))) + (IntKind.u64.wrap ((IntKind.u64.wrap (rd l1 x16_1)) * (IntKind.u64.wrap (a2)))))) + x8_1)) 1000000000) % 4294967296)) := ⟨_, rfl⟩
                replace H : (mul_row.l0 k1 y108 l1 a2 a3 (IntKind.u64.wrap (Int.tdiv (IntKind.u64.wrap ((IntKind.u64.wrap ((IntKind.u64.wrap (rd x0_1 (ji8))) + (IntKind.u64.wrap ((IntKind.u64.wrap (rd l1 x16_1)) * (IntKind.u64.wrap (a2)))))) + x8_1)) 1000000000)) l1 (l1.length : Int) (wrap64 (x16_1 + 1))) = some r := by first | (rw [hy108]; with_reducible exact H) | (have H2_ := (Option.bind_some _ _).symm.trans H; rw [hy108]; with_reducible exact H2_) | (have H2_ := (Option.bind_some _ _).symm.trans H; with_reducible exact H2_) | with_reducible exact H | (rw [hy108]; exact H) | exact H
                have Ny108 := Aside0.mk hy108
                clear hy108
                have H' := Aside0.mk H
                clear H
                have p106 : 0 ≤ (x16_1 : Int) := of_decide_eq_true (by first | (with_reducible assumption) | assumption)
                have q106 : x16_1 < (l1.length : Int) := of_decide_eq_true (by first | (with_reducible assumption) | assumption)
                obtain ⟨ad106, e106, hx106_0⟩ := Kd.at_int (Kd.C_kept_now HR1.out HK.out) x16_1 p106 q106
                cases e106
                replace p106 := eq_true p106
                replace q106 := eq_true q106
                obtain ⟨Ao12, co12, eo12⟩ := Kd.R_slice HO_0.out
                subst eo12
                have p107 : 0 ≤ ((ji8) : Int) := of_decide_eq_true (by first | (with_reducible assumption) | assumption)
                have q107 : (ji8) < (x0_1.length : Int) := of_decide_eq_true (by first | (with_reducible assumption) | assumption)
                obtain ⟨ad107, e107, hx107_0⟩ := Kd.at_int (Kd.R_reads' HO_0.out).2.2 (ji8) p107 q107
                cases e107
                replace p107 := eq_true p107
                replace q107 := eq_true q107
                have p11 : 0 ≤ ((ji8) : Int) := of_decide_eq_true (by first | (with_reducible assumption) | assumption)
                have q11 : ((ji8) : Int) < ((x0_1.length : Int) : Int) := of_decide_eq_true (by first | (with_reducible assumption) | assumption)
                obtain ⟨go11, co11, eo11, gb11, gl11, cl11, HG11⟩ := Kd.R_form HO_0.out (by omega)
                (first | cases eo11 | (injection eo11 with ea_ en_ ec_; (first | subst ea_ | (injection ea_ with ea_; subst ea_)); subst ec_; clear en_))
                have GB11 := Aside0.mk gb11
                have GG11 := Aside0.mk HG11
                clear gb11 gl11 HG11
                have HMgo11 := Aside0.mk (show (P0_ go11 ∨ w.heap.size ≤ go11) from (HO_0.out.1 _ rfl))
                (first | simp only [add_plain] at hx107_0 | skip)
                obtain ⟨hx11_0, hf11_0⟩ := Kd.R_celln 0 HO_0.out ((ji8) : Int) p11 q11
                replace p11 := eq_true p11
                replace q11 := eq_true q11
                have HP13 := Kd.R_putg HO_0.out ((ji8) : Int) ((Int.tmod (IntKind.u64.wrap ((IntKind.u64.wrap ((IntKind.u64.wrap (rd x0_1 (ji8))) + (IntKind.u64.wrap ((IntKind.u64.wrap (rd l1 x16_1)) * (IntKind.u64.wrap (a2)))))) + x8_1)) 1000000000) % 4294967296)
                go_wp2_with (first | ((with_reducible refine gate_store (t := 30) (p := 43) rfl ?_); refine store_event (t := 30) (p := 43) (v := ?vo_w14) (w1 := (wr.setCell ⟨go11, ((ji8) : Int).toNat, none⟩ (.int .u32 ((Int.tmod (IntKind.u64.wrap ((IntKind.u64.wrap ((IntKind.u64.wrap (rd x0_1 (ji8))) + (IntKind.u64.wrap ((IntKind.u64.wrap (rd l1 x16_1)) * (IntKind.u64.wrap (a2)))))) + x8_1)) 1000000000) % 4294967296)))) ?hg ?ho ?hn ?hr ?_; (case ho => rfl); (case hg => rfl); (case hn => rfl); (case hr => first | (go_simp; done) | (go_simp; rfl)); intro w14 hw; have hg : wr.grownBy w14 (some go11) := (by rw [hw]; exact HP13.2); have hp_ : Kd.R (Kd.int .u32) 30 w14 w0.heap.size (fun k_ => (P0_ k_ ∨ w.heap.size ≤ k_)) (.slice (some ⟨go11, 0, none⟩) x0_1.length co12) y108 := (by rw [hw, Ny108.out]; exact HP13.1); clear HP13; have n0_ := Aside0.mk (hp_); have n1_ := Aside0.mk ((by rw [hw]; exact below_set (HB.out) GB11.out : Below w0.heap.size w0 w14)); have n2_ := Aside0.mk (Kept.of_grown (S := (fun k_ => P0_ k_)) hg (by repeat (first | (with_reducible first | exact HK.out | apply Kept.alloc | apply Kept.drewN | apply Kept.drew) | exact HK.out)) (fun k_ e_ => (HO_0.out.1 k_ e_))); clear HO_0; clear HB; clear HK; have HO_0 := n0_; have HB := n1_; have HK := n2_; clear n0_ n1_ n2_; clear hg hw hp_))
                go_roundg k1
                case measure => have := HK1.out; omega
                case rel => exact ⟨(y108), (IntKind.u64.wrap (Int.tdiv (IntKind.u64.wrap ((IntKind.u64.wrap ((IntKind.u64.wrap (rd x0_1 (ji8))) + (IntKind.u64.wrap ((IntKind.u64.wrap (rd l1 x16_1)) * (IntKind.u64.wrap (a2)))))) + x8_1)) 1000000000)), (wrap64 (x16_1 + 1)), (by first | rfl | (simp; done) | (simp only [← hji8] <;> (first | rfl | simp)) | (simp [*]; done)), (by first | rfl | (simp; done) | (simp [*]; done)), H', ⟨by have := HK1.out; omega⟩, ⟨by (with_reducible repeat (first | apply Kd.R_alloc | apply Kd.R_drewN | apply Kd.R_drew)); exact HO_0.out⟩, ⟨by repeat (first | (with_reducible first | exact HK.out | apply Kept.alloc | apply Kept.drewN | apply Kept.drew) | exact HK.out)⟩, ⟨by repeat (first | (with_reducible first | exact HB.out | apply below_alloc | apply pw_below_drewN | apply below_drew1) | exact HB.out)⟩⟩
              · rw [if_neg c10] at H
                exact absurd H (by simp)
            · rw [if_neg c9] at H
              exact absurd H (by simp)
          · rw [if_neg c7] at H
            exact absurd H (by simp)
        · rw [if_neg c6] at H
          exact absurd H (by simp)
      · rw [if_neg c5] at H
        have c5b0 : decide (x16_1 < (l1.length : Int)) = false := decide_eq_false c5
        clear c5
        have H' := Aside0.mk H
        clear H
        go_wp2
        go_loopg [8, 12] k1 (fun kq v8 v12 w' => ∃ (x0_2 : List Int) (x8_2 : Int) (x12_2 : Int), v8 = .int .u64 x8_2 ∧ v12 = .int .i64 x12_2 ∧ Aside0 (mul_row.l1 kq x0_2 x8_2 x12_2 = some r) ∧ Aside0 (kq ≤ k1) ∧ Aside0 (Kd.R (Kd.int .u32) 30 w' w0.heap.size (fun k_ => (P0_ k_ ∨ w.heap.size ≤ k_)) u9000_ x0_2) ∧ Aside0 (Kept w w' (fun k_ => P0_ k_)) ∧ Aside0 (Below w0.heap.size w0 w'))
        case atStart => exact ⟨(x0_1), (x8_1), (wrap64 (a3 + (l1.length : Int))), (by first | rfl | (simp; done) | (simp [*]; done)), (by first | rfl | (simp; done) | (simp [*]; done)), H', ⟨Nat.le_refl _⟩, ⟨by (with_reducible repeat (first | apply Kd.R_alloc | apply Kd.R_drewN | apply Kd.R_drew)); exact HO_0.out⟩, ⟨by repeat (first | (with_reducible first | exact HK.out | apply Kept.alloc | apply Kept.drewN | apply Kept.drew) | exact HK.out)⟩, ⟨by repeat (first | (with_reducible first | exact HB.out | apply below_alloc | apply pw_below_drewN | apply below_drew1) | exact HB.out)⟩⟩
        case round =>
          clear H'
          try clear c1
          try clear p1
          try clear q1
          try clear hx1
          try clear p2
          try clear c3
          try clear c5
          try clear c5b0
          try clear c6
          try clear c6b0
          try clear p6
          try clear c7
          try clear c7b0
          try clear c9
          try clear c9b0
          try clear c10
          try clear c10b0
          try clear p10
          try clear q10
          try clear hx10
          try clear p11
          try clear q11
          try clear hx11
          try clear hf11
          try clear hx106_0
          try clear hx107_0
          try clear hx11_0
          try clear p106
          try clear p107
          try clear p11
          try clear p2
          try clear q106
          try clear q107
          try clear q11
          obtain ⟨x0_2, x8_2, x12_2, rfl, rfl, HA, HK2, HO_0, HK, HB⟩ := hrel
          cases gk with
          | zero => exact absurd HA.out (by simp [mul_row.l1])
          | succ k2 =>
            have H := HA.out
            clear HA
            simp only [mul_row.l1] at H
            by_cases c15 : x8_2 > 0
            · rw [if_pos c15] at H
              have c15b0 : decide (0 < x8_2) = true := decide_eq_true c15
              clear c15
              by_cases c16 : 0 ≤ x12_2
              · rw [if_pos c16] at H
                have c16b0 : decide (0 ≤ x12_2) = true := decide_eq_true c16
                clear c16
                by_cases c17 : x12_2 < (x0_2.length : Int)
                · rw [if_pos c17] at H
                  have c17b0 : decide (x12_2 < (x0_2.length : Int)) = true := decide_eq_true c17
                  clear c17
                  obtain ⟨y110, hy110⟩ : ∃ y_ : List Int, y_ = (x0_2.set (x12_2 : Int).toNat ((Int.tmod (IntKind.u64.wrap ((IntKind.u64.wrap (rd x0_2 x12_2)) + x8_2)) 1000000000) % 4294967296)) := ⟨_, rfl⟩
                  replace H : (mul_row.l1 k2 y110 (IntKind.u64.wrap (Int.tdiv (IntKind.u64.wrap ((IntKind.u64.wrap (rd x0_2 x12_2)) + x8_2)) 1000000000)) (wrap64 (x12_2 + 1))) = some r := by first | (rw [hy110]; with_reducible exact H) | (have H2_ := (Option.bind_some _ _).symm.trans H; rw [hy110]; with_reducible exact H2_) | (have H2_ := (Option.bind_some _ _).symm.trans H; with_reducible exact H2_) | with_reducible exact H | (rw [hy110]; exact H) | exact H
                  have Ny110 := Aside0.mk hy110
                  clear hy110
                  have H' := Aside0.mk H
                  clear H
                  obtain ⟨Ao19, co19, eo19⟩ := Kd.R_slice HO_0.out
                  subst eo19
                  have p109 : 0 ≤ (x12_2 : Int) := of_decide_eq_true (by first | (with_reducible assumption) | assumption)
                  have q109 : x12_2 < (x0_2.length : Int) := of_decide_eq_true (by first | (with_reducible assumption) | assumption)
                  obtain ⟨ad109, e109, hx109_0⟩ := Kd.at_int (Kd.R_reads' HO_0.out).2.2 x12_2 p109 q109
                  cases e109
                  replace p109 := eq_true p109
                  replace q109 := eq_true q109
                  have p18 : 0 ≤ (x12_2 : Int) := of_decide_eq_true (by first | (with_reducible assumption) | assumption)
                  have q18 : (x12_2 : Int) < ((x0_2.length : Int) : Int) := of_decide_eq_true (by first | (with_reducible assumption) | assumption)
                  obtain ⟨go18, co18, eo18, gb18, gl18, cl18, HG18⟩ := Kd.R_form HO_0.out (by omega)
                  (first | cases eo18 | (injection eo18 with ea_ en_ ec_; (first | subst ea_ | (injection ea_ with ea_; subst ea_)); subst ec_; clear en_))
                  have GB18 := Aside0.mk gb18
                  have GG18 := Aside0.mk HG18
                  clear gb18 gl18 HG18
                  have HMgo18 := Aside0.mk (show (P0_ go18 ∨ w.heap.size ≤ go18) from (HO_0.out.1 _ rfl))
                  (first | simp only [add_plain] at hx109_0 | skip)
                  obtain ⟨hx18_0, hf18_0⟩ := Kd.R_celln 0 HO_0.out (x12_2 : Int) p18 q18
                  replace p18 := eq_true p18
                  replace q18 := eq_true q18
                  have HP20 := Kd.R_putg HO_0.out (x12_2 : Int) ((Int.tmod (IntKind.u64.wrap ((IntKind.u64.wrap (rd x0_2 x12_2)) + x8_2)) 1000000000) % 4294967296)
                  go_wp2_with (first | ((with_reducible refine gate_store (t := 30) (p := 67) rfl ?_); refine store_event (t := 30) (p := 67) (v := ?vo_w21) (w1 := (wr.setCell ⟨go18, (x12_2 : Int).toNat, none⟩ (.int .u32 ((Int.tmod (IntKind.u64.wrap ((IntKind.u64.wrap (rd x0_2 x12_2)) + x8_2)) 1000000000) % 4294967296)))) ?hg ?ho ?hn ?hr ?_; (case ho => rfl); (case hg => rfl); (case hn => rfl); (case hr => first | (go_simp; done) | (go_simp; rfl)); intro w21 hw; have hg : wr.grownBy w21 (some go18) := (by rw [hw]; exact HP20.2); have hp_ : Kd.R (Kd.int .u32) 30 w21 w0.heap.size (fun k_ => (P0_ k_ ∨ w.heap.size ≤ k_)) (.slice (some ⟨go18, 0, none⟩) x0_2.length co19) y110 := (by rw [hw, Ny110.out]; exact HP20.1); clear HP20; have n0_ := Aside0.mk (hp_); have n1_ := Aside0.mk ((by rw [hw]; exact below_set (HB.out) GB18.out : Below w0.heap.size w0 w21)); have n2_ := Aside0.mk (Kept.of_grown (S := (fun k_ => P0_ k_)) hg (by repeat (first | (with_reducible first | exact HK.out | apply Kept.alloc | apply Kept.drewN | apply Kept.drew) | exact HK.out)) (fun k_ e_ => (HO_0.out.1 k_ e_))); clear HO_0; clear HB; clear HK; have HO_0 := n0_; have HB := n1_; have HK := n2_; clear n0_ n1_ n2_; clear hg hw hp_))
                  go_roundg k2
                  case measure => have := HK1.out; have := HK2.out; omega
                  case rel => exact ⟨(y110), (IntKind.u64.wrap (Int.tdiv (IntKind.u64.wrap ((IntKind.u64.wrap (rd x0_2 x12_2)) + x8_2)) 1000000000)), (wrap64 (x12_2 + 1)), (by first | rfl | (simp; done) | (simp [*]; done)), (by first | rfl | (simp; done) | (simp [*]; done)), H', ⟨by have := HK1.out; have := HK2.out; omega⟩, ⟨by (with_reducible repeat (first | apply Kd.R_alloc | apply Kd.R_drewN | apply Kd.R_drew)); exact HO_0.out⟩, ⟨by repeat (first | (with_reducible first | exact HK.out | apply Kept.alloc | apply Kept.drewN | apply Kept.drew) | exact HK.out)⟩, ⟨by repeat (first | (with_reducible first | exact HB.out | apply below_alloc | apply pw_below_drewN | apply below_drew1) | exact HB.out)⟩⟩
                · rw [if_neg c17] at H
                  exact absurd H (by simp)
              · rw [if_neg c16] at H
                exact absurd H (by simp)
            · rw [if_neg c15] at H
              have c15b0 : decide (0 < x8_2) = false := decide_eq_false c15
              clear c15
              obtain rfl := Option.some.inj H
              go_wp2
              first | go_end0 | ((try simp only [Exit.inBlock, Exit.then]); refine bodyPost_ret (results_none rfl _ _ _) rfl ?_)
              exact ⟨by first | rfl | (simp [errW_none, errW_some] <;> rfl) | (simp [*, errW_none, errW_some] <;> rfl), by (with_reducible repeat (first | apply Kd.R_alloc | apply Kd.R_drewN | apply Kd.R_drew)); exact HO_0.out, by repeat (first | (with_reducible first | exact HB.out | apply below_alloc | apply pw_below_drewN | apply below_drew1) | exact HB.out), by repeat (first | (with_reducible first | exact HK.out | apply Kept.alloc | apply Kept.drewN | apply Kept.drew) | exact HK.out)⟩

end Go.Proofs.Ytkhmdpplpecgcaa.Px

namespace Go.Proofs.Ytkhmdpplpecgcaa.Px
open Fig Go.RowKit Go.Proofs.YtkhmdpplpecgcaaW.PrintWords Go.Proofs.YtkhmdpplpecgcaaW.PrintLast Go.Proofs.YtkhmdpplpecgcaaW.PrintMore
attribute [local go_sem] max2_int min2_int max_two min_two max_three min_three max_four min_four   -- for this text's walks alone

/-! ### mul_Mul: function 18 -/
def mul_Mul.l0 : Nat → List Int → List Int → List Int → Int → Int → Option (List Int)
  | 0, _, _, _, _, _ => none
  | k + 1, x0, x5, x15, x16, x17 => if x17 < x16 then (if 0 ≤ x17 then (if x17 < (x15.length : Int) then ((mul_row.f k x5 x0 (rd x15 x17) x17).bind fun t115 => (mul_Mul.l0 k x0 t115 x15 x16 (wrap64 (x17 + 1)))) else (none)) else (none)) else ((nat_Trim.f x5).bind fun t116 => (some t116))
def mul_Mul.f (k : Nat) (l0 : List Int) (l1 : List Int) : Option (List Int) := if 0 ≤ (wrap64 ((wrap64 ((l0.length : Int) + (l1.length : Int))) + 1)) then (if (wrap64 ((wrap64 ((l0.length : Int) + (l1.length : Int))) + 1) : Int).toNat ≤ 70368744177664 then (mul_Mul.l0 k l0 (List.replicate (wrap64 ((wrap64 ((l0.length : Int) + (l1.length : Int))) + 1) : Int).toNat 0) l1 (l1.length : Int) 0) else (none)) else (none)
theorem mul_Mul.mono_l : ∀ k, (∀ y0 y1 y2 y3 y4, LeO (mul_Mul.l0 k y0 y1 y2 y3 y4) (mul_Mul.l0 (k + 1) y0 y1 y2 y3 y4))
  | 0 => fun _ _ _ _ _ r h => by simp [mul_Mul.l0] at h
  | k + 1 => by
    have ih0 := mul_Mul.mono_l k
    · intro y0 y1 y2 y3 y4
      unfold mul_Mul.l0
      repeat' first
      | (with_reducible exact ih0 _ _ _ _ _)
      | (with_reducible exact mul_row.mono _ _ _ _ _)
      | (with_reducible exact LeO.refl _)
      | (with_reducible exact LeO.none _)
      | (with_reducible refine LeO.ite ?_ ?_)
      | (with_reducible refine LeO.bind ?_ (fun _ => ?_))
      | exact ih0 _ _ _ _ _
      | exact mul_row.mono _ _ _ _ _
      | exact LeO.none _
      | refine LeO.ite ?_ ?_
      | refine LeO.bind ?_ (fun _ => ?_)
theorem mul_Mul.mono : ∀ a0 a1 k, LeO (mul_Mul.f k a0 a1) (mul_Mul.f (k + 1) a0 a1) := by
  intro a0 a1 k
  have ih0 := mul_Mul.mono_l k
  unfold mul_Mul.f
  repeat' first
      | (with_reducible exact ih0 _ _ _ _ _)
      | (with_reducible exact mul_row.mono _ _ _ _ _)
      | (with_reducible exact LeO.refl _)
      | (with_reducible exact LeO.none _)
      | (with_reducible refine LeO.ite ?_ ?_)
      | (with_reducible refine LeO.bind ?_ (fun _ => ?_))
      | exact ih0 _ _ _ _ _
      | exact mul_row.mono _ _ _ _ _
      | exact LeO.none _
      | refine LeO.ite ?_ ?_
      | refine LeO.bind ?_ (fun _ => ?_)
set_option maxHeartbeats 8000000 in
set_option maxRecDepth 100000 in
theorem mul_Mul.calls (k : Nat) (A0 : Option Addr) (c0 : Nat) (l0 : List Int) (A1 : Option Addr) (c1 : Nat) (l1 : List Int) (r : List Int) (w : World) (hr0 : Kd.C (Kd.int .u32) w A0 l0.length l0) (hc0 : l0.length ≤ c0) (hr1 : Kd.C (Kd.int .u32) w A1 l1.length l1) (hc1 : l1.length ≤ c1) (h : mul_Mul.f k l0 l1 = some r) :
    Calls Try.prog 18 #[.slice A0 l0.length c0, .slice A1 l1.length c1] w fun e w' => ∃ v0_ : Value, e = .returned (v0_) ∧ Kd.R (Kd.int .u32) 30 w' w.heap.size (fun _ => True) v0_ r ∧ Below w.heap.size w w' := by
  have HR0 := Aside0.mk hr0
  have HC0 := Aside0.mk hc0
  clear hr0 hc0
  have HR1 := Aside0.mk hr1
  have HC1 := Aside0.mk hc1
  clear hr1 hc1
  have HB := Aside0.mk (Below.refl w.heap.size w)
  have H : (if 0 ≤ (wrap64 ((wrap64 ((l0.length : Int) + (l1.length : Int))) + 1)) then (if (wrap64 ((wrap64 ((l0.length : Int) + (l1.length : Int))) + 1) : Int).toNat ≤ 70368744177664 then (mul_Mul.l0 k l0 (List.replicate (wrap64 ((wrap64 ((l0.length : Int) + (l1.length : Int))) + 1) : Int).toNat 0) l1 (l1.length : Int) 0) else (none)) else (none)) = some r := h
  clear h
  obtain ⟨ji3, hji3⟩ : ∃ j_ : Int, (wrap64 ((wrap64 ((l0.length : Int) + (l1.length : Int))) + 1)) = j_ := ⟨_, rfl⟩
  replace H : (if 0 ≤ (ji3) then (if (ji3 : Int).toNat ≤ 70368744177664 then (mul_Mul.l0 k l0 (List.replicate (ji3 : Int).toNat 0) l1 (l1.length : Int) 0) else (none)) else (none)) = some r := by first | (rw [hji3] at H; exact H) | (simp only [hji3] at H ⊢; exact H)
  have hji3w : (IntKind.i64.wrap ((wrap64 ((l0.length : Int) + (l1.length : Int))) + 1)) = ji3 := (i64_w _).trans hji3
  by_cases c4 : 0 ≤ (ji3)
  · rw [if_pos c4] at H
    have c4b0 := eq_true c4
    have c4b1 : decide (0 ≤ (ji3)) = true := decide_eq_true c4
    clear c4
    by_cases c5 : (ji3 : Int).toNat ≤ 70368744177664
    · rw [if_pos c5] at H
      have c5b0 := eq_true c5
      have c5b1 : decide ((ji3 : Int).toNat ≤ 70368744177664) = true := decide_eq_true c5
      clear c5
      obtain ⟨y111, hy111⟩ : ∃ y_ : List Int, y_ = (List.replicate (ji3 : Int).toNat 0) := ⟨_, rfl⟩
      replace H : (mul_Mul.l0 k l0 y111 l1 (l1.length : Int) 0) = some r := by first | (rw [hy111]; with_reducible exact H) | (have H2_ := (Option.bind_some _ _).symm.trans H; rw [hy111]; with_reducible exact H2_) | (have H2_ := (Option.bind_some _ _).symm.trans H; with_reducible exact H2_) | with_reducible exact H | (rw [hy111]; exact H) | exact H
      have Ny111 := Aside0.mk hy111
      clear hy111
      have H' := Aside0.mk H
      clear H
      go_enter Try.func18, Try.ntmps18
      go_wp2_with (first | ((with_reducible refine gate_dst (N := 14) rfl ?_); refine Kd.R_make (Kd.int .u32) _ 30 rfl (N := 14) rfl 22 _ _ rfl ji3 rfl rfl Try.underlying22 (.int .u32 0) 4 info30 rfl (by decide) (by omega) 0 (ok := fun _ => True) (okp := fun _ => True) rfl (fun _ hk => hk) trivial (of_decide_eq_true (by first | (with_reducible assumption) | assumption)) (Nat.le_trans (Nat.mul_le_mul_right _ (of_decide_eq_true (by first | (with_reducible assumption) | assumption) : ji3.toNat ≤ 70368744177664)) (by omega)) (Below.refl _ _) (Nat.le_refl _) ?_; intro v112 w6 ho7 hb hg_ hnew_; clear hg_ hnew_; (first | rw [← Ny111.out] at ho7 | (simp only [Int.reduceToNat] at ho7; rw [← Ny111.out] at ho7)); have n0_ := Aside0.mk (Kd.R_lower ho7 (below_size (by repeat (first | (with_reducible first | exact HB.out | apply below_alloc | apply pw_below_drewN | apply below_drew1) | exact HB.out)))); have n1_ := Aside0.mk (below_step (by repeat (first | (with_reducible first | exact HB.out | apply below_alloc | apply pw_below_drewN | apply below_drew1) | exact HB.out)) hb); clear HB; have HO113 := n0_; have HB := n1_; clear n0_ n1_; clear hb ho7))
      go_loopg [17] k (fun kq v17 w' => ∃ (x5_1 : List Int) (x17_1 : Int), v17 = .int .i64 x17_1 ∧ Aside0 (mul_Mul.l0 kq l0 x5_1 l1 (l1.length : Int) x17_1 = some r) ∧ Aside0 (kq ≤ k) ∧ Aside0 (Kd.R (Kd.int .u32) 30 w' w.heap.size (fun _ => True) v112 x5_1) ∧ Aside0 (Below w.heap.size w w'))
      case atStart => exact ⟨(y111), (0), (by first | rfl | (simp; done) | (simp [*]; done)), H', ⟨Nat.le_refl _⟩, ⟨by (with_reducible repeat (first | apply Kd.R_alloc | apply Kd.R_drewN | apply Kd.R_drew)); exact HO113.out⟩, ⟨by repeat (first | (with_reducible first | exact HB.out | apply below_alloc | apply pw_below_drewN | apply below_drew1) | exact HB.out)⟩⟩
      case round =>
        clear H'
        try clear c1
        try clear p2
        try clear c4
        try clear c4b0
        try clear c4b1
        try clear c5
        try clear c5b0
        try clear c5b1
        try clear p6
        obtain ⟨x5_1, x17_1, rfl, HA, HK1, HO_5, HB⟩ := hrel
        cases gk with
        | zero => exact absurd HA.out (by simp [mul_Mul.l0])
        | succ k1 =>
          have H := HA.out
          clear HA
          simp only [mul_Mul.l0] at H
          by_cases c8 : x17_1 < (l1.length : Int)
          · rw [if_pos c8] at H
            have c8b0 : decide (x17_1 < (l1.length : Int)) = true := decide_eq_true c8
            clear c8
            by_cases c9 : 0 ≤ x17_1
            · rw [if_pos c9] at H
              have c9b0 : decide (0 ≤ x17_1) = true := decide_eq_true c9
              clear c9
              by_cases c10 : x17_1 < (l1.length : Int)
              · rw [if_pos c10] at H
                have c10b0 : decide (x17_1 < (l1.length : Int)) = true := decide_eq_true c10
                clear c10
                replace H := Option.bind_eq_some_iff.mp H
                obtain ⟨t115, A110, H⟩ := H
                replace H : (mul_Mul.l0 k1 l0 t115 l1 (l1.length : Int) (wrap64 (x17_1 + 1))) = some r := H
                have A11 := Aside0.mk A110
                clear A110
                have H' := Aside0.mk H
                clear H
                have p114 : 0 ≤ (x17_1 : Int) := of_decide_eq_true (by first | (with_reducible assumption) | assumption)
                have q114 : x17_1 < (l1.length : Int) := of_decide_eq_true (by first | (with_reducible assumption) | assumption)
                obtain ⟨ad114, e114, hx114_0⟩ := Kd.at_int HR1.out x17_1 p114 q114
                cases e114
                replace hx114_0 := (HB.out.cell (World.block_lt_of_cell? w _ hx114_0)).trans hx114_0
                replace p114 := eq_true p114
                replace q114 := eq_true q114
                obtain ⟨Ao12, co12, eo12⟩ := Kd.R_slice HO_5.out
                subst eo12
                go_wp2_with (first | ((with_reducible refine gate_callee (f := 34) rfl ?_); refine goesL_ (some 26) rfl rfl Try.func34 (by kernel_rfl) rfl #[.slice Ao12 x5_1.length co12, .slice A0 l0.length c0, .int .u32 (rd l1 x17_1), .int .i64 x17_1] rfl (by (try simp only [List.map_toArray, List.map_cons, List.map_nil]); first | done | rfl | (simp only [List.length_drop, List.length_take]; rfl)) ?_; (with_reducible refine (mul_row.calls k1 (fun k_ => some k_ = (.slice Ao12 x5_1.length co12 : Value).ownBlock) (.slice Ao12 x5_1.length co12) x5_1 _ _ l0 (rd l1 x17_1) x17_1 t115 w _ ?side1 ?side2 ?side3 ?side4 A11.out).mono ?_); (case side1 => repeat (first | (with_reducible first | exact HB.out | apply below_alloc | apply pw_below_drewN | apply below_drew1) | exact HB.out)); (case side2 => exact Kd.R_tight rfl HO_5.out); (case side3 => exact Kd.C_kept_came (Kd.heap_int .u32) HR0.out (by repeat (first | (with_reducible first | exact HB.out | apply below_alloc | apply pw_below_drewN | apply below_drew1) | exact HB.out)) (fun k_ hs_ => (fun e_ => Kd.R_base HO_5.out k_ e_.symm) hs_)); (case side4 => exact HC0.out); rintro e w13 ⟨rfl, hy0, hb, hkp⟩; refine ⟨_, rfl, ?_⟩; have n0_ := Aside0.mk (Kd.R_reok rfl hy0 (fun k_ e_ => HO_5.out.1 k_ e_)); have n1_ := Aside0.mk (hb); clear HO_5; clear HB; have HO_5 := n0_; have HB := n1_; clear n0_ n1_; (try clear hb); (try clear hkp); (try clear hy0)))
                go_roundg k1
                case measure => have := HK1.out; omega
                case rel => exact ⟨(t115), (wrap64 (x17_1 + 1)), (by first | rfl | (simp; done) | (simp [*]; done)), H', ⟨by have := HK1.out; omega⟩, ⟨by (with_reducible repeat (first | apply Kd.R_alloc | apply Kd.R_drewN | apply Kd.R_drew)); exact HO_5.out⟩, ⟨by repeat (first | (with_reducible first | exact HB.out | apply below_alloc | apply pw_below_drewN | apply below_drew1) | exact HB.out)⟩⟩
              · rw [if_neg c10] at H
                exact absurd H (by simp)
            · rw [if_neg c9] at H
              exact absurd H (by simp)
          · rw [if_neg c8] at H
            have c8b0 : decide (x17_1 < (l1.length : Int)) = false := decide_eq_false c8
            clear c8
            replace H := Option.bind_eq_some_iff.mp H
            obtain ⟨t116, A140, H⟩ := H
            replace H : (some t116) = some r := H
            have A14 := Aside0.mk A140
            clear A140
            obtain rfl := Option.some.inj H
            obtain ⟨Ao15, co15, eo15⟩ := Kd.R_slice HO_5.out
            subst eo15
            go_wp2_with (first | ((with_reducible refine gate_callee (f := 31) rfl ?_); refine goesL_ (some 29) rfl rfl Try.func31 (by kernel_rfl) rfl #[.slice Ao15 x5_1.length co15] rfl (by (try simp only [List.map_toArray, List.map_cons, List.map_nil]); first | done | rfl | (simp only [List.length_drop, List.length_take]; rfl)) ?_; (with_reducible refine (nat_Trim.calls _ _ x5_1 t116 _ ?side1 ?side2 A14.out).mono ?_); (case side1 => repeat (first | exact (Kd.R_reads' HO_5.out).2.2 | (with_reducible refine Kd.C_alloc ?_ _) | (with_reducible refine Kd.C_drewN ?_ _) | (with_reducible refine Kd.C_drew ?_))); (case side2 => exact (Kd.R_reads' HO_5.out).2.1); rintro e w16 ⟨v117, rfl, ho0, hb⟩; refine ⟨_, rfl, ?_⟩; have n0_ := Aside0.mk (Kd.R_elder' (by (with_reducible repeat (first | apply Kd.R_alloc | apply Kd.R_drewN | apply Kd.R_drew)); exact HO_5.out) (Kd.R_base ho0) hb); have n1_ := Aside0.mk (Kd.R_lower (Kd.R_new' ho0 (Kd.R_lt (by (with_reducible repeat (first | apply Kd.R_alloc | apply Kd.R_drewN | apply Kd.R_drew)); exact HO_5.out))) (below_size (by repeat (first | (with_reducible first | exact HB.out | apply below_alloc | apply pw_below_drewN | apply below_drew1) | exact HB.out)))); have n2_ := Aside0.mk (below_step (by repeat (first | (with_reducible first | exact HB.out | apply below_alloc | apply pw_below_drewN | apply below_drew1) | exact HB.out)) hb); clear HO_5; clear HB; have HO_5 := n0_; have HO118 := n1_; have HB := n2_; clear n0_ n1_ n2_; (try clear hb); (try clear hb2); (try clear hk); (try clear hi); (try clear ho0)))
            go_ret
            exact ⟨_, by first | rfl | (simp [errW_none, errW_some] <;> rfl) | (simp only [← hji3]; first | rfl | (simp [errW_none, errW_some] <;> rfl)) | (simp [*, errW_none, errW_some] <;> rfl), by (with_reducible repeat (first | apply Kd.R_alloc | apply Kd.R_drewN | apply Kd.R_drew)); exact Kd.R_mono HO118.out (fun _ hk => trivial), by repeat (first | (with_reducible first | exact HB.out | apply below_alloc | apply pw_below_drewN | apply below_drew1) | exact HB.out)⟩
    · rw [if_neg c5] at H
      exact absurd H (by simp)
  · rw [if_neg c4] at H
    exact absurd H (by simp)

end Go.Proofs.Ytkhmdpplpecgcaa.Px

namespace Go.Proofs.Ytkhmdpplpecgcaa.Px
open Fig Go.RowKit Go.Proofs.YtkhmdpplpecgcaaW.PrintWords Go.Proofs.YtkhmdpplpecgcaaW.PrintLast Go.Proofs.YtkhmdpplpecgcaaW.PrintMore
attribute [local go_sem] max2_int min2_int max_two min_two max_three min_three max_four min_four   -- for this text's walks alone

/-! ### mul_Small: function 23 -/
def mul_Small.f (k : Nat) (l0 : List Int) (a1 : Int) (a2 : Int) : Option (List Int) := if 0 ≤ (wrap64 ((l0.length : Int) + 2)) then (if (wrap64 ((l0.length : Int) + 2) : Int).toNat ≤ 70368744177664 then ((some (List.replicate (wrap64 ((l0.length : Int) + 2) : Int).toNat 0 : List Int)).bind fun y119 => (if 0 < (y119.length : Int) then ((mul_row.f k (y119.set (0 : Int).toNat a2) l0 a1 0).bind fun t123 => ((nat_Trim.f t123).bind fun t124 => (some t124))) else (none))) else (none)) else (none)
theorem mul_Small.mono : ∀ a0 a1 a2 k, LeO (mul_Small.f k a0 a1 a2) (mul_Small.f (k + 1) a0 a1 a2) := by
  intro a0 a1 a2 k
  unfold mul_Small.f
  repeat' first
      | (with_reducible exact mul_row.mono _ _ _ _ _)
      | (with_reducible exact LeO.refl _)
      | (with_reducible exact LeO.none _)
      | (with_reducible refine LeO.ite ?_ ?_)
      | (with_reducible refine LeO.bind ?_ (fun _ => ?_))
      | exact mul_row.mono _ _ _ _ _
      | exact LeO.none _
      | refine LeO.ite ?_ ?_
      | refine LeO.bind ?_ (fun _ => ?_)
set_option maxHeartbeats 8000000 in
set_option maxRecDepth 100000 in
theorem mul_Small.calls (k : Nat) (A0 : Option Addr) (c0 : Nat) (l0 : List Int) (a1 : Int) (a2 : Int) (r : List Int) (w : World) (hr0 : Kd.C (Kd.int .u32) w A0 l0.length l0) (hc0 : l0.length ≤ c0) (h : mul_Small.f k l0 a1 a2 = some r) :
    Calls Try.prog 23 #[.slice A0 l0.length c0, .int .u32 a1, .int .u32 a2] w fun e w' => ∃ v0_ : Value, e = .returned (v0_) ∧ Kd.R (Kd.int .u32) 30 w' w.heap.size (fun _ => True) v0_ r ∧ Below w.heap.size w w' := by
  have HR0 := Aside0.mk hr0
  have HC0 := Aside0.mk hc0
  clear hr0 hc0
  have HB := Aside0.mk (Below.refl w.heap.size w)
  have H : (if 0 ≤ (wrap64 ((l0.length : Int) + 2)) then (if (wrap64 ((l0.length : Int) + 2) : Int).toNat ≤ 70368744177664 then ((some (List.replicate (wrap64 ((l0.length : Int) + 2) : Int).toNat 0 : List Int)).bind fun y119 => (if 0 < (y119.length : Int) then ((mul_row.f k (y119.set (0 : Int).toNat a2) l0 a1 0).bind fun t123 => ((nat_Trim.f t123).bind fun t124 => (some t124))) else (none))) else (none)) else (none)) = some r := h
  clear h
  obtain ⟨ji4, hji4⟩ : ∃ j_ : Int, (wrap64 ((l0.length : Int) + 2)) = j_ := ⟨_, rfl⟩
  replace H : (if 0 ≤ (ji4) then (if (ji4 : Int).toNat ≤ 70368744177664 then ((some (List.replicate (ji4 : Int).toNat 0 : List Int)).bind fun y119 => (if 0 < (y119.length : Int) then ((mul_row.f k (y119.set (0 : Int).toNat a2) l0 a1 0).bind fun t123 => ((nat_Trim.f t123).bind fun t124 => (some t124))) else (none))) else (none)) else (none)) = some r := by first | (rw [hji4] at H; exact H) | (simp only [hji4] at H ⊢; exact H)
  have hji4w : (IntKind.i64.wrap ((l0.length : Int) + 2)) = ji4 := (i64_w _).trans hji4
  by_cases c5 : 0 ≤ (ji4)
  · rw [if_pos c5] at H
    have c5b0 := eq_true c5
    have c5b1 : decide (0 ≤ (ji4)) = true := decide_eq_true c5
    clear c5
    by_cases c6 : (ji4 : Int).toNat ≤ 70368744177664
    · rw [if_pos c6] at H
      have c6b0 := eq_true c6
      have c6b1 : decide ((ji4 : Int).toNat ≤ 70368744177664) = true := decide_eq_true c6
      clear c6
      obtain ⟨y119, hy119⟩ : ∃ y_ : List Int, y_ = (List.replicate (ji4 : Int).toNat 0) := ⟨_, rfl⟩
      replace H : (if 0 < (y119.length : Int) then ((mul_row.f k (y119.set (0 : Int).toNat a2) l0 a1 0).bind fun t123 => ((nat_Trim.f t123).bind fun t124 => (some t124))) else (none)) = some r := by first | (rw [hy119]; with_reducible exact H) | (have H2_ := (Option.bind_some _ _).symm.trans H; rw [hy119]; with_reducible exact H2_) | (have H2_ := (Option.bind_some _ _).symm.trans H; with_reducible exact H2_) | with_reducible exact H | (rw [hy119]; exact H) | exact H
      have Ny119 := Aside0.mk hy119
      clear hy119
      by_cases c7 : 0 < (y119.length : Int)
      · rw [if_pos c7] at H
        have c7b0 : decide (0 < (y119.length : Int)) = true := decide_eq_true c7
        have c7b1 : decide (0 < y119.length) = true := decide_eq_true (by omega)
        clear c7
        obtain ⟨y122, hy122⟩ : ∃ y_ : List Int, y_ = (y119.set (0 : Int).toNat a2) := ⟨_, rfl⟩
        replace H : ((mul_row.f k y122 l0 a1 0).bind fun t123 => ((nat_Trim.f t123).bind fun t124 => (some t124))) = some r := by first | (rw [hy122]; with_reducible exact H) | (have H2_ := (Option.bind_some _ _).symm.trans H; rw [hy122]; with_reducible exact H2_) | (have H2_ := (Option.bind_some _ _).symm.trans H; with_reducible exact H2_) | with_reducible exact H | (rw [hy122]; exact H) | exact H
        have Ny122 := Aside0.mk hy122
        clear hy122
        replace H := Option.bind_eq_some_iff.mp H
        obtain ⟨t123, A90, H⟩ := H
        replace H : ((nat_Trim.f t123).bind fun t124 => (some t124)) = some r := H
        have A9 := Aside0.mk A90
        clear A90
        replace H := Option.bind_eq_some_iff.mp H
        obtain ⟨t124, A100, H⟩ := H
        replace H : (some t124) = some r := H
        have A10 := Aside0.mk A100
        clear A100
        obtain rfl := Option.some.inj H
        go_enter Try.func23, Try.ntmps23
        go_wp2_with (first | ((with_reducible refine gate_dst (N := 11) rfl ?_); refine Kd.R_make (Kd.int .u32) _ 30 rfl (N := 11) rfl 22 _ _ rfl ji4 rfl rfl Try.underlying22 (.int .u32 0) 4 info30 rfl (by decide) (by omega) 0 (ok := fun _ => True) (okp := fun _ => True) rfl (fun _ hk => hk) trivial (of_decide_eq_true (by first | (with_reducible assumption) | assumption)) (Nat.le_trans (Nat.mul_le_mul_right _ (of_decide_eq_true (by first | (with_reducible assumption) | assumption) : ji4.toNat ≤ 70368744177664)) (by omega)) (Below.refl _ _) (Nat.le_refl _) ?_; intro v120 w11 ho12 hb hg_ hnew_; clear hg_ hnew_; (first | rw [← Ny119.out] at ho12 | (simp only [Int.reduceToNat] at ho12; rw [← Ny119.out] at ho12)); have n0_ := Aside0.mk (Kd.R_lower ho12 (below_size (by repeat (first | (with_reducible first | exact HB.out | apply below_alloc | apply pw_below_drewN | apply below_drew1) | exact HB.out)))); have n1_ := Aside0.mk (below_step (by repeat (first | (with_reducible first | exact HB.out | apply below_alloc | apply pw_below_drewN | apply below_drew1) | exact HB.out)) hb); clear HB; have HO121 := n0_; have HB := n1_; clear n0_ n1_; clear hb ho12; have p8 : 0 ≤ (0 : Int) := (by omega); have q8 : (0 : Int) < ((y119.length : Int) : Int) := of_decide_eq_true (by first | (with_reducible assumption) | assumption); have qi8 : (0 < y119.length) = True := eq_true (by omega); obtain ⟨go8, co8, eo8, gb8, gl8, cl8, HG8⟩ := Kd.R_form HO121.out (by omega); (first | cases eo8 | (injection eo8 with ea_ en_ ec_; (first | subst ea_ | (injection ea_ with ea_; subst ea_)); subst ec_; clear en_)); have GB8 := Aside0.mk gb8; have GG8 := Aside0.mk HG8; clear gb8 gl8 HG8; obtain ⟨hx8_0, hf8_0⟩ := Kd.R_celln 0 HO121.out (0 : Int) p8 q8; (try rw [show ((0 : Int)).toNat = 0 from rfl] at hx8_0); (try simp only [Nat.reduceMul, Nat.zero_mul, Nat.zero_add, Nat.reduceAdd] at hx8_0); (try rw [show ((0 : Int)).toNat = 0 from rfl] at hf8_0); (try simp only [Nat.reduceMul, Nat.zero_mul, Nat.zero_add, Nat.reduceAdd] at hf8_0); replace p8 := eq_true p8; replace q8 := eq_true q8; obtain ⟨hy13_, hz13_⟩ := Kd.R_celln 0 HO121.out (0 : Int) (by omega) (of_decide_eq_true (by first | (with_reducible assumption) | assumption)); (try simp only [Int.reduceToNat, Int.toNat_zero, Int.toNat_ofNat, Nat.reduceMul, Nat.zero_mul, Nat.zero_add] at hy13_ hz13_); (try rw [show ((0 : Int)).toNat = 0 from rfl] at hy13_); (try rw [show ((0 : Int)).toNat = 0 from rfl] at hz13_); have HP13 := Kd.R_putg HO121.out (0 : Int) a2) | ((with_reducible refine gate_store (t := 30) (p := 14) rfl ?_); refine store_event (t := 30) (p := 14) (v := ?vo_w14) (w1 := (w11.setCell ⟨go8, (0 : Int).toNat, none⟩ (.int .u32 a2))) ?hg ?ho ?hn ?hr ?_; (case ho => rfl); (case hg => rfl); (case hn => rfl); (case hr => first | (go_simp; done) | (go_simp; rfl)); intro w14 hw; have hg : w11.grownBy w14 (some go8) := (by rw [hw]; exact HP13.2); have hp_ : Kd.R (Kd.int .u32) 30 w14 w.heap.size (fun _ => True) (.slice (some ⟨go8, 0, none⟩) y119.length co8) y122 := (by rw [hw, Ny122.out]; exact HP13.1); clear HP13; have n0_ := Aside0.mk (hp_); have n1_ := Aside0.mk ((by rw [hw]; exact below_set (HB.out) GB8.out : Below w.heap.size w w14)); clear HO121; clear HB; have HO121 := n0_; have HB := n1_; clear n0_ n1_; clear hg hw hp_) | ((with_reducible refine gate_callee (f := 34) rfl ?_); refine goesL_ (some 18) rfl rfl Try.func34 (by kernel_rfl) rfl #[.slice (some ⟨go8, 0, none⟩) y119.length co8, .slice A0 l0.length c0, .int .u32 a1, .int .i64 0] rfl (by (try simp only [List.map_toArray, List.map_cons, List.map_nil]); first | done | rfl | (simp only [List.length_drop, List.length_take]; rfl)) ?_; (with_reducible refine (mul_row.calls k (fun k_ => some k_ = (.slice (some ⟨go8, 0, none⟩) y119.length co8 : Value).ownBlock) (.slice (some ⟨go8, 0, none⟩) y119.length co8) y122 _ _ l0 a1 0 t123 w _ ?side1 ?side2 ?side3 ?side4 A9.out).mono ?_); (case side1 => repeat (first | (with_reducible first | exact HB.out | apply below_alloc | apply pw_below_drewN | apply below_drew1) | exact HB.out)); (case side2 => exact Kd.R_tight rfl HO121.out); (case side3 => exact Kd.C_kept_came (Kd.heap_int .u32) HR0.out (by repeat (first | (with_reducible first | exact HB.out | apply below_alloc | apply pw_below_drewN | apply below_drew1) | exact HB.out)) (fun k_ hs_ => (fun e_ => Kd.R_base HO121.out k_ e_.symm) hs_)); (case side4 => exact HC0.out); rintro e w15 ⟨rfl, hy0, hb, hkp⟩; refine ⟨_, rfl, ?_⟩; have n0_ := Aside0.mk (Kd.R_reok rfl hy0 (fun k_ e_ => HO121.out.1 k_ e_)); have n1_ := Aside0.mk (hb); clear HO121; clear HB; have HO121 := n0_; have HB := n1_; clear n0_ n1_; (try clear hb); (try clear hkp); (try clear hy0)) | ((with_reducible refine gate_callee (f := 31) rfl ?_); refine goesL_ (some 20) rfl rfl Try.func31 (by kernel_rfl) rfl #[.slice (some ⟨go8, 0, none⟩) t123.length co8] rfl (by (try simp only [List.map_toArray, List.map_cons, List.map_nil]); first | done | (rw [show t123.length = y119.length from (Kd.R_reads' HO121.out).1.symm] <;> rfl) | rfl | (simp only [List.length_drop, List.length_take]; rfl)) ?_; (with_reducible refine (nat_Trim.calls _ _ t123 t124 _ ?side1 ?side2 A10.out).mono ?_); (case side1 => repeat (first | exact (Kd.R_reads' HO121.out).2.2 | (with_reducible refine Kd.C_alloc ?_ _) | (with_reducible refine Kd.C_drewN ?_ _) | (with_reducible refine Kd.C_drew ?_))); (case side2 => rw [show t123.length = y119.length from (Kd.R_reads' HO121.out).1.symm]; exact (Kd.R_reads' HO121.out).2.1); rintro e w16 ⟨v125, rfl, ho0, hb⟩; refine ⟨_, rfl, ?_⟩; have n0_ := Aside0.mk (Kd.R_elder' (by (with_reducible repeat (first | apply Kd.R_alloc | apply Kd.R_drewN | apply Kd.R_drew)); exact HO121.out) (Kd.R_base ho0) hb); have n1_ := Aside0.mk (Kd.R_lower (Kd.R_new' ho0 (Kd.R_lt (by (with_reducible repeat (first | apply Kd.R_alloc | apply Kd.R_drewN | apply Kd.R_drew)); exact HO121.out))) (below_size (by repeat (first | (with_reducible first | exact HB.out | apply below_alloc | apply pw_below_drewN | apply below_drew1) | exact HB.out)))); have n2_ := Aside0.mk (below_step (by repeat (first | (with_reducible first | exact HB.out | apply below_alloc | apply pw_below_drewN | apply below_drew1) | exact HB.out)) hb); clear HO121; clear HB; have HO121 := n0_; have HO126 := n1_; have HB := n2_; clear n0_ n1_ n2_; (try clear hb); (try clear hb2); (try clear hk); (try clear hi); (try clear ho0)))
        go_ret
        exact ⟨_, by first | rfl | (simp [errW_none, errW_some] <;> rfl) | (simp only [← hji4]; first | rfl | (simp [errW_none, errW_some] <;> rfl)) | (simp [*, errW_none, errW_some] <;> rfl), by (with_reducible repeat (first | apply Kd.R_alloc | apply Kd.R_drewN | apply Kd.R_drew)); exact Kd.R_mono HO126.out (fun _ hk => trivial), by repeat (first | (with_reducible first | exact HB.out | apply below_alloc | apply pw_below_drewN | apply below_drew1) | exact HB.out)⟩
      · rw [if_neg c7] at H
        exact absurd H (by simp)
    · rw [if_neg c6] at H
      exact absurd H (by simp)
  · rw [if_neg c5] at H
    exact absurd H (by simp)

end Go.Proofs.Ytkhmdpplpecgcaa.Px

namespace Go.Proofs.Ytkhmdpplpecgcaa.Px
open Fig Go.RowKit Go.Proofs.YtkhmdpplpecgcaaW.PrintWords Go.Proofs.YtkhmdpplpecgcaaW.PrintLast Go.Proofs.YtkhmdpplpecgcaaW.PrintMore
attribute [local go_sem] max2_int min2_int max_two min_two max_three min_three max_four min_four   -- for this text's walks alone

/-! ### figureheadlaw02_answers: function 16 -/
def figureheadlaw02_answers.f (k : Nat)  : Option (Bool) := (mul_Mul.f k (([999999999] : List Int)) (([999999999] : List Int))).bind fun t133 => ((mul_Small.f k (([5] : List Int)) 3 4).bind fun t139 => (if (t133.length : Int) = 2 then (if 0 < (t133.length : Int) then (if (rd t133 0) = 1 then (if 1 < (t133.length : Int) then (if (rd t133 1) = 999999998 then (if (t139.length : Int) = 1 then (if 0 < (t139.length : Int) then (some ((rd t139 0) == 19)) else (none)) else (some false)) else (some false)) else (none)) else (some false)) else (none)) else (some false)))
theorem figureheadlaw02_answers.mono : ∀ k, LeO (figureheadlaw02_answers.f k ) (figureheadlaw02_answers.f (k + 1) ) := by
  intro  k
  unfold figureheadlaw02_answers.f
  repeat' first
      | (with_reducible exact mul_Mul.mono _ _ _)
      | (with_reducible exact mul_Small.mono _ _ _ _)
      | (with_reducible exact LeO.refl _)
      | (with_reducible exact LeO.none _)
      | (with_reducible refine LeO.ite ?_ ?_)
      | (with_reducible refine LeO.bind ?_ (fun _ => ?_))
      | exact mul_Mul.mono _ _ _
      | exact mul_Small.mono _ _ _ _
      | exact LeO.none _
      | refine LeO.ite ?_ ?_
      | refine LeO.bind ?_ (fun _ => ?_)
set_option maxHeartbeats 8000000 in
set_option maxRecDepth 100000 in
theorem figureheadlaw02_answers.calls (k : Nat)  (r : Bool) (w : World) (HT : Aside0 (r = true)) (h : figureheadlaw02_answers.f k  = some r) :
    Calls Try.prog 16 #[] w fun e w' => e = .returned (.bool r) ∧ Below w.heap.size w w' := by
  have HB := Aside0.mk (Below.refl w.heap.size w)
  have H : ((mul_Mul.f k (([999999999] : List Int)) (([999999999] : List Int))).bind fun t133 => ((mul_Small.f k (([5] : List Int)) 3 4).bind fun t139 => (if (t133.length : Int) = 2 then (if 0 < (t133.length : Int) then (if (rd t133 0) = 1 then (if 1 < (t133.length : Int) then (if (rd t133 1) = 999999998 then (if (t139.length : Int) = 1 then (if 0 < (t139.length : Int) then (some ((rd t139 0) == 19)) else (none)) else (some false)) else (some false)) else (none)) else (some false)) else (none)) else (some false)))) = some r := h
  clear h
  obtain ⟨y127, hy127⟩ : ∃ y_ : List Int, y_ = (([999999999] : List Int)) := ⟨_, rfl⟩
  replace H : ((mul_Mul.f k y127 (([999999999] : List Int))).bind fun t133 => ((mul_Small.f k (([5] : List Int)) 3 4).bind fun t139 => (if (t133.length : Int) = 2 then (if 0 < (t133.length : Int) then (if (rd t133 0) = 1 then (if 1 < (t133.length : Int) then (if (rd t133 1) = 999999998 then (if (t139.length : Int) = 1 then (if 0 < (t139.length : Int) then (some ((rd t139 0) == 19)) else (none)) else (some false)) else (some false)) else (none)) else (some false)) else (none)) else (some false)))) = some r := by first | (rw [hy127]; with_reducible exact H) | (have H2_ := (Option.bind_some _ _).symm.trans H; rw [hy127]; with_reducible exact H2_) | (have H2_ := (Option.bind_some _ _).symm.trans H; with_reducible exact H2_) | with_reducible exact H | (rw [hy127]; exact H) | exact H
  have Ny127 := Aside0.mk hy127
  clear hy127
  obtain ⟨y130, hy130⟩ : ∃ y_ : List Int, y_ = (([999999999] : List Int)) := ⟨_, rfl⟩
  replace H : ((mul_Mul.f k y127 y130).bind fun t133 => ((mul_Small.f k (([5] : List Int)) 3 4).bind fun t139 => (if (t133.length : Int) = 2 then (if 0 < (t133.length : Int) then (if (rd t133 0) = 1 then (if 1 < (t133.length : Int) then (if (rd t133 1) = 999999998 then (if (t139.length : Int) = 1 then (if 0 < (t139.length : Int) then (some ((rd t139 0) == 19)) else (none)) else (some false)) else (some false)) else (none)) else (some false)) else (none)) else (some false)))) = some r := by first | (rw [hy130]; with_reducible exact H) | (have H2_ := (Option.bind_some _ _).symm.trans H; rw [hy130]; with_reducible exact H2_) | (have H2_ := (Option.bind_some _ _).symm.trans H; with_reducible exact H2_) | with_reducible exact H | (rw [hy130]; exact H) | exact H
  have Ny130 := Aside0.mk hy130
  clear hy130
  replace H := Option.bind_eq_some_iff.mp H
  obtain ⟨t133, A10, H⟩ := H
  replace H : ((mul_Small.f k (([5] : List Int)) 3 4).bind fun t139 => (if (t133.length : Int) = 2 then (if 0 < (t133.length : Int) then (if (rd t133 0) = 1 then (if 1 < (t133.length : Int) then (if (rd t133 1) = 999999998 then (if (t139.length : Int) = 1 then (if 0 < (t139.length : Int) then (some ((rd t139 0) == 19)) else (none)) else (some false)) else (some false)) else (none)) else (some false)) else (none)) else (some false))) = some r := H
  have A1 := Aside0.mk A10
  clear A10
  obtain ⟨y136, hy136⟩ : ∃ y_ : List Int, y_ = (([5] : List Int)) := ⟨_, rfl⟩
  replace H : ((mul_Small.f k y136 3 4).bind fun t139 => (if (t133.length : Int) = 2 then (if 0 < (t133.length : Int) then (if (rd t133 0) = 1 then (if 1 < (t133.length : Int) then (if (rd t133 1) = 999999998 then (if (t139.length : Int) = 1 then (if 0 < (t139.length : Int) then (some ((rd t139 0) == 19)) else (none)) else (some false)) else (some false)) else (none)) else (some false)) else (none)) else (some false))) = some r := by first | (rw [hy136]; with_reducible exact H) | (have H2_ := (Option.bind_some _ _).symm.trans H; rw [hy136]; with_reducible exact H2_) | (have H2_ := (Option.bind_some _ _).symm.trans H; with_reducible exact H2_) | with_reducible exact H | (rw [hy136]; exact H) | exact H
  have Ny136 := Aside0.mk hy136
  clear hy136
  replace H := Option.bind_eq_some_iff.mp H
  obtain ⟨t139, A20, H⟩ := H
  replace H : (if (t133.length : Int) = 2 then (if 0 < (t133.length : Int) then (if (rd t133 0) = 1 then (if 1 < (t133.length : Int) then (if (rd t133 1) = 999999998 then (if (t139.length : Int) = 1 then (if 0 < (t139.length : Int) then (some ((rd t139 0) == 19)) else (none)) else (some false)) else (some false)) else (none)) else (some false)) else (none)) else (some false)) = some r := H
  have A2 := Aside0.mk A20
  clear A20
  by_cases c3 : (t133.length : Int) = 2
  · rw [if_pos c3] at H
    have c3b0 : ((t133.length : Int) == 2) = true := beq_iff_eq.mpr c3
    have c3b1 : ((t133.length : Int) != 2) = false := bne_eq_false_iff_eq.mpr c3
    clear c3
    by_cases c4 : 0 < (t133.length : Int)
    · rw [if_pos c4] at H
      have c4b0 : decide (0 < (t133.length : Int)) = true := decide_eq_true c4
      have c4b1 : decide (0 < t133.length) = true := decide_eq_true (by omega)
      clear c4
      by_cases c5 : (rd t133 0) = 1
      · rw [if_pos c5] at H
        have c5b0 : ((rd t133 0) == 1) = true := beq_iff_eq.mpr c5
        have c5b1 : ((rd t133 0) != 1) = false := bne_eq_false_iff_eq.mpr c5
        clear c5
        by_cases c6 : 1 < (t133.length : Int)
        · rw [if_pos c6] at H
          have c6b0 : decide (1 < (t133.length : Int)) = true := decide_eq_true c6
          have c6b1 : decide (1 < t133.length) = true := decide_eq_true (by omega)
          clear c6
          by_cases c7 : (rd t133 1) = 999999998
          · rw [if_pos c7] at H
            have c7b0 : ((rd t133 1) == 999999998) = true := beq_iff_eq.mpr c7
            have c7b1 : ((rd t133 1) != 999999998) = false := bne_eq_false_iff_eq.mpr c7
            clear c7
            by_cases c8 : (t139.length : Int) = 1
            · rw [if_pos c8] at H
              have c8b0 : ((t139.length : Int) == 1) = true := beq_iff_eq.mpr c8
              have c8b1 : ((t139.length : Int) != 1) = false := bne_eq_false_iff_eq.mpr c8
              clear c8
              by_cases c9 : 0 < (t139.length : Int)
              · rw [if_pos c9] at H
                have c9b0 : decide (0 < (t139.length : Int)) = true := decide_eq_true c9
                have c9b1 : decide (0 < t139.length) = true := decide_eq_true (by omega)
                clear c9
                obtain rfl := Option.some.inj H
                go_enter Try.func16, Try.ntmps16
                go_wp2_with (first | ((with_reducible refine gate_dst (N := 3) rfl ?_); (try (refine gate_guard (by rfl) ?_; dsimp only)); refine Kd.R_lit (Kd.int .u32) _ 30 ?hg (N := 3) ?hd (xs := ([999999999] : List Int)) (inner := [.int .u32 999999999]) (ok := fun _ => True) (okp := fun _ => True) ?hr ?hp (fun _ hk => hk) trivial (Below.refl _ _) (Nat.le_refl _) (by simp) ?_; (case hd => rfl); (case hg => rfl); (case hr => first | (go_simp; done) | (go_simp; rfl)); (case hp => exact (Reps.one (show Kd.M (Kd.int .u32) _ _ _ 999999999 [.int .u32 999999999] from rfl) (Reps.none _ _))); intro v128 w10 ho11 hb hg_ hnew_; clear hg_ hnew_; (first | rw [← Ny127.out] at ho11 | (simp only [Int.reduceToNat] at ho11; rw [← Ny127.out] at ho11)); have n0_ := Aside0.mk (Kd.R_lower ho11 (below_size (by repeat (first | (with_reducible first | exact HB.out | apply below_alloc | apply pw_below_drewN | apply below_drew1) | exact HB.out)))); have n1_ := Aside0.mk (below_step (by repeat (first | (with_reducible first | exact HB.out | apply below_alloc | apply pw_below_drewN | apply below_drew1) | exact HB.out)) hb); clear HB; have HO129 := n0_; have HB := n1_; clear n0_ n1_; clear hb ho11) | ((with_reducible refine gate_dst (N := 4) rfl ?_); (try (refine gate_guard (by rfl) ?_; dsimp only)); refine Kd.R_lit (Kd.int .u32) _ 30 ?hg (N := 4) ?hd (xs := ([999999999] : List Int)) (inner := [.int .u32 999999999]) (ok := fun _ => True) (okp := fun _ => True) ?hr ?hp (fun _ hk => hk) trivial (Below.refl _ _) (Nat.le_refl _) (by simp) ?_; (case hd => rfl); (case hg => rfl); (case hr => first | (go_simp; done) | (go_simp; rfl)); (case hp => exact (Reps.one (show Kd.M (Kd.int .u32) _ _ _ 999999999 [.int .u32 999999999] from rfl) (Reps.none _ _))); intro v131 w12 ho13 hb hg_ hnew_; clear hg_ hnew_; (first | rw [← Ny130.out] at ho13 | (simp only [Int.reduceToNat] at ho13; rw [← Ny130.out] at ho13)); have n0_ := Aside0.mk (Kd.R_elder' (by (with_reducible repeat (first | apply Kd.R_alloc | apply Kd.R_drewN | apply Kd.R_drew)); exact HO129.out) (Kd.R_base ho13) hb); have n1_ := Aside0.mk (Kd.R_lower (Kd.R_new' ho13 (Kd.R_lt (by (with_reducible repeat (first | apply Kd.R_alloc | apply Kd.R_drewN | apply Kd.R_drew)); exact HO129.out))) (below_size (by repeat (first | (with_reducible first | exact HB.out | apply below_alloc | apply pw_below_drewN | apply below_drew1) | exact HB.out)))); have n2_ := Aside0.mk (below_step (by repeat (first | (with_reducible first | exact HB.out | apply below_alloc | apply pw_below_drewN | apply below_drew1) | exact HB.out)) hb); clear HO129; clear HB; have HO129 := n0_; have HO132 := n1_; have HB := n2_; clear n0_ n1_ n2_; clear hb ho13; obtain ⟨Ao14, co14, eo14⟩ := Kd.R_slice HO129.out; subst eo14; obtain ⟨Ao15, co15, eo15⟩ := Kd.R_slice HO132.out; subst eo15) | ((with_reducible refine gate_callee (f := 18) rfl ?_); refine goesL_ (some 5) rfl rfl Try.func18 (by kernel_rfl) rfl #[.slice Ao14 y127.length co14, .slice Ao15 y130.length co15] rfl (by (try simp only [List.map_toArray, List.map_cons, List.map_nil]); first | done | rfl | (simp only [List.length_drop, List.length_take]; rfl)) ?_; (with_reducible refine (mul_Mul.calls k _ _ y127 _ _ y130 t133 _ ?side1 ?side2 ?side3 ?side4 A1.out).mono ?_); (case side1 => repeat (first | exact (Kd.R_reads' HO129.out).2.2 | (with_reducible refine Kd.C_alloc ?_ _) | (with_reducible refine Kd.C_drewN ?_ _) | (with_reducible refine Kd.C_drew ?_))); (case side2 => exact (Kd.R_reads' HO129.out).2.1); (case side3 => repeat (first | exact (Kd.R_reads' HO132.out).2.2 | (with_reducible refine Kd.C_alloc ?_ _) | (with_reducible refine Kd.C_drewN ?_ _) | (with_reducible refine Kd.C_drew ?_))); (case side4 => exact (Kd.R_reads' HO132.out).2.1); rintro e w16 ⟨v134, rfl, ho0, hb⟩; refine ⟨_, rfl, ?_⟩; have n0_ := Aside0.mk (Kd.R_elder' (by (with_reducible repeat (first | apply Kd.R_alloc | apply Kd.R_drewN | apply Kd.R_drew)); exact HO129.out) (Kd.R_base ho0) hb); have n1_ := Aside0.mk (Kd.R_elder' (by (with_reducible repeat (first | apply Kd.R_alloc | apply Kd.R_drewN | apply Kd.R_drew)); exact HO132.out) (Kd.R_base ho0) hb); have n2_ := Aside0.mk (Kd.R_lower (Kd.R_new' (Kd.R_new' ho0 (Kd.R_lt (by (with_reducible repeat (first | apply Kd.R_alloc | apply Kd.R_drewN | apply Kd.R_drew)); exact HO129.out))) (Kd.R_lt (by (with_reducible repeat (first | apply Kd.R_alloc | apply Kd.R_drewN | apply Kd.R_drew)); exact HO132.out))) (below_size (by repeat (first | (with_reducible first | exact HB.out | apply below_alloc | apply pw_below_drewN | apply below_drew1) | exact HB.out)))); have n3_ := Aside0.mk (below_step (by repeat (first | (with_reducible first | exact HB.out | apply below_alloc | apply pw_below_drewN | apply below_drew1) | exact HB.out)) hb); clear HO129; clear HO132; clear HB; have HO129 := n0_; have HO132 := n1_; have HO135 := n2_; have HB := n3_; clear n0_ n1_ n2_ n3_; (try clear hb); (try clear hb2); (try clear hk); (try clear hi); (try clear ho0)) | ((with_reducible refine gate_dst (N := 6) rfl ?_); (try (refine gate_guard (by rfl) ?_; dsimp only)); refine Kd.R_lit (Kd.int .u32) _ 30 ?hg (N := 6) ?hd (xs := ([5] : List Int)) (inner := [.int .u32 5]) (ok := fun _ => True) (okp := fun _ => True) ?hr ?hp (fun _ hk => hk) trivial (Below.refl _ _) (Nat.le_refl _) (by simp) ?_; (case hd => rfl); (case hg => rfl); (case hr => first | (go_simp; done) | (go_simp; rfl)); (case hp => exact (Reps.one (show Kd.M (Kd.int .u32) _ _ _ 5 [.int .u32 5] from rfl) (Reps.none _ _))); intro v137 w17 ho18 hb hg_ hnew_; clear hg_ hnew_; (first | rw [← Ny136.out] at ho18 | (simp only [Int.reduceToNat] at ho18; rw [← Ny136.out] at ho18)); have n0_ := Aside0.mk (Kd.R_elder' (by (with_reducible repeat (first | apply Kd.R_alloc | apply Kd.R_drewN | apply Kd.R_drew)); exact HO129.out) (Kd.R_base ho18) hb); have n1_ := Aside0.mk (Kd.R_elder' (by (with_reducible repeat (first | apply Kd.R_alloc | apply Kd.R_drewN | apply Kd.R_drew)); exact HO132.out) (Kd.R_base ho18) hb); have n2_ := Aside0.mk (Kd.R_elder' (by (with_reducible repeat (first | apply Kd.R_alloc | apply Kd.R_drewN | apply Kd.R_drew)); exact HO135.out) (Kd.R_base ho18) hb); have n3_ := Aside0.mk (Kd.R_lower (Kd.R_new' (Kd.R_new' (Kd.R_new' ho18 (Kd.R_lt (by (with_reducible repeat (first | apply Kd.R_alloc | apply Kd.R_drewN | apply Kd.R_drew)); exact HO129.out))) (Kd.R_lt (by (with_reducible repeat (first | apply Kd.R_alloc | apply Kd.R_drewN | apply Kd.R_drew)); exact HO132.out))) (Kd.R_lt (by (with_reducible repeat (first | apply Kd.R_alloc | apply Kd.R_drewN | apply Kd.R_drew)); exact HO135.out))) (below_size (by repeat (first | (with_reducible first | exact HB.out | apply below_alloc | apply pw_below_drewN | apply below_drew1) | exact HB.out)))); have n4_ := Aside0.mk (below_step (by repeat (first | (with_reducible first | exact HB.out | apply below_alloc | apply pw_below_drewN | apply below_drew1) | exact HB.out)) hb); clear HO129; clear HO132; clear HO135; clear HB; have HO129 := n0_; have HO132 := n1_; have HO135 := n2_; have HO138 := n3_; have HB := n4_; clear n0_ n1_ n2_ n3_ n4_; clear hb ho18; obtain ⟨Ao19, co19, eo19⟩ := Kd.R_slice HO138.out; subst eo19) | ((with_reducible refine gate_callee (f := 23) rfl ?_); refine goesL_ (some 7) rfl rfl Try.func23 (by kernel_rfl) rfl #[.slice Ao19 y136.length co19, .int .u32 3, .int .u32 4] rfl (by (try simp only [List.map_toArray, List.map_cons, List.map_nil]); first | done | rfl | (simp only [List.length_drop, List.length_take]; rfl)) ?_; (with_reducible refine (mul_Small.calls k _ _ y136 3 4 t139 _ ?side1 ?side2 A2.out).mono ?_); (case side1 => repeat (first | exact (Kd.R_reads' HO138.out).2.2 | (with_reducible refine Kd.C_alloc ?_ _) | (with_reducible refine Kd.C_drewN ?_ _) | (with_reducible refine Kd.C_drew ?_))); (case side2 => exact (Kd.R_reads' HO138.out).2.1); rintro e w20 ⟨v140, rfl, ho0, hb⟩; refine ⟨_, rfl, ?_⟩; have n0_ := Aside0.mk (Kd.R_elder' (by (with_reducible repeat (first | apply Kd.R_alloc | apply Kd.R_drewN | apply Kd.R_drew)); exact HO129.out) (Kd.R_base ho0) hb); have n1_ := Aside0.mk (Kd.R_elder' (by (with_reducible repeat (first | apply Kd.R_alloc | apply Kd.R_drewN | apply Kd.R_drew)); exact HO132.out) (Kd.R_base ho0) hb); have n2_ := Aside0.mk (Kd.R_elder' (by (with_reducible repeat (first | apply Kd.R_alloc | apply Kd.R_drewN | apply Kd.R_drew)); exact HO135.out) (Kd.R_base ho0) hb); have n3_ := Aside0.mk (Kd.R_elder' (by (with_reducible repeat (first | apply Kd.R_alloc | apply Kd.R_drewN | apply Kd.R_drew)); exact HO138.out) (Kd.R_base ho0) hb); have n4_ := Aside0.mk (Kd.R_lower (Kd.R_new' (Kd.R_new' (Kd.R_new' (Kd.R_new' ho0 (Kd.R_lt (by (with_reducible repeat (first | apply Kd.R_alloc | apply Kd.R_drewN | apply Kd.R_drew)); exact HO129.out))) (Kd.R_lt (by (with_reducible repeat (first | apply Kd.R_alloc | apply Kd.R_drewN | apply Kd.R_drew)); exact HO132.out))) (Kd.R_lt (by (with_reducible repeat (first | apply Kd.R_alloc | apply Kd.R_drewN | apply Kd.R_drew)); exact HO135.out))) (Kd.R_lt (by (with_reducible repeat (first | apply Kd.R_alloc | apply Kd.R_drewN | apply Kd.R_drew)); exact HO138.out))) (below_size (by repeat (first | (with_reducible first | exact HB.out | apply below_alloc | apply pw_below_drewN | apply below_drew1) | exact HB.out)))); have n5_ := Aside0.mk (below_step (by repeat (first | (with_reducible first | exact HB.out | apply below_alloc | apply pw_below_drewN | apply below_drew1) | exact HB.out)) hb); clear HO129; clear HO132; clear HO135; clear HO138; clear HB; have HO129 := n0_; have HO132 := n1_; have HO135 := n2_; have HO138 := n3_; have HO141 := n4_; have HB := n5_; clear n0_ n1_ n2_ n3_ n4_ n5_; (try clear hb); (try clear hb2); (try clear hk); (try clear hi); (try clear ho0); obtain ⟨Ao21, co21, eo21⟩ := Kd.R_slice HO135.out; subst eo21; have p142 : 0 ≤ (0 : Int) := (by omega); have q142 : 0 < (t133.length : Int) := of_decide_eq_true (by first | (with_reducible assumption) | assumption); obtain ⟨ad142, e142, hx142_0⟩ := Kd.at_int (Kd.R_reads' HO135.out).2.2 0 p142 q142; cases e142; have qi142 : (0 < t133.length) = True := eq_true (by omega); (try rw [show ((0 : Int)).toNat = 0 from rfl] at hx142_0); (try rw [Addr.add_zero'] at hx142_0); replace p142 := eq_true p142; replace q142 := eq_true q142; have p143 : 0 ≤ (1 : Int) := (by omega); have q143 : 1 < (t133.length : Int) := of_decide_eq_true (by first | (with_reducible assumption) | assumption); obtain ⟨ad143, e143, hx143_0⟩ := Kd.at_int (Kd.R_reads' HO135.out).2.2 1 p143 q143; obtain rfl : ad142 = ad143 := (by injection e143); (try simp only [show (1 : Int).toNat = 1 from rfl, Nat.reduceMul, Nat.reduceEqDiff, Go.Addr.add, ↓reduceIte] at hx143_0); have qi143 : (1 < t133.length) = True := eq_true (by omega); (try rw [show ((1 : Int)).toNat = 1 from rfl] at hx143_0); replace p143 := eq_true p143; replace q143 := eq_true q143; obtain ⟨Ao22, co22, eo22⟩ := Kd.R_slice HO141.out; subst eo22; have p144 : 0 ≤ (0 : Int) := (by omega); have q144 : 0 < (t139.length : Int) := of_decide_eq_true (by first | (with_reducible assumption) | assumption); obtain ⟨ad144, e144, hx144_0⟩ := Kd.at_int (Kd.R_reads' HO141.out).2.2 0 p144 q144; cases e144; have qi144 : (0 < t139.length) = True := eq_true (by omega); (try rw [show ((0 : Int)).toNat = 0 from rfl] at hx144_0); (try rw [Addr.add_zero'] at hx144_0); replace p144 := eq_true p144; replace q144 := eq_true q144))
                go_ret
                exact ⟨by first | rfl | (simp [errW_none, errW_some] <;> rfl) | (simp [*, errW_none, errW_some] <;> rfl), by repeat (first | (with_reducible first | exact HB.out | apply below_alloc | apply pw_below_drewN | apply below_drew1) | exact HB.out)⟩
              · rw [if_neg c9] at H
                exact absurd H (by simp)
            · rw [if_neg c8] at H
              have c8b0 : ((t139.length : Int) == 1) = false := beq_eq_false_iff_ne.mpr c8
              have c8b1 : ((t139.length : Int) != 1) = true := bne_iff_ne.mpr c8
              exact absurd ((Option.some.inj H).trans HT.out) (by decide)
          · rw [if_neg c7] at H
            have c7b0 : ((rd t133 1) == 999999998) = false := beq_eq_false_iff_ne.mpr c7
            have c7b1 : ((rd t133 1) != 999999998) = true := bne_iff_ne.mpr c7
            exact absurd ((Option.some.inj H).trans HT.out) (by decide)
        · rw [if_neg c6] at H
          exact absurd H (by simp)
      · rw [if_neg c5] at H
        have c5b0 : ((rd t133 0) == 1) = false := beq_eq_false_iff_ne.mpr c5
        have c5b1 : ((rd t133 0) != 1) = true := bne_iff_ne.mpr c5
        exact absurd ((Option.some.inj H).trans HT.out) (by decide)
    · rw [if_neg c4] at H
      exact absurd H (by simp)
  · rw [if_neg c3] at H
    have c3b0 : ((t133.length : Int) == 2) = false := beq_eq_false_iff_ne.mpr c3
    have c3b1 : ((t133.length : Int) != 2) = true := bne_iff_ne.mpr c3
    exact absurd ((Option.some.inj H).trans HT.out) (by decide)

end Go.Proofs.Ytkhmdpplpecgcaa.Px

namespace Go.Proofs.Ytkhmdpplpecgcaa.Px
open Fig Go.RowKit Go.Proofs.YtkhmdpplpecgcaaW.PrintWords Go.Proofs.YtkhmdpplpecgcaaW.PrintLast Go.Proofs.YtkhmdpplpecgcaaW.PrintMore
attribute [local go_sem] max2_int min2_int max_two min_two max_three min_three max_four min_four   -- for this text's walks alone

/-! ### figureheadref01_Same: function 17 -/
def figureheadref01_Same.l0 : Nat → List Int → List Int → Int → Option (Bool)
  | 0, _, _, _ => none
  | k + 1, x0, x1, x5 => if x5 < (x0.length : Int) then (if 0 ≤ x5 then (if x5 < (x1.length : Int) then (if (rd x0 x5) = (rd x1 x5) then (figureheadref01_Same.l0 k x0 x1 (wrap64 (x5 + 1))) else (some false)) else (none)) else (none)) else (some true)
def figureheadref01_Same.f (k : Nat) (l0 : List Int) (l1 : List Int) : Option (Bool) := if (l0.length : Int) = (l1.length : Int) then (figureheadref01_Same.l0 k l0 l1 0) else (some false)
theorem figureheadref01_Same.mono_l : ∀ k, (∀ y0 y1 y2, LeO (figureheadref01_Same.l0 k y0 y1 y2) (figureheadref01_Same.l0 (k + 1) y0 y1 y2))
  | 0 => fun _ _ _ r h => by simp [figureheadref01_Same.l0] at h
  | k + 1 => by
    have ih0 := figureheadref01_Same.mono_l k
    · intro y0 y1 y2
      unfold figureheadref01_Same.l0
      repeat' first
      | (with_reducible exact ih0 _ _ _)
      | (with_reducible exact LeO.refl _)
      | (with_reducible exact LeO.none _)
      | (with_reducible refine LeO.ite ?_ ?_)
      | (with_reducible refine LeO.bind ?_ (fun _ => ?_))
      | exact ih0 _ _ _
      | exact LeO.none _
      | refine LeO.ite ?_ ?_
      | refine LeO.bind ?_ (fun _ => ?_)
theorem figureheadref01_Same.mono : ∀ a0 a1 k, LeO (figureheadref01_Same.f k a0 a1) (figureheadref01_Same.f (k + 1) a0 a1) := by
  intro a0 a1 k
  have ih0 := figureheadref01_Same.mono_l k
  unfold figureheadref01_Same.f
  repeat' first
      | (with_reducible exact ih0 _ _ _)
      | (with_reducible exact LeO.refl _)
      | (with_reducible exact LeO.none _)
      | (with_reducible refine LeO.ite ?_ ?_)
      | (with_reducible refine LeO.bind ?_ (fun _ => ?_))
      | exact ih0 _ _ _
      | exact LeO.none _
      | refine LeO.ite ?_ ?_
      | refine LeO.bind ?_ (fun _ => ?_)
set_option maxHeartbeats 8000000 in
set_option maxRecDepth 100000 in
theorem figureheadref01_Same.calls (k : Nat) (A0 : Option Addr) (c0 : Nat) (l0 : List Int) (A1 : Option Addr) (c1 : Nat) (l1 : List Int) (r : Bool) (w : World) (hr0 : Kd.C (Kd.int .u32) w A0 l0.length l0) (hc0 : l0.length ≤ c0) (hr1 : Kd.C (Kd.int .u32) w A1 l1.length l1) (hc1 : l1.length ≤ c1) (h : figureheadref01_Same.f k l0 l1 = some r) :
    Calls Try.prog 17 #[.slice A0 l0.length c0, .slice A1 l1.length c1] w fun e w' => e = .returned (.bool r) ∧ Drawn0 w w' := by
  have HR0 := Aside0.mk hr0
  have HC0 := Aside0.mk hc0
  clear hr0 hc0
  have HR1 := Aside0.mk hr1
  have HC1 := Aside0.mk hc1
  clear hr1 hc1
  have H : (if (l0.length : Int) = (l1.length : Int) then (figureheadref01_Same.l0 k l0 l1 0) else (some false)) = some r := h
  clear h
  by_cases c3 : (l0.length : Int) = (l1.length : Int)
  · rw [if_pos c3] at H
    have c3b0 : ((l0.length : Int) == (l1.length : Int)) = true := beq_iff_eq.mpr c3
    have c3b1 : ((l0.length : Int) != (l1.length : Int)) = false := bne_eq_false_iff_eq.mpr c3
    have c3b2 : (l0.length == l1.length) = true := by first | simpa using c3 | (simp at c3 ⊢; omega)
    clear c3
    have H' := Aside0.mk H
    clear H
    go_enter Try.func17, Try.ntmps17
    go_wp2
    repeat (go_quiet (fail); try go_wp2)
    go_loopg [5] k (fun kq v5 w' => ∃ (x5_1 : Int), v5 = .int .i64 x5_1 ∧ Aside0 (figureheadref01_Same.l0 kq l0 l1 x5_1 = some r) ∧ Aside0 (kq ≤ k) ∧ Drawn0 w w')
    case atStart => exact ⟨(0), (by first | rfl | (simp; done) | (simp [*]; done)), H', ⟨Nat.le_refl _⟩, by repeat (first | exact Drawn0.refl _ | apply Drawn0.step)⟩
    case round =>
      clear H'
      try clear c1
      try clear p2
      try clear c3
      try clear c3b0
      try clear c3b1
      try clear c3b2
      obtain ⟨x5_1, rfl, HA, HK1, ⟨m1, rfl⟩⟩ := hrel
      cases gk with
      | zero => exact absurd HA.out (by simp [figureheadref01_Same.l0])
      | succ k1 =>
        have H := HA.out
        clear HA
        simp only [figureheadref01_Same.l0] at H
        by_cases c4 : x5_1 < (l0.length : Int)
        · rw [if_pos c4] at H
          have c4b0 : decide (x5_1 < (l0.length : Int)) = true := decide_eq_true c4
          clear c4
          by_cases c5 : 0 ≤ x5_1
          · rw [if_pos c5] at H
            have c5b0 : decide (0 ≤ x5_1) = true := decide_eq_true c5
            clear c5
            by_cases c6 : x5_1 < (l1.length : Int)
            · rw [if_pos c6] at H
              have c6b0 : decide (x5_1 < (l1.length : Int)) = true := decide_eq_true c6
              clear c6
              by_cases c7 : (rd l0 x5_1) = (rd l1 x5_1)
              · rw [if_pos c7] at H
                have c7b0 : ((rd l0 x5_1) == (rd l1 x5_1)) = true := beq_iff_eq.mpr c7
                have c7b1 : ((rd l0 x5_1) != (rd l1 x5_1)) = false := bne_eq_false_iff_eq.mpr c7
                clear c7
                have H' := Aside0.mk H
                clear H
                have p145 : 0 ≤ (x5_1 : Int) := of_decide_eq_true (by first | (with_reducible assumption) | assumption)
                have q145 : x5_1 < (l0.length : Int) := of_decide_eq_true (by first | (with_reducible assumption) | assumption)
                obtain ⟨ad145, e145, hx145_0⟩ := Kd.at_int HR0.out x5_1 p145 q145
                cases e145
                replace p145 := eq_true p145
                replace q145 := eq_true q145
                have p146 : 0 ≤ (x5_1 : Int) := of_decide_eq_true (by first | (with_reducible assumption) | assumption)
                have q146 : x5_1 < (l1.length : Int) := of_decide_eq_true (by first | (with_reducible assumption) | assumption)
                obtain ⟨ad146, e146, hx146_0⟩ := Kd.at_int HR1.out x5_1 p146 q146
                cases e146
                replace p146 := eq_true p146
                replace q146 := eq_true q146
                go_wp2
                repeat (go_quiet (fail); try go_wp2)
                go_roundg k1
                case measure => have := HK1.out; omega
                case rel => exact ⟨(wrap64 (x5_1 + 1)), (by first | rfl | (simp; done) | (simp [*]; done)), H', ⟨by have := HK1.out; omega⟩, by repeat (first | exact Drawn0.refl _ | apply Drawn0.step)⟩
              · rw [if_neg c7] at H
                have c7b0 : ((rd l0 x5_1) == (rd l1 x5_1)) = false := beq_eq_false_iff_ne.mpr c7
                have c7b1 : ((rd l0 x5_1) != (rd l1 x5_1)) = true := bne_iff_ne.mpr c7
                obtain rfl := Option.some.inj H
                have p145 : 0 ≤ (x5_1 : Int) := of_decide_eq_true (by first | (with_reducible assumption) | assumption)
                have q145 : x5_1 < (l0.length : Int) := of_decide_eq_true (by first | (with_reducible assumption) | assumption)
                obtain ⟨ad145, e145, hx145_0⟩ := Kd.at_int HR0.out x5_1 p145 q145
                cases e145
                replace p145 := eq_true p145
                replace q145 := eq_true q145
                have p146 : 0 ≤ (x5_1 : Int) := of_decide_eq_true (by first | (with_reducible assumption) | assumption)
                have q146 : x5_1 < (l1.length : Int) := of_decide_eq_true (by first | (with_reducible assumption) | assumption)
                obtain ⟨ad146, e146, hx146_0⟩ := Kd.at_int HR1.out x5_1 p146 q146
                cases e146
                replace p146 := eq_true p146
                replace q146 := eq_true q146
                go_wp2
                repeat (go_quiet (fail); try go_wp2)
                go_ret
                exact ⟨by first | rfl | (simp; done) | (simp [*]; done), by repeat (first | exact Drawn0.refl _ | apply Drawn0.step)⟩
            · rw [if_neg c6] at H
              exact absurd H (by simp)
          · rw [if_neg c5] at H
            exact absurd H (by simp)
        · rw [if_neg c4] at H
          have c4b0 : decide (x5_1 < (l0.length : Int)) = false := decide_eq_false c4
          clear c4
          obtain rfl := Option.some.inj H
          go_wp2
          repeat (go_quiet (fail); try go_wp2)
          go_ret
          exact ⟨by first | rfl | (simp; done) | (simp [*]; done), by repeat (first | exact Drawn0.refl _ | apply Drawn0.step)⟩
  · rw [if_neg c3] at H
    have c3b0 : ((l0.length : Int) == (l1.length : Int)) = false := beq_eq_false_iff_ne.mpr c3
    have c3b1 : ((l0.length : Int) != (l1.length : Int)) = true := bne_iff_ne.mpr c3
    have c3b2 : (l0.length == l1.length) = false := by first | simpa using c3 | (simp at c3 ⊢; omega)
    obtain rfl := Option.some.inj H
    go_enter Try.func17, Try.ntmps17
    go_wp2
    repeat (go_quiet (fail); try go_wp2)
    go_ret
    exact ⟨by first | rfl | (simp; done) | (simp [*]; done), by repeat (first | exact Drawn0.refl _ | apply Drawn0.step)⟩

end Go.Proofs.Ytkhmdpplpecgcaa.Px

namespace Go.Proofs.Ytkhmdpplpecgcaa.Px
open Fig Go.RowKit Go.Proofs.YtkhmdpplpecgcaaW.PrintWords Go.Proofs.YtkhmdpplpecgcaaW.PrintLast Go.Proofs.YtkhmdpplpecgcaaW.PrintMore
attribute [local go_sem] max2_int min2_int max_two min_two max_three min_three max_four min_four   -- for this text's walks alone

/-! ### figureheadref01_Strip: function 35 -/
def figureheadref01_Strip.l0 : Nat → ByteArray → Int → Option (ByteArray)
  | 0, _, _ => none
  | k + 1, x0, x3 => if x3 < (x0.size : Int) then (if 0 ≤ x3 then (if (bt x0 x3) = 48 then (figureheadref01_Strip.l0 k x0 (wrap64 (x3 + 1))) else (if x3 ≤ (x0.size : Int) then (some (x0.extract (x3 : Int).toNat x0.size)) else (none))) else (none)) else (if 0 ≤ x3 then (if x3 ≤ (x0.size : Int) then (some (x0.extract (x3 : Int).toNat x0.size)) else (none)) else (none))
def figureheadref01_Strip.f (k : Nat) (a0 : ByteArray) : Option (ByteArray) := figureheadref01_Strip.l0 k a0 0
theorem figureheadref01_Strip.mono_l : ∀ k, (∀ y0 y1, LeO (figureheadref01_Strip.l0 k y0 y1) (figureheadref01_Strip.l0 (k + 1) y0 y1))
  | 0 => fun _ _ r h => by simp [figureheadref01_Strip.l0] at h
  | k + 1 => by
    have ih0 := figureheadref01_Strip.mono_l k
    · intro y0 y1
      unfold figureheadref01_Strip.l0
      repeat' first
      | (with_reducible exact ih0 _ _)
      | (with_reducible exact LeO.refl _)
      | (with_reducible exact LeO.none _)
      | (with_reducible refine LeO.ite ?_ ?_)
      | (with_reducible refine LeO.bind ?_ (fun _ => ?_))
      | exact ih0 _ _
      | exact LeO.none _
      | refine LeO.ite ?_ ?_
      | refine LeO.bind ?_ (fun _ => ?_)
theorem figureheadref01_Strip.mono : ∀ a0 k, LeO (figureheadref01_Strip.f k a0) (figureheadref01_Strip.f (k + 1) a0) := by
  intro a0 k
  have ih0 := figureheadref01_Strip.mono_l k
  unfold figureheadref01_Strip.f
  repeat' first
      | (with_reducible exact ih0 _ _)
      | (with_reducible exact LeO.refl _)
      | (with_reducible exact LeO.none _)
      | (with_reducible refine LeO.ite ?_ ?_)
      | (with_reducible refine LeO.bind ?_ (fun _ => ?_))
      | exact ih0 _ _
      | exact LeO.none _
      | refine LeO.ite ?_ ?_
      | refine LeO.bind ?_ (fun _ => ?_)
set_option maxHeartbeats 8000000 in
set_option maxRecDepth 100000 in
theorem figureheadref01_Strip.calls (k : Nat) (a0 : ByteArray) (r : ByteArray) (w : World) (h : figureheadref01_Strip.f k a0 = some r) :
    Calls Try.prog 35 #[.string a0] w fun e w' => e = .returned (.string r) ∧ Drawn0 w w' := by
  have H : (figureheadref01_Strip.l0 k a0 0) = some r := h
  clear h
  have H' := Aside0.mk H
  clear H
  go_enter Try.func35, Try.ntmps35
  go_wp2
  go_loopg [3] k (fun kq v3 w' => ∃ (x3_1 : Int), v3 = .int .i64 x3_1 ∧ Aside0 (figureheadref01_Strip.l0 kq a0 x3_1 = some r) ∧ Aside0 (kq ≤ k) ∧ Drawn0 w w')
  case atStart => exact ⟨(0), (by first | rfl | (simp; done) | (simp [*]; done)), H', ⟨Nat.le_refl _⟩, by repeat (first | exact Drawn0.refl _ | apply Drawn0.step)⟩
  case round =>
    clear H'
    obtain ⟨x3_1, rfl, HA, HK1, ⟨m1, rfl⟩⟩ := hrel
    cases gk with
    | zero => exact absurd HA.out (by simp [figureheadref01_Strip.l0])
    | succ k1 =>
      have H := HA.out
      clear HA
      simp only [figureheadref01_Strip.l0] at H
      by_cases c2 : x3_1 < (a0.size : Int)
      · rw [if_pos c2] at H
        have c2b0 : decide (x3_1 < (a0.size : Int)) = true := decide_eq_true c2
        clear c2
        by_cases c3 : 0 ≤ x3_1
        · rw [if_pos c3] at H
          have c3b0 : decide (0 ≤ x3_1) = true := decide_eq_true c3
          clear c3
          by_cases c5 : (bt a0 x3_1) = 48
          · rw [if_pos c5] at H
            have c5b0 : ((bt a0 x3_1) == 48) = true := beq_iff_eq.mpr c5
            have c5b1 : ((bt a0 x3_1) != 48) = false := bne_eq_false_iff_eq.mpr c5
            clear c5
            have H' := Aside0.mk H
            clear H
            have p4 : 0 ≤ (x3_1 : Int) := of_decide_eq_true (by first | (with_reducible assumption) | assumption)
            have q4 : x3_1 < (a0.size : Int) := of_decide_eq_true (by first | (with_reducible assumption) | assumption)
            have hx4 := bt_at a0 x3_1
            replace p4 := eq_true p4
            replace q4 := eq_true q4
            go_wp2
            go_roundg k1
            case measure => have := HK1.out; omega
            case rel => exact ⟨(wrap64 (x3_1 + 1)), (by first | rfl | (simp; done) | (simp [*]; done)), H', ⟨by have := HK1.out; omega⟩, by repeat (first | exact Drawn0.refl _ | apply Drawn0.step)⟩
          · rw [if_neg c5] at H
            have c5b0 : ((bt a0 x3_1) == 48) = false := beq_eq_false_iff_ne.mpr c5
            have c5b1 : ((bt a0 x3_1) != 48) = true := bne_iff_ne.mpr c5
            have c6b0 := eq_true (of_decide_eq_true (by first | (with_reducible assumption) | assumption) : 0 ≤ x3_1)
            by_cases c7 : x3_1 ≤ (a0.size : Int)
            · rw [if_pos c7] at H
              have c7b0 := eq_true c7
              have c7b1 : decide (x3_1 ≤ (a0.size : Int)) = true := decide_eq_true c7
              clear c7
              obtain rfl := Option.some.inj H
              have p4 : 0 ≤ (x3_1 : Int) := of_decide_eq_true (by first | (with_reducible assumption) | assumption)
              have q4 : x3_1 < (a0.size : Int) := of_decide_eq_true (by first | (with_reducible assumption) | assumption)
              have hx4 := bt_at a0 x3_1
              replace p4 := eq_true p4
              replace q4 := eq_true q4
              go_wp2
              go_ret
              exact ⟨by first | rfl | (simp; done) | (simp [*]; done), by repeat (first | exact Drawn0.refl _ | apply Drawn0.step)⟩
            · rw [if_neg c7] at H
              exact absurd H (by simp)
        · rw [if_neg c3] at H
          exact absurd H (by simp)
      · rw [if_neg c2] at H
        have c2b0 : decide (x3_1 < (a0.size : Int)) = false := decide_eq_false c2
        clear c2
        by_cases c8 : 0 ≤ x3_1
        · rw [if_pos c8] at H
          have c8b0 := eq_true c8
          have c8b1 : decide (0 ≤ x3_1) = true := decide_eq_true c8
          clear c8
          by_cases c9 : x3_1 ≤ (a0.size : Int)
          · rw [if_pos c9] at H
            have c9b0 := eq_true c9
            have c9b1 : decide (x3_1 ≤ (a0.size : Int)) = true := decide_eq_true c9
            clear c9
            obtain rfl := Option.some.inj H
            go_wp2
            go_ret
            exact ⟨by first | rfl | (simp; done) | (simp [*]; done), by repeat (first | exact Drawn0.refl _ | apply Drawn0.step)⟩
          · rw [if_neg c9] at H
            exact absurd H (by simp)
        · rw [if_neg c8] at H
          exact absurd H (by simp)

end Go.Proofs.Ytkhmdpplpecgcaa.Px

namespace Go.Proofs.Ytkhmdpplpecgcaa.Px
open Fig Go.RowKit Go.Proofs.YtkhmdpplpecgcaaW.PrintWords Go.Proofs.YtkhmdpplpecgcaaW.PrintLast Go.Proofs.YtkhmdpplpecgcaaW.PrintMore
attribute [local go_sem] max2_int min2_int max_two min_two max_three min_three max_four min_four   -- for this text's walks alone

/-! ### figureheadref01_Number: function 19 -/
mutual
def figureheadref01_Number.l0 : Nat → ByteArray → List Int → Option (List Int)
  | 0, _, _ => none
  | k + 1, x0, x3 => if (x0.size : Int) > 0 then (figureheadref01_Number.l1 k x0 x3 (mx 0 (wrap64 ((x0.size : Int) - 9))) 0 (mx 0 (wrap64 ((x0.size : Int) - 9)))) else (some x3)
def figureheadref01_Number.l1 : Nat → ByteArray → List Int → Int → Int → Int → Option (List Int)
  | 0, _, _, _, _, _ => none
  | k + 1, x0, x3, x4, x5, x6 => if x6 < (x0.size : Int) then (if 0 ≤ x6 then (figureheadref01_Number.l1 k x0 x3 x4 ((((x5 * 10) % 4294967296) + (((bt x0 x6) - 48) % 256)) % 4294967296) (wrap64 (x6 + 1))) else (none)) else (if x3.length < 35184372088832 then (if 0 ≤ x4 then (if x4 ≤ (x0.size : Int) then (figureheadref01_Number.l0 k (x0.extract 0 (x4 : Int).toNat) (x3 ++ [x5])) else (none)) else (none)) else (none))
end
def figureheadref01_Number.f (k : Nat) (a0 : ByteArray) : Option (List Int) := (figureheadref01_Strip.f k a0).bind fun t147 => (figureheadref01_Number.l0 k t147 ([] : List Int))
theorem figureheadref01_Number.mono_l : ∀ k, (∀ y0 y1, LeO (figureheadref01_Number.l0 k y0 y1) (figureheadref01_Number.l0 (k + 1) y0 y1)) ∧ (∀ y0 y1 y2 y3 y4, LeO (figureheadref01_Number.l1 k y0 y1 y2 y3 y4) (figureheadref01_Number.l1 (k + 1) y0 y1 y2 y3 y4))
  | 0 => ⟨fun _ _ r h => by simp [figureheadref01_Number.l0] at h, fun _ _ _ _ _ r h => by simp [figureheadref01_Number.l1] at h⟩
  | k + 1 => by
    obtain ⟨ih0, ih1⟩ := figureheadref01_Number.mono_l k
    refine ⟨?_, ?_⟩
    · intro y0 y1
      unfold figureheadref01_Number.l0
      repeat' first
      | (with_reducible exact ih0 _ _)
      | (with_reducible exact ih1 _ _ _ _ _)
      | (with_reducible exact figureheadref01_Strip.mono _ _)
      | (with_reducible exact LeO.refl _)
      | (with_reducible exact LeO.none _)
      | (with_reducible refine LeO.ite ?_ ?_)
      | (with_reducible refine LeO.bind ?_ (fun _ => ?_))
      | exact ih0 _ _
      | exact ih1 _ _ _ _ _
      | exact figureheadref01_Strip.mono _ _
      | exact LeO.none _
      | refine LeO.ite ?_ ?_
      | refine LeO.bind ?_ (fun _ => ?_)
    · intro y0 y1 y2 y3 y4
      unfold figureheadref01_Number.l1
      repeat' first
      | (with_reducible exact ih0 _ _)
      | (with_reducible exact ih1 _ _ _ _ _)
      | (with_reducible exact figureheadref01_Strip.mono _ _)
      | (with_reducible exact LeO.refl _)
      | (with_reducible exact LeO.none _)
      | (with_reducible refine LeO.ite ?_ ?_)
      | (with_reducible refine LeO.bind ?_ (fun _ => ?_))
      | exact ih0 _ _
      | exact ih1 _ _ _ _ _
      | exact figureheadref01_Strip.mono _ _
      | exact LeO.none _
      | refine LeO.ite ?_ ?_
      | refine LeO.bind ?_ (fun _ => ?_)
theorem figureheadref01_Number.mono : ∀ a0 k, LeO (figureheadref01_Number.f k a0) (figureheadref01_Number.f (k + 1) a0) := by
  intro a0 k
  obtain ⟨ih0, ih1⟩ := figureheadref01_Number.mono_l k
  unfold figureheadref01_Number.f
  repeat' first
      | (with_reducible exact ih0 _ _)
      | (with_reducible exact ih1 _ _ _ _ _)
      | (with_reducible exact figureheadref01_Strip.mono _ _)
      | (with_reducible exact LeO.refl _)
      | (with_reducible exact LeO.none _)
      | (with_reducible refine LeO.ite ?_ ?_)
      | (with_reducible refine LeO.bind ?_ (fun _ => ?_))
      | exact ih0 _ _
      | exact ih1 _ _ _ _ _
      | exact figureheadref01_Strip.mono _ _
      | exact LeO.none _
      | refine LeO.ite ?_ ?_
      | refine LeO.bind ?_ (fun _ => ?_)
set_option maxHeartbeats 8000000 in
set_option maxRecDepth 100000 in
theorem figureheadref01_Number.calls (k : Nat) (a0 : ByteArray) (r : List Int) (w : World) (h : figureheadref01_Number.f k a0 = some r) :
    Calls Try.prog 19 #[.string a0] w fun e w' => ∃ v0_ : Value, e = .returned (v0_) ∧ Kd.R (Kd.int .u32) 30 w' w.heap.size (fun _ => True) v0_ r ∧ Below w.heap.size w w' := by
  have HB := Aside0.mk (Below.refl w.heap.size w)
  have H : ((figureheadref01_Strip.f k a0).bind fun t147 => (figureheadref01_Number.l0 k t147 ([] : List Int))) = some r := h
  clear h
  replace H := Option.bind_eq_some_iff.mp H
  obtain ⟨t147, A20, H⟩ := H
  replace H : (figureheadref01_Number.l0 k t147 ([] : List Int)) = some r := H
  have A2 := Aside0.mk A20
  clear A20
  have H' := Aside0.mk H
  clear H
  go_enter Try.func19, Try.ntmps19
  go_wp2_with (first | ((with_reducible refine gate_callee (f := 35) rfl ?_); refine goesL_ (some 8) rfl rfl Try.func35 (by kernel_rfl) rfl #[.string a0] rfl (by (try simp only [List.map_toArray, List.map_cons, List.map_nil]); first | done | rfl | (simp only [List.length_drop, List.length_take]; rfl)) ?_; (with_reducible refine (figureheadref01_Strip.calls k a0 t147 _ A2.out).mono ?_); rintro e w' ⟨rfl, ⟨nd, rfl⟩⟩; refine ⟨_, rfl, ?_⟩))
  go_loopg [0, 3] k (fun kq v0 v3 w' => ∃ (x0_1 : ByteArray) (x3_1 : List Int), v0 = .string x0_1 ∧ Aside0 (figureheadref01_Number.l0 kq x0_1 x3_1 = some r) ∧ Aside0 (kq ≤ k) ∧ Aside0 (Kd.R (Kd.int .u32) 30 w' w.heap.size (fun _ => True) v3 x3_1) ∧ Aside0 (Below w.heap.size w w'))
  case atStart => exact ⟨(t147), (([] : List Int)), (by first | rfl | (simp; done) | (simp [*]; done)), H', ⟨Nat.le_refl _⟩, ⟨by first | exact Kd.R_nil _ _ _ _ _ | exact Kd.N_nil _ _ _ _ _ | exact Kd.V_nil _ _ _ _ _ | exact Kd.Q_nil _ _ _ _ _ | exact Kd.S_nil _ _ _ _ _⟩, ⟨by repeat (first | (with_reducible first | exact HB.out | apply below_alloc | apply pw_below_drewN | apply below_drew1) | exact HB.out)⟩⟩
  case round =>
    clear H'
    try clear c1
    try clear p2
    obtain ⟨x0_1, x3_1, rfl, HA, HK1, HO_3, HB⟩ := hrel
    cases gk with
    | zero => exact absurd HA.out (by simp [figureheadref01_Number.l0])
    | succ k1 =>
      have H := HA.out
      clear HA
      simp only [figureheadref01_Number.l0] at H
      by_cases c3 : (x0_1.size : Int) > 0
      · rw [if_pos c3] at H
        have c3b0 : decide (0 < (x0_1.size : Int)) = true := decide_eq_true c3
        have c3b1 : decide (0 < x0_1.size) = true := decide_eq_true (by omega)
        clear c3
        obtain ⟨ji4, hji4⟩ : ∃ j_ : Int, (mx 0 (wrap64 ((x0_1.size : Int) - 9))) = j_ := ⟨_, rfl⟩
        replace H : (figureheadref01_Number.l1 k1 x0_1 x3_1 ji4 0 ji4) = some r := by first | (rw [hji4] at H; exact H) | (simp only [hji4] at H ⊢; exact H)
        have hji4_ : (if 0 < (wrap64 ((x0_1.size : Int) - 9)) then (wrap64 ((x0_1.size : Int) - 9)) else 0) = ji4 := hji4
        have H' := Aside0.mk H
        clear H
        go_wp2
        go_loopg [5, 6] k1 (fun kq v5 v6 w' => ∃ (x5_2 : Int) (x6_2 : Int), v5 = .int .u32 x5_2 ∧ v6 = .int .i64 x6_2 ∧ Aside0 (figureheadref01_Number.l1 kq x0_1 x3_1 ji4 x5_2 x6_2 = some r) ∧ Aside0 (kq ≤ k1) ∧ Aside0 (Kd.R (Kd.int .u32) 30 w' w.heap.size (fun _ => True) u3 x3_1) ∧ Aside0 (Below w.heap.size w w'))
        case atStart => exact ⟨(0), (ji4), (by first | rfl | (simp; done) | (simp [*]; done)), (by first | rfl | (simp; done) | (simp only [← hji4] <;> (first | rfl | simp)) | (simp [*]; done)), H', ⟨Nat.le_refl _⟩, ⟨by (with_reducible repeat (first | apply Kd.R_alloc | apply Kd.R_drewN | apply Kd.R_drew)); exact HO_3.out⟩, ⟨by repeat (first | (with_reducible first | exact HB.out | apply below_alloc | apply pw_below_drewN | apply below_drew1) | exact HB.out)⟩⟩
        case round =>
          clear H'
          try clear c1
          try clear p2
          try clear c3
          try clear c3b0
          try clear c3b1
          try clear p2
          obtain ⟨x5_2, x6_2, rfl, rfl, HA, HK2, HO_3, HB⟩ := hrel
          cases gk with
          | zero => exact absurd HA.out (by simp [figureheadref01_Number.l1])
          | succ k2 =>
            have H := HA.out
            clear HA
            simp only [figureheadref01_Number.l1] at H
            by_cases c5 : x6_2 < (x0_1.size : Int)
            · rw [if_pos c5] at H
              have c5b0 : decide (x6_2 < (x0_1.size : Int)) = true := decide_eq_true c5
              clear c5
              by_cases c6 : 0 ≤ x6_2
              · rw [if_pos c6] at H
                have c6b0 : decide (0 ≤ x6_2) = true := decide_eq_true c6
                clear c6
                have H' := Aside0.mk H
                clear H
                have p7 : 0 ≤ (x6_2 : Int) := of_decide_eq_true (by first | (with_reducible assumption) | assumption)
                have q7 : x6_2 < (x0_1.size : Int) := of_decide_eq_true (by first | (with_reducible assumption) | assumption)
                have hx7 := bt_at x0_1 x6_2
                replace p7 := eq_true p7
                replace q7 := eq_true q7
                go_wp2
                go_roundg k2
                case measure => have := HK1.out; have := HK2.out; omega
                case rel => exact ⟨((((x5_2 * 10) % 4294967296) + (((bt x0_1 x6_2) - 48) % 256)) % 4294967296), (wrap64 (x6_2 + 1)), (by first | rfl | (simp; done) | (simp [*]; done)), (by first | rfl | (simp; done) | (simp [*]; done)), H', ⟨by have := HK1.out; have := HK2.out; omega⟩, ⟨by (with_reducible repeat (first | apply Kd.R_alloc | apply Kd.R_drewN | apply Kd.R_drew)); exact HO_3.out⟩, ⟨by repeat (first | (with_reducible first | exact HB.out | apply below_alloc | apply pw_below_drewN | apply below_drew1) | exact HB.out)⟩⟩
              · rw [if_neg c6] at H
                exact absurd H (by simp)
            · rw [if_neg c5] at H
              have c5b0 : decide (x6_2 < (x0_1.size : Int)) = false := decide_eq_false c5
              clear c5
              by_cases c8 : x3_1.length < 35184372088832
              · rw [if_pos c8] at H
                have LMc8 := Aside0.mk c8
                clear c8
                obtain ⟨y148, hy148⟩ : ∃ y_ : List Int, y_ = (x3_1 ++ [x5_2]) := ⟨_, rfl⟩
                replace H : (if 0 ≤ ji4 then (if ji4 ≤ (x0_1.size : Int) then (figureheadref01_Number.l0 k2 (x0_1.extract 0 (ji4 : Int).toNat) y148) else (none)) else (none)) = some r := by first | (rw [hy148]; with_reducible exact H) | (have H2_ := (Option.bind_some _ _).symm.trans H; rw [hy148]; with_reducible exact H2_) | (have H2_ := (Option.bind_some _ _).symm.trans H; with_reducible exact H2_) | with_reducible exact H | (rw [hy148]; exact H) | exact H
                have Ny148 := Aside0.mk hy148
                clear hy148
                by_cases c9 : 0 ≤ ji4
                · rw [if_pos c9] at H
                  have c9b0 := eq_true c9
                  have c9b1 : decide (0 ≤ ji4) = true := decide_eq_true c9
                  clear c9
                  by_cases c10 : ji4 ≤ (x0_1.size : Int)
                  · rw [if_pos c10] at H
                    have c10b0 := eq_true c10
                    have c10b1 : decide (ji4 ≤ (x0_1.size : Int)) = true := decide_eq_true c10
                    clear c10
                    have H' := Aside0.mk H
                    clear H
                    go_wp2_with (first | ((with_reducible refine gate_builtin (b := .append) (xs := #[.tmp 31, .tmp 33]) rfl ?_); at_builtin; refine Kd.R_append (Kd.int .u32) (w0 := w) w.heap.size rfl (.tmp 31) (.tmp 33) 22 30 (.int .u32 0) 4 rfl Try.underlying22 info30 rfl (by decide) (by omega) u3 x3_1 x5_2 [.int .u32 x5_2] (fun _ => True) (fun _ => False) rfl rfl ?aP (fun _ hk => hk.elim) ?aF ?aO ?aB ?aS ?aL ?_; (case aP => exact rfl); (case aB => exact (by repeat (first | (with_reducible first | exact HB.out | apply below_alloc | apply pw_below_drewN | apply below_drew1) | exact HB.out))); (case aF => exact (fun _ _ => trivial)); (case aO => exact (by (with_reducible repeat (first | apply Kd.R_alloc | apply Kd.R_drewN | apply Kd.R_drew)); exact HO_3.out)); (case aS => exact (below_size (by repeat (first | (with_reducible first | exact HB.out | apply below_alloc | apply pw_below_drewN | apply below_drew1) | exact HB.out)))); (case aL => have := LMc8.out; omega); intro v149 w11 ho hb hg hat; rw [← Ny148.out] at ho; have n0_ := Aside0.mk (hb); have n1_ := Aside0.mk (ho); clear HB; clear HO_3; have HB := n0_; have HO150 := n1_; clear n0_ n1_; clear ho hb hg hat))
                    go_roundg k2
                    case measure => have := HK1.out; have := HK2.out; omega
                    case rel => exact ⟨(x0_1.extract 0 (ji4 : Int).toNat), (y148), (by first | rfl | (simp; done) | (simp only [← hji4] <;> (first | rfl | simp)) | (simp [*]; done)), H', ⟨by have := HK1.out; have := HK2.out; omega⟩, ⟨by (with_reducible repeat (first | apply Kd.R_alloc | apply Kd.R_drewN | apply Kd.R_drew)); exact HO150.out⟩, ⟨by repeat (first | (with_reducible first | exact HB.out | apply below_alloc | apply pw_below_drewN | apply below_drew1) | exact HB.out)⟩⟩
                  · rw [if_neg c10] at H
                    exact absurd H (by simp)
                · rw [if_neg c9] at H
                  exact absurd H (by simp)
              · rw [if_neg c8] at H
                exact absurd H (by simp)
      · rw [if_neg c3] at H
        have c3b0 : decide (0 < (x0_1.size : Int)) = false := decide_eq_false c3
        have c3b1 : decide (0 < x0_1.size) = false := decide_eq_false (by omega)
        clear c3
        obtain rfl := Option.some.inj H
        go_wp2
        go_ret
        exact ⟨_, by first | rfl | (simp [errW_none, errW_some] <;> rfl) | (simp [*, errW_none, errW_some] <;> rfl), by (with_reducible repeat (first | apply Kd.R_alloc | apply Kd.R_drewN | apply Kd.R_drew)); exact HO_3.out, by repeat (first | (with_reducible first | exact HB.out | apply below_alloc | apply pw_below_drewN | apply below_drew1) | exact HB.out)⟩

end Go.Proofs.Ytkhmdpplpecgcaa.Px

namespace Go.Proofs.Ytkhmdpplpecgcaa.Px
open Fig Go.RowKit Go.Proofs.YtkhmdpplpecgcaaW.PrintWords Go.Proofs.YtkhmdpplpecgcaaW.PrintLast Go.Proofs.YtkhmdpplpecgcaaW.PrintMore
attribute [local go_sem] max2_int min2_int max_two min_two max_three min_three max_four min_four   -- for this text's walks alone

/-! ### figureheadref01_Text: function 21 -/
mutual
def figureheadref01_Text.l0 : Nat → List Int → ByteArray → Int → Option (ByteArray)
  | 0, _, _, _ => none
  | k + 1, x0, x3, x4 => if x4 < (x0.length : Int) then (if 0 ≤ x4 then (figureheadref01_Text.l1 k x0 x3 x4 (rd x0 x4) 0) else (none)) else ((figureheadref01_Strip.f k x3).bind fun t168 => (some t168))
def figureheadref01_Text.l1 : Nat → List Int → ByteArray → Int → Int → Int → Option (ByteArray)
  | 0, _, _, _, _, _ => none
  | k + 1, x0, x3, x4, x5, x6 => if x6 < 9 then ((some (([((48 + (Int.tmod x5 10)) % 4294967296) % 256] : List Int) : List Int)).bind fun y170 => (if (strOfNums y170).size + x3.size ≤ 9223372036854775807 then (figureheadref01_Text.l1 k x0 ((strOfNums y170) ++ x3) x4 ((Int.tdiv x5 10) % 4294967296) (wrap64 (x6 + 1))) else (none))) else (figureheadref01_Text.l0 k x0 x3 (wrap64 (x4 + 1)))
end
def figureheadref01_Text.f (k : Nat) (l0 : List Int) : Option (ByteArray) := figureheadref01_Text.l0 k l0 (⟨#[]⟩ : ByteArray) 0
theorem figureheadref01_Text.mono_l : ∀ k, (∀ y0 y1 y2, LeO (figureheadref01_Text.l0 k y0 y1 y2) (figureheadref01_Text.l0 (k + 1) y0 y1 y2)) ∧ (∀ y0 y1 y2 y3 y4, LeO (figureheadref01_Text.l1 k y0 y1 y2 y3 y4) (figureheadref01_Text.l1 (k + 1) y0 y1 y2 y3 y4))
  | 0 => ⟨fun _ _ _ r h => by simp [figureheadref01_Text.l0] at h, fun _ _ _ _ _ r h => by simp [figureheadref01_Text.l1] at h⟩
  | k + 1 => by
    obtain ⟨ih0, ih1⟩ := figureheadref01_Text.mono_l k
    refine ⟨?_, ?_⟩
    · intro y0 y1 y2
      unfold figureheadref01_Text.l0
      repeat' first
      | (with_reducible exact ih0 _ _ _)
      | (with_reducible exact ih1 _ _ _ _ _)
      | (with_reducible exact figureheadref01_Strip.mono _ _)
      | (with_reducible exact LeO.refl _)
      | (with_reducible exact LeO.none _)
      | (with_reducible refine LeO.ite ?_ ?_)
      | (with_reducible refine LeO.bind ?_ (fun _ => ?_))
      | exact ih0 _ _ _
      | exact ih1 _ _ _ _ _
      | exact figureheadref01_Strip.mono _ _
      | exact LeO.none _
      | refine LeO.ite ?_ ?_
      | refine LeO.bind ?_ (fun _ => ?_)
    · intro y0 y1 y2 y3 y4
      unfold figureheadref01_Text.l1
      repeat' first
      | (with_reducible exact ih0 _ _ _)
      | (with_reducible exact ih1 _ _ _ _ _)
      | (with_reducible exact figureheadref01_Strip.mono _ _)
      | (with_reducible exact LeO.refl _)
      | (with_reducible exact LeO.none _)
      | (with_reducible refine LeO.ite ?_ ?_)
      | (with_reducible refine LeO.bind ?_ (fun _ => ?_))
      | exact ih0 _ _ _
      | exact ih1 _ _ _ _ _
      | exact figureheadref01_Strip.mono _ _
      | exact LeO.none _
      | refine LeO.ite ?_ ?_
      | refine LeO.bind ?_ (fun _ => ?_)
theorem figureheadref01_Text.mono : ∀ a0 k, LeO (figureheadref01_Text.f k a0) (figureheadref01_Text.f (k + 1) a0) := by
  intro a0 k
  obtain ⟨ih0, ih1⟩ := figureheadref01_Text.mono_l k
  unfold figureheadref01_Text.f
  repeat' first
      | (with_reducible exact ih0 _ _ _)
      | (with_reducible exact ih1 _ _ _ _ _)
      | (with_reducible exact figureheadref01_Strip.mono _ _)
      | (with_reducible exact LeO.refl _)
      | (with_reducible exact LeO.none _)
      | (with_reducible refine LeO.ite ?_ ?_)
      | (with_reducible refine LeO.bind ?_ (fun _ => ?_))
      | exact ih0 _ _ _
      | exact ih1 _ _ _ _ _
      | exact figureheadref01_Strip.mono _ _
      | exact LeO.none _
      | refine LeO.ite ?_ ?_
      | refine LeO.bind ?_ (fun _ => ?_)
set_option maxHeartbeats 8000000 in
set_option maxRecDepth 100000 in
theorem figureheadref01_Text.calls (k : Nat) (A0 : Option Addr) (c0 : Nat) (l0 : List Int) (r : ByteArray) (w : World) (hr0 : Kd.C (Kd.int .u32) w A0 l0.length l0) (hc0 : l0.length ≤ c0) (h : figureheadref01_Text.f k l0 = some r) :
    Calls Try.prog 21 #[.slice A0 l0.length c0] w fun e w' => e = .returned (.string r) ∧ Below w.heap.size w w' := by
  have HR0 := Aside0.mk hr0
  have HC0 := Aside0.mk hc0
  clear hr0 hc0
  have HB := Aside0.mk (Below.refl w.heap.size w)
  have H : (figureheadref01_Text.l0 k l0 (⟨#[]⟩ : ByteArray) 0) = some r := h
  clear h
  have H' := Aside0.mk H
  clear H
  go_enter Try.func21, Try.ntmps21
  go_wp2
  go_loopg [3, 4] k (fun kq v3 v4 w' => ∃ (x3_1 : ByteArray) (x4_1 : Int), v3 = .string x3_1 ∧ v4 = .int .i64 x4_1 ∧ Aside0 (figureheadref01_Text.l0 kq l0 x3_1 x4_1 = some r) ∧ Aside0 (kq ≤ k) ∧ Aside0 (Below w.heap.size w w'))
  case atStart => exact ⟨((⟨#[]⟩ : ByteArray)), (0), (by first | rfl | (simp; done) | (simp [*]; done)), (by first | rfl | (simp; done) | (simp [*]; done)), H', ⟨Nat.le_refl _⟩, ⟨by repeat (first | (with_reducible first | exact HB.out | apply below_alloc | apply pw_below_drewN | apply below_drew1) | exact HB.out)⟩⟩
  case round =>
    clear H'
    obtain ⟨x3_1, x4_1, rfl, rfl, HA, HK1, HB⟩ := hrel
    cases gk with
    | zero => exact absurd HA.out (by simp [figureheadref01_Text.l0])
    | succ k1 =>
      have H := HA.out
      clear HA
      simp only [figureheadref01_Text.l0] at H
      by_cases c2 : x4_1 < (l0.length : Int)
      · rw [if_pos c2] at H
        have c2b0 : decide (x4_1 < (l0.length : Int)) = true := decide_eq_true c2
        clear c2
        by_cases c3 : 0 ≤ x4_1
        · rw [if_pos c3] at H
          have c3b0 : decide (0 ≤ x4_1) = true := decide_eq_true c3
          clear c3
          have H' := Aside0.mk H
          clear H
          have p169 : 0 ≤ (x4_1 : Int) := of_decide_eq_true (by first | (with_reducible assumption) | assumption)
          have q169 : x4_1 < (l0.length : Int) := of_decide_eq_true (by first | (with_reducible assumption) | assumption)
          obtain ⟨ad169, e169, hx169_0⟩ := Kd.at_int HR0.out x4_1 p169 q169
          cases e169
          replace hx169_0 := (HB.out.cell (World.block_lt_of_cell? w _ hx169_0)).trans hx169_0
          replace p169 := eq_true p169
          replace q169 := eq_true q169
          go_wp2
          go_loopg [3, 5, 6] k1 (fun kq v3 v5 v6 w' => ∃ (x3_2 : ByteArray) (x5_2 : Int) (x6_2 : Int), v3 = .string x3_2 ∧ v5 = .int .u32 x5_2 ∧ v6 = .int .i64 x6_2 ∧ Aside0 (figureheadref01_Text.l1 kq l0 x3_2 x4_1 x5_2 x6_2 = some r) ∧ Aside0 (kq ≤ k1) ∧ Aside0 (Below w.heap.size w w'))
          case atStart => exact ⟨(x3_1), (rd l0 x4_1), (0), (by first | rfl | (simp; done) | (simp [*]; done)), (by first | rfl | (simp; done) | (simp [*]; done)), (by first | rfl | (simp; done) | (simp [*]; done)), H', ⟨Nat.le_refl _⟩, ⟨by repeat (first | (with_reducible first | exact HB.out | apply below_alloc | apply pw_below_drewN | apply below_drew1) | exact HB.out)⟩⟩
          case round =>
            clear H'
            try clear p1
            try clear q1
            try clear hx1
            try clear c2
            try clear c2b0
            try clear p2
            try clear c3
            try clear c3b0
            try clear hx169_0
            try clear p169
            try clear q169
            obtain ⟨x3_2, x5_2, x6_2, rfl, rfl, rfl, HA, HK2, HB⟩ := hrel
            cases gk with
            | zero => exact absurd HA.out (by simp [figureheadref01_Text.l1])
            | succ k2 =>
              have H := HA.out
              clear HA
              simp only [figureheadref01_Text.l1] at H
              by_cases c4 : x6_2 < 9
              · rw [if_pos c4] at H
                have c4b0 : decide (x6_2 < 9) = true := decide_eq_true c4
                clear c4
                obtain ⟨y170, hy170⟩ : ∃ y_ : List Int, y_ = (([((48 + (Int.tmod x5_2 10)) % 4294967296) % 256] : List Int)) := ⟨_, rfl⟩
                replace H : (if (strOfNums y170).size + x3_2.size ≤ 9223372036854775807 then (figureheadref01_Text.l1 k2 l0 ((strOfNums y170) ++ x3_2) x4_1 ((Int.tdiv x5_2 10) % 4294967296) (wrap64 (x6_2 + 1))) else (none)) = some r := by first | (rw [hy170]; with_reducible exact H) | (have H2_ := (Option.bind_some _ _).symm.trans H; rw [hy170]; with_reducible exact H2_) | (have H2_ := (Option.bind_some _ _).symm.trans H; with_reducible exact H2_) | with_reducible exact H | (rw [hy170]; exact H) | exact H
                have Ny170 := Aside0.mk hy170
                clear hy170
                by_cases c5 : (strOfNums y170).size + x3_2.size ≤ 9223372036854775807
                · rw [if_pos c5] at H
                  have c5b0 := eq_true c5
                  have c5b1 : decide ((strOfNums y170).size + x3_2.size ≤ 9223372036854775807) = true := decide_eq_true c5
                  try have c5b2 : (9223372036854775807 < (strOfNums y170).size + x3_2.size) = False := eq_false (Nat.not_lt.2 c5)
                  have H' := Aside0.mk H
                  clear H
                  go_wp2_with (first | ((with_reducible refine gate_dst (N := 25) rfl ?_); refine Kd.R_lit (Kd.int .u8) _ 5 ?hg (N := 25) ?hd (xs := ([((48 + (Int.tmod x5_2 10)) % 4294967296) % 256] : List Int)) (inner := [.int .u8 (((48 + (Int.tmod x5_2 10)) % 4294967296) % 256)]) (ok := fun _ => True) (okp := fun _ => True) ?hr ?hp (fun _ hk => hk) trivial (Below.refl _ _) (Nat.le_refl _) (by simp) ?_; (case hd => rfl); (case hg => rfl); (case hr => first | (go_simp; done) | (go_simp; rfl)); (case hp => exact (Reps.one (show Kd.M (Kd.int .u8) _ _ _ (((48 + (Int.tmod x5_2 10)) % 4294967296) % 256) [.int .u8 (((48 + (Int.tmod x5_2 10)) % 4294967296) % 256)] from rfl) (Reps.none _ _))); intro v171 w6 ho7 hb hg_ hnew_; clear hg_ hnew_; (first | rw [← Ny170.out] at ho7 | (simp only [Int.reduceToNat] at ho7; rw [← Ny170.out] at ho7)); have n0_ := Aside0.mk (Kd.R_lower ho7 (below_size (by repeat (first | (with_reducible first | exact HB.out | apply below_alloc | apply pw_below_drewN | apply below_drew1) | exact HB.out)))); have n1_ := Aside0.mk (below_step (by repeat (first | (with_reducible first | exact HB.out | apply below_alloc | apply pw_below_drewN | apply below_drew1) | exact HB.out)) hb); clear HB; have HO172 := n0_; have HB := n1_; clear n0_ n1_; clear hb ho7; have hcv8 := own_string (P := Try.prog) Try.underlying46 Try.underlying5 Try.underlying9 (Kd.own_of_R HO172.out)))
                  go_roundg k2
                  case measure => have := HK1.out; have := HK2.out; omega
                  case rel => exact ⟨((strOfNums y170) ++ x3_2), ((Int.tdiv x5_2 10) % 4294967296), (wrap64 (x6_2 + 1)), (by first | rfl | (simp; done) | (simp [*]; done)), (by first | rfl | (simp; done) | (simp [*]; done)), (by first | rfl | (simp; done) | (simp [*]; done)), H', ⟨by have := HK1.out; have := HK2.out; omega⟩, ⟨by repeat (first | (with_reducible first | exact HB.out | apply below_alloc | apply pw_below_drewN | apply below_drew1) | exact HB.out)⟩⟩
                · rw [if_neg c5] at H
                  exact absurd H (by simp)
              · rw [if_neg c4] at H
                have c4b0 : decide (x6_2 < 9) = false := decide_eq_false c4
                clear c4
                have H' := Aside0.mk H
                clear H
                go_wp2
                go_roundg k2
                case measure => have := HK1.out; have := HK2.out; omega
                case rel => exact ⟨(x3_2), (wrap64 (x4_1 + 1)), (by first | rfl | (simp; done) | (simp [*]; done)), (by first | rfl | (simp; done) | (simp [*]; done)), H', ⟨by have := HK1.out; have := HK2.out; omega⟩, ⟨by repeat (first | (with_reducible first | exact HB.out | apply below_alloc | apply pw_below_drewN | apply below_drew1) | exact HB.out)⟩⟩
        · rw [if_neg c3] at H
          exact absurd H (by simp)
      · rw [if_neg c2] at H
        have c2b0 : decide (x4_1 < (l0.length : Int)) = false := decide_eq_false c2
        clear c2
        replace H := Option.bind_eq_some_iff.mp H
        obtain ⟨t168, A90, H⟩ := H
        replace H : (some t168) = some r := H
        have A9 := Aside0.mk A90
        clear A90
        obtain rfl := Option.some.inj H
        go_wp2_with (first | ((with_reducible refine gate_callee (f := 35) rfl ?_); refine goesL_ (some 32) rfl rfl Try.func35 (by kernel_rfl) rfl #[.string x3_1] rfl (by (try simp only [List.map_toArray, List.map_cons, List.map_nil]); first | done | rfl | (simp only [List.length_drop, List.length_take]; rfl)) ?_; (with_reducible refine (figureheadref01_Strip.calls k1 x3_1 t168 _ A9.out).mono ?_); rintro e w' ⟨rfl, ⟨nd, rfl⟩⟩; refine ⟨_, rfl, ?_⟩))
        go_ret
        exact ⟨by first | rfl | (simp [errW_none, errW_some] <;> rfl) | (simp [*, errW_none, errW_some] <;> rfl), by repeat (first | (with_reducible first | exact HB.out | apply below_alloc | apply pw_below_drewN | apply below_drew1) | exact HB.out)⟩

end Go.Proofs.Ytkhmdpplpecgcaa.Px

namespace Go.Proofs.Ytkhmdpplpecgcaa.Px
open Fig Go.RowKit Go.Proofs.YtkhmdpplpecgcaaW.PrintWords Go.Proofs.YtkhmdpplpecgcaaW.PrintLast Go.Proofs.YtkhmdpplpecgcaaW.PrintMore
attribute [local go_sem] max2_int min2_int max_two min_two max_three min_three max_four min_four   -- for this text's walks alone

/-! ### figureheadref01_digit: function 36 -/
def figureheadref01_digit.f (a0 : ByteArray) (a1 : Int) : Option (Int) := if a1 ≥ (a0.size : Int) then (some 0) else (if 0 ≤ (wrap64 ((wrap64 ((a0.size : Int) - 1)) - a1)) then (if (wrap64 ((wrap64 ((a0.size : Int) - 1)) - a1)) < (a0.size : Int) then (some (((bt a0 (wrap64 ((wrap64 ((a0.size : Int) - 1)) - a1))) - 48) % 256)) else (none)) else (none))
set_option maxHeartbeats 8000000 in
set_option maxRecDepth 100000 in
theorem figureheadref01_digit.calls (a0 : ByteArray) (a1 : Int) (r : Int) (w : World) (h : figureheadref01_digit.f a0 a1 = some r) :
    Calls Try.prog 36 #[.string a0, .int .i64 a1] w fun e w' => e = .returned (.int .i64 r) ∧ Drawn0 w w' := by
  have H : (if a1 ≥ (a0.size : Int) then (some 0) else (if 0 ≤ (wrap64 ((wrap64 ((a0.size : Int) - 1)) - a1)) then (if (wrap64 ((wrap64 ((a0.size : Int) - 1)) - a1)) < (a0.size : Int) then (some (((bt a0 (wrap64 ((wrap64 ((a0.size : Int) - 1)) - a1))) - 48) % 256)) else (none)) else (none))) = some r := h
  clear h
  by_cases c3 : a1 ≥ (a0.size : Int)
  · rw [if_pos c3] at H
    have c3b0 : decide ((a0.size : Int) ≤ a1) = true := decide_eq_true c3
    clear c3
    obtain rfl := Option.some.inj H
    go_enter Try.func36, Try.ntmps36
    go_wp2
    go_ret
    exact ⟨by first | rfl | (simp; done) | (simp [*]; done), by repeat (first | exact Drawn0.refl _ | apply Drawn0.step)⟩
  · rw [if_neg c3] at H
    have c3b0 : decide ((a0.size : Int) ≤ a1) = false := decide_eq_false c3
    clear c3
    obtain ⟨ji4, hji4⟩ : ∃ j_ : Int, (wrap64 ((wrap64 ((a0.size : Int) - 1)) - a1)) = j_ := ⟨_, rfl⟩
    replace H : (if 0 ≤ (ji4) then (if (ji4) < (a0.size : Int) then (some (((bt a0 (ji4)) - 48) % 256)) else (none)) else (none)) = some r := by first | (rw [hji4] at H; exact H) | (simp only [hji4] at H ⊢; exact H)
    have hji4w : (IntKind.i64.wrap ((wrap64 ((a0.size : Int) - 1)) - a1)) = ji4 := (i64_w _).trans hji4
    by_cases c5 : 0 ≤ (ji4)
    · rw [if_pos c5] at H
      have c5b0 : decide (0 ≤ (ji4)) = true := decide_eq_true c5
      clear c5
      by_cases c6 : (ji4) < (a0.size : Int)
      · rw [if_pos c6] at H
        have c6b0 : decide ((ji4) < (a0.size : Int)) = true := decide_eq_true c6
        clear c6
        obtain rfl := Option.some.inj H
        have p7 : 0 ≤ ((ji4) : Int) := of_decide_eq_true (by first | (with_reducible assumption) | assumption)
        have q7 : (ji4) < (a0.size : Int) := of_decide_eq_true (by first | (with_reducible assumption) | assumption)
        have hx7 := bt_at a0 (ji4)
        replace p7 := eq_true p7
        replace q7 := eq_true q7
        go_enter Try.func36, Try.ntmps36
        go_wp2
        go_ret
        exact ⟨by first | rfl | (simp; done) | (simp only [← hji4] <;> (first | rfl | simp)) | (simp [*]; done), by repeat (first | exact Drawn0.refl _ | apply Drawn0.step)⟩
      · rw [if_neg c6] at H
        exact absurd H (by simp)
    · rw [if_neg c5] at H
      exact absurd H (by simp)

end Go.Proofs.Ytkhmdpplpecgcaa.Px

namespace Go.Proofs.Ytkhmdpplpecgcaa.Px
open Fig Go.RowKit Go.Proofs.YtkhmdpplpecgcaaW.PrintWords Go.Proofs.YtkhmdpplpecgcaaW.PrintLast Go.Proofs.YtkhmdpplpecgcaaW.PrintMore
attribute [local go_sem] max2_int min2_int max_two min_two max_three min_three max_four min_four   -- for this text's walks alone

/-! ### figureheadref01_turned: function 37 -/
def figureheadref01_turned.l0 : Nat → List Int → List Int → Int → Option (ByteArray)
  | 0, _, _, _ => none
  | k + 1, x0, x3, x4 => if x4 ≥ 0 then (if 0 ≤ x4 then (if x4 < (x0.length : Int) then (if x3.length < 140737488355328 then (figureheadref01_turned.l0 k x0 (x3 ++ [rd x0 x4]) (wrap64 (x4 - 1))) else (none)) else (none)) else (none)) else (some (strOfNums x3))
def figureheadref01_turned.f (k : Nat) (l0 : List Int) : Option (ByteArray) := figureheadref01_turned.l0 k l0 ([] : List Int) (wrap64 ((l0.length : Int) - 1))
theorem figureheadref01_turned.mono_l : ∀ k, (∀ y0 y1 y2, LeO (figureheadref01_turned.l0 k y0 y1 y2) (figureheadref01_turned.l0 (k + 1) y0 y1 y2))
  | 0 => fun _ _ _ r h => by simp [figureheadref01_turned.l0] at h
  | k + 1 => by
    have ih0 := figureheadref01_turned.mono_l k
    · intro y0 y1 y2
      unfold figureheadref01_turned.l0
      repeat' first
      | (with_reducible exact ih0 _ _ _)
      | (with_reducible exact LeO.refl _)
      | (with_reducible exact LeO.none _)
      | (with_reducible refine LeO.ite ?_ ?_)
      | (with_reducible refine LeO.bind ?_ (fun _ => ?_))
      | exact ih0 _ _ _
      | exact LeO.none _
      | refine LeO.ite ?_ ?_
      | refine LeO.bind ?_ (fun _ => ?_)
theorem figureheadref01_turned.mono : ∀ a0 k, LeO (figureheadref01_turned.f k a0) (figureheadref01_turned.f (k + 1) a0) := by
  intro a0 k
  have ih0 := figureheadref01_turned.mono_l k
  unfold figureheadref01_turned.f
  repeat' first
      | (with_reducible exact ih0 _ _ _)
      | (with_reducible exact LeO.refl _)
      | (with_reducible exact LeO.none _)
      | (with_reducible refine LeO.ite ?_ ?_)
      | (with_reducible refine LeO.bind ?_ (fun _ => ?_))
      | exact ih0 _ _ _
      | exact LeO.none _
      | refine LeO.ite ?_ ?_
      | refine LeO.bind ?_ (fun _ => ?_)
set_option maxHeartbeats 8000000 in
set_option maxRecDepth 100000 in
theorem figureheadref01_turned.calls (k : Nat) (A0 : Option Addr) (c0 : Nat) (l0 : List Int) (r : ByteArray) (w : World) (hr0 : Kd.C (Kd.int .u8) w A0 l0.length l0) (hc0 : l0.length ≤ c0) (h : figureheadref01_turned.f k l0 = some r) :
    Calls Try.prog 37 #[.slice A0 l0.length c0] w fun e w' => e = .returned (.string r) ∧ Below w.heap.size w w' := by
  have HR0 := Aside0.mk hr0
  have HC0 := Aside0.mk hc0
  clear hr0 hc0
  have HB := Aside0.mk (Below.refl w.heap.size w)
  have H : (figureheadref01_turned.l0 k l0 ([] : List Int) (wrap64 ((l0.length : Int) - 1))) = some r := h
  clear h
  have H' := Aside0.mk H
  clear H
  go_enter Try.func37, Try.ntmps37
  go_wp2
  go_loopg [3, 4] k (fun kq v3 v4 w' => ∃ (x3_1 : List Int) (x4_1 : Int), v4 = .int .i64 x4_1 ∧ Aside0 (figureheadref01_turned.l0 kq l0 x3_1 x4_1 = some r) ∧ Aside0 (kq ≤ k) ∧ Aside0 (Kd.R (Kd.int .u8) 5 w' w.heap.size (fun _ => True) v3 x3_1) ∧ Aside0 (Below w.heap.size w w'))
  case atStart => exact ⟨(([] : List Int)), (wrap64 ((l0.length : Int) - 1)), (by first | rfl | (simp; done) | (simp [*]; done)), H', ⟨Nat.le_refl _⟩, ⟨by first | exact Kd.R_nil _ _ _ _ _ | exact Kd.N_nil _ _ _ _ _ | exact Kd.V_nil _ _ _ _ _ | exact Kd.Q_nil _ _ _ _ _ | exact Kd.S_nil _ _ _ _ _⟩, ⟨by repeat (first | (with_reducible first | exact HB.out | apply below_alloc | apply pw_below_drewN | apply below_drew1) | exact HB.out)⟩⟩
  case round =>
    clear H'
    obtain ⟨x3_1, x4_1, rfl, HA, HK1, HO_3, HB⟩ := hrel
    cases gk with
    | zero => exact absurd HA.out (by simp [figureheadref01_turned.l0])
    | succ k1 =>
      have H := HA.out
      clear HA
      simp only [figureheadref01_turned.l0] at H
      by_cases c2 : x4_1 ≥ 0
      · rw [if_pos c2] at H
        have c2b0 : decide (0 ≤ x4_1) = true := decide_eq_true c2
        clear c2
        by_cases c3 : 0 ≤ x4_1
        · rw [if_pos c3] at H
          have c3b0 : decide (0 ≤ x4_1) = true := decide_eq_true c3
          clear c3
          by_cases c4 : x4_1 < (l0.length : Int)
          · rw [if_pos c4] at H
            have c4b0 : decide (x4_1 < (l0.length : Int)) = true := decide_eq_true c4
            clear c4
            by_cases c5 : x3_1.length < 140737488355328
            · rw [if_pos c5] at H
              have LMc5 := Aside0.mk c5
              clear c5
              obtain ⟨y152, hy152⟩ : ∃ y_ : List Int, y_ = (x3_1 ++ [rd l0 x4_1]) := ⟨_, rfl⟩
              replace H : (figureheadref01_turned.l0 k1 l0 y152 (wrap64 (x4_1 - 1))) = some r := by first | (rw [hy152]; with_reducible exact H) | (have H2_ := (Option.bind_some _ _).symm.trans H; rw [hy152]; with_reducible exact H2_) | (have H2_ := (Option.bind_some _ _).symm.trans H; with_reducible exact H2_) | with_reducible exact H | (rw [hy152]; exact H) | exact H
              have Ny152 := Aside0.mk hy152
              clear hy152
              have H' := Aside0.mk H
              clear H
              have p151 : 0 ≤ (x4_1 : Int) := of_decide_eq_true (by first | (with_reducible assumption) | assumption)
              have q151 : x4_1 < (l0.length : Int) := of_decide_eq_true (by first | (with_reducible assumption) | assumption)
              obtain ⟨ad151, e151, hx151_0⟩ := Kd.at_int HR0.out x4_1 p151 q151
              cases e151
              replace hx151_0 := (HB.out.cell (World.block_lt_of_cell? w _ hx151_0)).trans hx151_0
              replace p151 := eq_true p151
              replace q151 := eq_true q151
              go_wp2_with (first | ((with_reducible refine gate_builtin (b := .append) (xs := #[.tmp 12, .tmp 17]) rfl ?_); at_builtin; refine Kd.R_append (Kd.int .u8) (w0 := w) w.heap.size rfl (.tmp 12) (.tmp 17) 46 5 (.int .u8 0) 1 rfl Try.underlying46 info5 rfl (by decide) (by omega) u3 x3_1 (rd l0 x4_1) [.int .u8 (rd l0 x4_1)] (fun _ => True) (fun _ => False) rfl rfl ?aP (fun _ hk => hk.elim) ?aF ?aO ?aB ?aS ?aL ?_; (case aP => exact rfl); (case aB => exact (by repeat (first | (with_reducible first | exact HB.out | apply below_alloc | apply pw_below_drewN | apply below_drew1) | exact HB.out))); (case aF => exact (fun _ _ => trivial)); (case aO => exact (by (with_reducible repeat (first | apply Kd.R_alloc | apply Kd.R_drewN | apply Kd.R_drew)); exact HO_3.out)); (case aS => exact (below_size (by repeat (first | (with_reducible first | exact HB.out | apply below_alloc | apply pw_below_drewN | apply below_drew1) | exact HB.out)))); (case aL => have := LMc5.out; omega); intro v153 w6 ho hb hg hat; rw [← Ny152.out] at ho; have n0_ := Aside0.mk (hb); have n1_ := Aside0.mk (ho); clear HB; clear HO_3; have HB := n0_; have HO154 := n1_; clear n0_ n1_; clear ho hb hg hat))
              go_roundg k1
              case measure => have := HK1.out; omega
              case rel => exact ⟨(y152), (wrap64 (x4_1 - 1)), (by first | rfl | (simp; done) | (simp [*]; done)), H', ⟨by have := HK1.out; omega⟩, ⟨by (with_reducible repeat (first | apply Kd.R_alloc | apply Kd.R_drewN | apply Kd.R_drew)); exact HO154.out⟩, ⟨by repeat (first | (with_reducible first | exact HB.out | apply below_alloc | apply pw_below_drewN | apply below_drew1) | exact HB.out)⟩⟩
            · rw [if_neg c5] at H
              exact absurd H (by simp)
          · rw [if_neg c4] at H
            exact absurd H (by simp)
        · rw [if_neg c3] at H
          exact absurd H (by simp)
      · rw [if_neg c2] at H
        have c2b0 : decide (0 ≤ x4_1) = false := decide_eq_false c2
        clear c2
        obtain rfl := Option.some.inj H
        have hcv7 := own_string (P := Try.prog) Try.underlying46 Try.underlying5 Try.underlying9 (Kd.own_of_R HO_3.out)
        go_wp2
        go_ret
        exact ⟨by first | rfl | (simp [errW_none, errW_some] <;> rfl) | (simp [*, errW_none, errW_some] <;> rfl), by repeat (first | (with_reducible first | exact HB.out | apply below_alloc | apply pw_below_drewN | apply below_drew1) | exact HB.out)⟩

end Go.Proofs.Ytkhmdpplpecgcaa.Px

namespace Go.Proofs.Ytkhmdpplpecgcaa.Px
open Fig Go.RowKit Go.Proofs.YtkhmdpplpecgcaaW.PrintWords Go.Proofs.YtkhmdpplpecgcaaW.PrintLast Go.Proofs.YtkhmdpplpecgcaaW.PrintMore
attribute [local go_sem] max2_int min2_int max_two min_two max_three min_three max_four min_four   -- for this text's walks alone

/-! ### figureheadref01_Plus: function 22 -/
mutual
def figureheadref01_Plus.l0 : Nat → ByteArray → ByteArray → List Int → Int → Int → Option (ByteArray)
  | 0, _, _, _, _, _ => none
  | k + 1, x0, x1, x5, x6, x7 => if x7 < (x0.size : Int) then (figureheadref01_Plus.j1 k x0 x1 x5 x6 x7 true) else (if x7 < (x1.size : Int) then (figureheadref01_Plus.j1 k x0 x1 x5 x6 x7 true) else (figureheadref01_Plus.j1 k x0 x1 x5 x6 x7 (decide (x6 > 0))))
def figureheadref01_Plus.j1 : Nat → ByteArray → ByteArray → List Int → Int → Int → Bool → Option (ByteArray)
  | 0, _, _, _, _, _, _ => none
  | k + 1, x0, x1, x5, x6, x7, x22 => if x22 = true then ((figureheadref01_digit.f x0 x7).bind fun t189 => ((figureheadref01_digit.f x1 x7).bind fun t190 => (if x5.length < 140737488355328 then (figureheadref01_Plus.l0 k x0 x1 (x5 ++ [(wrap64 (48 + (Int.tmod (wrap64 ((wrap64 (t189 + t190)) + x6)) 10))) % 256]) (wrap64 (Int.tdiv (wrap64 ((wrap64 (t189 + t190)) + x6)) 10)) (wrap64 (x7 + 1))) else (none)))) else ((figureheadref01_turned.f k x5).bind fun t194 => ((figureheadref01_Strip.f k t194).bind fun t195 => (some t195)))
end
def figureheadref01_Plus.f (k : Nat) (a0 : ByteArray) (a1 : ByteArray) : Option (ByteArray) := figureheadref01_Plus.l0 k a0 a1 ([] : List Int) 0 0
theorem figureheadref01_Plus.mono_l : ∀ k, (∀ y0 y1 y2 y3 y4, LeO (figureheadref01_Plus.l0 k y0 y1 y2 y3 y4) (figureheadref01_Plus.l0 (k + 1) y0 y1 y2 y3 y4)) ∧ (∀ y0 y1 y2 y3 y4 y5, LeO (figureheadref01_Plus.j1 k y0 y1 y2 y3 y4 y5) (figureheadref01_Plus.j1 (k + 1) y0 y1 y2 y3 y4 y5))
  | 0 => ⟨fun _ _ _ _ _ r h => by simp [figureheadref01_Plus.l0] at h, fun _ _ _ _ _ _ r h => by simp [figureheadref01_Plus.j1] at h⟩
  | k + 1 => by
    obtain ⟨ih0, ih1⟩ := figureheadref01_Plus.mono_l k
    refine ⟨?_, ?_⟩
    · intro y0 y1 y2 y3 y4
      unfold figureheadref01_Plus.l0
      repeat' first
      | (with_reducible exact ih0 _ _ _ _ _)
      | (with_reducible exact ih1 _ _ _ _ _ _)
      | (with_reducible exact figureheadref01_Strip.mono _ _)
      | (with_reducible exact figureheadref01_turned.mono _ _)
      | (with_reducible exact LeO.refl _)
      | (with_reducible exact LeO.none _)
      | (with_reducible refine LeO.ite ?_ ?_)
      | (with_reducible refine LeO.bind ?_ (fun _ => ?_))
      | exact ih0 _ _ _ _ _
      | exact ih1 _ _ _ _ _ _
      | exact figureheadref01_Strip.mono _ _
      | exact figureheadref01_turned.mono _ _
      | exact LeO.none _
      | refine LeO.ite ?_ ?_
      | refine LeO.bind ?_ (fun _ => ?_)
    · intro y0 y1 y2 y3 y4 y5
      unfold figureheadref01_Plus.j1
      repeat' first
      | (with_reducible exact ih0 _ _ _ _ _)
      | (with_reducible exact ih1 _ _ _ _ _ _)
      | (with_reducible exact figureheadref01_Strip.mono _ _)
      | (with_reducible exact figureheadref01_turned.mono _ _)
      | (with_reducible exact LeO.refl _)
      | (with_reducible exact LeO.none _)
      | (with_reducible refine LeO.ite ?_ ?_)
      | (with_reducible refine LeO.bind ?_ (fun _ => ?_))
      | exact ih0 _ _ _ _ _
      | exact ih1 _ _ _ _ _ _
      | exact figureheadref01_Strip.mono _ _
      | exact figureheadref01_turned.mono _ _
      | exact LeO.none _
      | refine LeO.ite ?_ ?_
      | refine LeO.bind ?_ (fun _ => ?_)
theorem figureheadref01_Plus.mono : ∀ a0 a1 k, LeO (figureheadref01_Plus.f k a0 a1) (figureheadref01_Plus.f (k + 1) a0 a1) := by
  intro a0 a1 k
  obtain ⟨ih0, ih1⟩ := figureheadref01_Plus.mono_l k
  unfold figureheadref01_Plus.f
  repeat' first
      | (with_reducible exact ih0 _ _ _ _ _)
      | (with_reducible exact ih1 _ _ _ _ _ _)
      | (with_reducible exact figureheadref01_Strip.mono _ _)
      | (with_reducible exact figureheadref01_turned.mono _ _)
      | (with_reducible exact LeO.refl _)
      | (with_reducible exact LeO.none _)
      | (with_reducible refine LeO.ite ?_ ?_)
      | (with_reducible refine LeO.bind ?_ (fun _ => ?_))
      | exact ih0 _ _ _ _ _
      | exact ih1 _ _ _ _ _ _
      | exact figureheadref01_Strip.mono _ _
      | exact figureheadref01_turned.mono _ _
      | exact LeO.none _
      | refine LeO.ite ?_ ?_
      | refine LeO.bind ?_ (fun _ => ?_)
set_option maxHeartbeats 8000000 in
set_option maxRecDepth 100000 in
theorem figureheadref01_Plus.calls (k : Nat) (a0 : ByteArray) (a1 : ByteArray) (r : ByteArray) (w : World) (h : figureheadref01_Plus.f k a0 a1 = some r) :
    Calls Try.prog 22 #[.string a0, .string a1] w fun e w' => e = .returned (.string r) ∧ Below w.heap.size w w' := by
  have HB := Aside0.mk (Below.refl w.heap.size w)
  have H : (figureheadref01_Plus.l0 k a0 a1 ([] : List Int) 0 0) = some r := h
  clear h
  have H' := Aside0.mk H
  clear H
  go_enter Try.func22, Try.ntmps22
  go_wp2
  go_loopg [5, 6, 7] k (fun kq v5 v6 v7 w' => ∃ (x5_1 : List Int) (x6_1 : Int) (x7_1 : Int), v6 = .int .i64 x6_1 ∧ v7 = .int .i64 x7_1 ∧ Aside0 (figureheadref01_Plus.l0 kq a0 a1 x5_1 x6_1 x7_1 = some r) ∧ Aside0 (kq ≤ k) ∧ Aside0 (Kd.R (Kd.int .u8) 5 w' w.heap.size (fun _ => True) v5 x5_1) ∧ Aside0 (Below w.heap.size w w'))
  case atStart => exact ⟨(([] : List Int)), (0), (0), (by first | rfl | (simp; done) | (simp [*]; done)), (by first | rfl | (simp; done) | (simp [*]; done)), H', ⟨Nat.le_refl _⟩, ⟨by first | exact Kd.R_nil _ _ _ _ _ | exact Kd.N_nil _ _ _ _ _ | exact Kd.V_nil _ _ _ _ _ | exact Kd.Q_nil _ _ _ _ _ | exact Kd.S_nil _ _ _ _ _⟩, ⟨by repeat (first | (with_reducible first | exact HB.out | apply below_alloc | apply pw_below_drewN | apply below_drew1) | exact HB.out)⟩⟩
  case round =>
    clear H'
    try clear c2
    try clear p2
    obtain ⟨x5_1, x6_1, x7_1, rfl, rfl, HA, HK1, HO_5, HB⟩ := hrel
    cases gk with
    | zero => exact absurd HA.out (by simp [figureheadref01_Plus.l0])
    | succ k1 =>
      have H := HA.out
      clear HA
      simp only [figureheadref01_Plus.l0] at H
      have HC3 := Aside0.mk H
      clear H
      go_upto_region 4 with (fail)
      go_cut [22] (fun v22 wc => ∃ (kq : Nat) (x22_2 : Bool), v22 = .bool x22_2 ∧ Aside0 (figureheadref01_Plus.j1 kq a0 a1 x5_1 x6_1 x7_1 x22_2 = some r) ∧ Aside0 (kq ≤ k1) ∧ Aside0 (Kd.R (Kd.int .u8) 5 wc w.heap.size (fun _ => True) u5 x5_1) ∧ Aside0 (Below w.heap.size w wc))
      case first =>
        have H := HC3.out
        clear HC3
        by_cases c4 : x7_1 < (a0.size : Int)
        · rw [if_pos c4] at H
          have c4b0 : decide (x7_1 < (a0.size : Int)) = true := decide_eq_true c4
          clear c4
          (first | rw [c4b0] | (simp only [i64_w, i32_w]; rw [c4b0]) | skip)
          have H' := Aside0.mk H
          clear H
          go_wp2
          go_meet
          case rel => exact ⟨_, (true), (by first | rfl | (simp; done) | (simp [*]; done)), H', ⟨by have := HK1.out; first | omega | exact Nat.le_refl _⟩, ⟨by (with_reducible repeat (first | apply Kd.R_alloc | apply Kd.R_drewN | apply Kd.R_drew)); exact HO_5.out⟩, ⟨by repeat (first | (with_reducible first | exact HB.out | apply below_alloc | apply pw_below_drewN | apply below_drew1) | exact HB.out)⟩⟩
        · rw [if_neg c4] at H
          have c4b0 : decide (x7_1 < (a0.size : Int)) = false := decide_eq_false c4
          clear c4
          (first | rw [c4b0] | (simp only [i64_w, i32_w]; rw [c4b0]) | skip)
          by_cases c5 : x7_1 < (a1.size : Int)
          · rw [if_pos c5] at H
            have c5b0 : decide (x7_1 < (a1.size : Int)) = true := decide_eq_true c5
            clear c5
            have H' := Aside0.mk H
            clear H
            go_wp2
            go_meet
            case rel => exact ⟨_, (true), (by first | rfl | (simp; done) | (simp [*]; done)), H', ⟨by have := HK1.out; first | omega | exact Nat.le_refl _⟩, ⟨by (with_reducible repeat (first | apply Kd.R_alloc | apply Kd.R_drewN | apply Kd.R_drew)); exact HO_5.out⟩, ⟨by repeat (first | (with_reducible first | exact HB.out | apply below_alloc | apply pw_below_drewN | apply below_drew1) | exact HB.out)⟩⟩
          · rw [if_neg c5] at H
            have c5b0 : decide (x7_1 < (a1.size : Int)) = false := decide_eq_false c5
            clear c5
            have H' := Aside0.mk H
            clear H
            go_wp2
            go_meet
            case rel => exact ⟨_, (decide (x6_1 > 0)), (by first | rfl | (simp; done) | (simp [*]; done)), H', ⟨by have := HK1.out; first | omega | exact Nat.le_refl _⟩, ⟨by (with_reducible repeat (first | apply Kd.R_alloc | apply Kd.R_drewN | apply Kd.R_drew)); exact HO_5.out⟩, ⟨by repeat (first | (with_reducible first | exact HB.out | apply below_alloc | apply pw_below_drewN | apply below_drew1) | exact HB.out)⟩⟩
      case rest =>
        clear HC3
        try clear c2
        try clear p2
        try clear c4
        try clear c4b0
        try clear c5
        try clear c5b0
        try clear p2
        obtain ⟨kq, x22_2, rfl, HA, HJ2, HO_5, HB⟩ := hcut
        cases kq with
        | zero => exact absurd HA.out (by simp [figureheadref01_Plus.j1])
        | succ kj2 =>
          have H := HA.out
          clear HA
          simp only [figureheadref01_Plus.j1] at H
          by_cases c6 : x22_2 = true
          · subst c6
            have H1 : ((figureheadref01_digit.f a0 x7_1).bind fun t189 => ((figureheadref01_digit.f a1 x7_1).bind fun t190 => (if x5_1.length < 140737488355328 then (figureheadref01_Plus.l0 kj2 a0 a1 (x5_1 ++ [(wrap64 (48 + (Int.tmod (wrap64 ((wrap64 (t189 + t190)) + x6_1)) 10))) % 256]) (wrap64 (Int.tdiv (wrap64 ((wrap64 (t189 + t190)) + x6_1)) 10)) (wrap64 (x7_1 + 1))) else (none)))) = some r := by rw [if_pos rfl] at H; exact H
            clear H
            have H := H1
            clear H1
            replace H := Option.bind_eq_some_iff.mp H
            obtain ⟨t189, A70, H⟩ := H
            replace H : ((figureheadref01_digit.f a1 x7_1).bind fun t190 => (if x5_1.length < 140737488355328 then (figureheadref01_Plus.l0 kj2 a0 a1 (x5_1 ++ [(wrap64 (48 + (Int.tmod (wrap64 ((wrap64 (t189 + t190)) + x6_1)) 10))) % 256]) (wrap64 (Int.tdiv (wrap64 ((wrap64 (t189 + t190)) + x6_1)) 10)) (wrap64 (x7_1 + 1))) else (none))) = some r := H
            have A7 := Aside0.mk A70
            clear A70
            replace H := Option.bind_eq_some_iff.mp H
            obtain ⟨t190, A80, H⟩ := H
            replace H : (if x5_1.length < 140737488355328 then (figureheadref01_Plus.l0 kj2 a0 a1 (x5_1 ++ [(wrap64 (48 + (Int.tmod (wrap64 ((wrap64 (t189 + t190)) + x6_1)) 10))) % 256]) (wrap64 (Int.tdiv (wrap64 ((wrap64 (t189 + t190)) + x6_1)) 10)) (wrap64 (x7_1 + 1))) else (none)) = some r := H
            have A8 := Aside0.mk A80
            clear A80
            by_cases c9 : x5_1.length < 140737488355328
            · rw [if_pos c9] at H
              have LMc9 := Aside0.mk c9
              clear c9
              obtain ⟨y191, hy191⟩ : ∃ y_ : List Int, y_ = (x5_1 ++ [(wrap64 (48 + (Int.tmod (wrap64 ((wrap64 (t189 + t190)) + x6_1)) 10))) % 256]) := ⟨_, rfl⟩
              replace H : (figureheadref01_Plus.l0 kj2 a0 a1 y191 (wrap64 (Int.tdiv (wrap64 ((wrap64 (t189 + t190)) + x6_1)) 10)) (wrap64 (x7_1 + 1))) = some r := by first | (rw [hy191]; with_reducible exact H) | (have H2_ := (Option.bind_some _ _).symm.trans H; rw [hy191]; with_reducible exact H2_) | (have H2_ := (Option.bind_some _ _).symm.trans H; with_reducible exact H2_) | with_reducible exact H | (rw [hy191]; exact H) | exact H
              have Ny191 := Aside0.mk hy191
              clear hy191
              have H' := Aside0.mk H
              clear H
              go_wp2_with (first | ((with_reducible refine gate_callee (f := 36) rfl ?_); refine goesL_ (some 27) rfl rfl Try.func36 (by kernel_rfl) rfl #[.string a0, .int .i64 x7_1] rfl (by (try simp only [List.map_toArray, List.map_cons, List.map_nil]); first | done | rfl | (simp only [List.length_drop, List.length_take]; rfl)) ?_; (with_reducible refine (figureheadref01_digit.calls a0 x7_1 t189 _ A7.out).mono ?_); rintro e w' ⟨rfl, ⟨nd, rfl⟩⟩; refine ⟨_, rfl, ?_⟩) | ((with_reducible refine gate_callee (f := 36) rfl ?_); refine goesL_ (some 30) rfl rfl Try.func36 (by kernel_rfl) rfl #[.string a1, .int .i64 x7_1] rfl (by (try simp only [List.map_toArray, List.map_cons, List.map_nil]); first | done | rfl | (simp only [List.length_drop, List.length_take]; rfl)) ?_; (with_reducible refine (figureheadref01_digit.calls a1 x7_1 t190 _ A8.out).mono ?_); rintro e w' ⟨rfl, ⟨nd, rfl⟩⟩; refine ⟨_, rfl, ?_⟩) | ((with_reducible refine gate_builtin (b := .append) (xs := #[.tmp 34, .tmp 39]) rfl ?_); (try (refine gate_guard (by rfl) ?_; dsimp only)); at_builtin; refine Kd.R_append (Kd.int .u8) (w0 := w) w.heap.size rfl (.tmp 34) (.tmp 39) 46 5 (.int .u8 0) 1 rfl Try.underlying46 info5 rfl (by decide) (by omega) u5 x5_1 ((wrap64 (48 + (Int.tmod (wrap64 ((wrap64 (t189 + t190)) + x6_1)) 10))) % 256) [.int .u8 ((wrap64 (48 + (Int.tmod (wrap64 ((wrap64 (t189 + t190)) + x6_1)) 10))) % 256)] (fun _ => True) (fun _ => False) rfl rfl ?aP (fun _ hk => hk.elim) ?aF ?aO ?aB ?aS ?aL ?_; (case aP => exact rfl); (case aB => exact (by repeat (first | (with_reducible first | exact HB.out | apply below_alloc | apply pw_below_drewN | apply below_drew1) | exact HB.out))); (case aF => exact (fun _ _ => trivial)); (case aO => exact (by (with_reducible repeat (first | apply Kd.R_alloc | apply Kd.R_drewN | apply Kd.R_drew)); exact HO_5.out)); (case aS => exact (below_size (by repeat (first | (with_reducible first | exact HB.out | apply below_alloc | apply pw_below_drewN | apply below_drew1) | exact HB.out)))); (case aL => have := LMc9.out; omega); intro v192 w10 ho hb hg hat; rw [← Ny191.out] at ho; have n0_ := Aside0.mk (hb); have n1_ := Aside0.mk (ho); clear HB; clear HO_5; have HB := n0_; have HO193 := n1_; clear n0_ n1_; clear ho hb hg hat))
              go_roundg kj2
              case measure => have := HK1.out; have := HJ2.out; omega
              case rel => exact ⟨(y191), (wrap64 (Int.tdiv (wrap64 ((wrap64 (t189 + t190)) + x6_1)) 10)), (wrap64 (x7_1 + 1)), (by first | rfl | (simp; done) | (simp [*]; done)), (by first | rfl | (simp; done) | (simp [*]; done)), H', ⟨by have := HK1.out; have := HJ2.out; omega⟩, ⟨by (with_reducible repeat (first | apply Kd.R_alloc | apply Kd.R_drewN | apply Kd.R_drew)); exact HO193.out⟩, ⟨by repeat (first | (with_reducible first | exact HB.out | apply below_alloc | apply pw_below_drewN | apply below_drew1) | exact HB.out)⟩⟩
            · rw [if_neg c9] at H
              exact absurd H (by simp)
          · replace c6 := Bool.eq_false_iff.mpr c6
            subst c6
            have H1 : ((figureheadref01_turned.f kj2 x5_1).bind fun t194 => ((figureheadref01_Strip.f kj2 t194).bind fun t195 => (some t195))) = some r := by rw [if_neg (show ¬ (false = true) by decide)] at H; exact H
            clear H
            have H := H1
            clear H1
            replace H := Option.bind_eq_some_iff.mp H
            obtain ⟨t194, A110, H⟩ := H
            replace H : ((figureheadref01_Strip.f kj2 t194).bind fun t195 => (some t195)) = some r := H
            have A11 := Aside0.mk A110
            clear A110
            replace H := Option.bind_eq_some_iff.mp H
            obtain ⟨t195, A120, H⟩ := H
            replace H : (some t195) = some r := H
            have A12 := Aside0.mk A120
            clear A120
            obtain rfl := Option.some.inj H
            obtain ⟨Ao13, co13, eo13⟩ := Kd.R_slice HO_5.out
            subst eo13
            go_wp2_with (first | ((with_reducible refine gate_callee (f := 37) rfl ?_); refine goesL_ (some 44) rfl rfl Try.func37 (by kernel_rfl) rfl #[.slice Ao13 x5_1.length co13] rfl (by (try simp only [List.map_toArray, List.map_cons, List.map_nil]); first | done | rfl | (simp only [List.length_drop, List.length_take]; rfl)) ?_; (with_reducible refine (figureheadref01_turned.calls kj2 _ _ x5_1 t194 _ ?side1 ?side2 A11.out).mono ?_); (case side1 => repeat (first | exact (Kd.R_reads' HO_5.out).2.2 | (with_reducible refine Kd.C_alloc ?_ _) | (with_reducible refine Kd.C_drewN ?_ _) | (with_reducible refine Kd.C_drew ?_))); (case side2 => exact (Kd.R_reads' HO_5.out).2.1); rintro e w14 ⟨rfl, hb⟩; refine ⟨_, rfl, ?_⟩; have n0_ := Aside0.mk (Kd.R_below (by (with_reducible repeat (first | apply Kd.R_alloc | apply Kd.R_drewN | apply Kd.R_drew)); exact HO_5.out) hb); have n1_ := Aside0.mk (below_step (by repeat (first | (with_reducible first | exact HB.out | apply below_alloc | apply pw_below_drewN | apply below_drew1) | exact HB.out)) hb); clear HO_5; clear HB; have HO_5 := n0_; have HB := n1_; clear n0_ n1_; (try clear hb); (try clear hb2); (try clear hk); (try clear hi)) | ((with_reducible refine gate_callee (f := 35) rfl ?_); refine goesL_ (some 45) rfl rfl Try.func35 (by kernel_rfl) rfl #[.string t194] rfl (by (try simp only [List.map_toArray, List.map_cons, List.map_nil]); first | done | rfl | (simp only [List.length_drop, List.length_take]; rfl)) ?_; (with_reducible refine (figureheadref01_Strip.calls kj2 t194 t195 _ A12.out).mono ?_); rintro e w' ⟨rfl, ⟨nd, rfl⟩⟩; refine ⟨_, rfl, ?_⟩))
            go_ret
            exact ⟨by first | rfl | (simp [errW_none, errW_some] <;> rfl) | (simp [*, errW_none, errW_some] <;> rfl), by repeat (first | (with_reducible first | exact HB.out | apply below_alloc | apply pw_below_drewN | apply below_drew1) | exact HB.out)⟩

end Go.Proofs.Ytkhmdpplpecgcaa.Px

namespace Go.Proofs.Ytkhmdpplpecgcaa.Px
open Fig Go.RowKit Go.Proofs.YtkhmdpplpecgcaaW.PrintWords Go.Proofs.YtkhmdpplpecgcaaW.PrintLast Go.Proofs.YtkhmdpplpecgcaaW.PrintMore
attribute [local go_sem] max2_int min2_int max_two min_two max_three min_three max_four min_four   -- for this text's walks alone

/-! ### figureheadlaw02_MulLaws: function 5 -/
def figureheadlaw02_MulLaws.f (k : Nat) (l0 : List Int) (l1 : List Int) (l2 : List Int) : Option (Bool) := (figureheadlaw02_good.f k (([l0, l1, l2] : List (List Int)))).bind fun t226 => (if t226 = true then ((figureheadref01_Text.f k l1).bind fun t228 => ((figureheadref01_Text.f k l2).bind fun t229 => ((figureheadref01_Plus.f k t228 t229).bind fun t230 => ((figureheadref01_Number.f k t230).bind fun t231 => ((mul_Mul.f k l0 l1).bind fun t234 => ((figureheadref01_Text.f k t234).bind fun t237 => ((mul_Mul.f k l0 l2).bind fun t238 => ((figureheadref01_Text.f k t238).bind fun t241 => ((figureheadref01_Plus.f k t237 t241).bind fun t242 => ((figureheadlaw02_answers.f k).bind fun t243 => (if t243 = true then ((mul_Mul.f k l0 l1).bind fun t244 => ((mul_Mul.f k l1 l0).bind fun t247 => ((figureheadref01_Same.f k t244 t247).bind fun t250 => (if t250 = true then ((mul_Mul.f k l0 t231).bind fun t251 => ((figureheadref01_Number.f k t242).bind fun t254 => ((figureheadref01_Same.f k t251 t254).bind fun t257 => (if t257 = true then ((mul_Mul.f k l0 l1).bind fun t258 => ((mul_Mul.f k t258 l2).bind fun t261 => ((mul_Mul.f k l1 l2).bind fun t264 => ((mul_Mul.f k l0 t264).bind fun t267 => ((figureheadref01_Same.f k t261 t267).bind fun t270 => (if t270 = true then ((mul_Mul.f k l0 ([] : List Int)).bind fun t271 => (some ((t271.length : Int) == 0))) else (some false))))))) else (some false))))) else (some false))))) else (some false)))))))))))) else ((figureheadlaw02_answers.f k).bind fun t227 => (some t227)))
theorem figureheadlaw02_MulLaws.mono : ∀ a0 a1 a2 k, LeO (figureheadlaw02_MulLaws.f k a0 a1 a2) (figureheadlaw02_MulLaws.f (k + 1) a0 a1 a2) := by
  intro a0 a1 a2 k
  unfold figureheadlaw02_MulLaws.f
  repeat' first
      | (with_reducible exact figureheadlaw02_answers.mono _)
      | (with_reducible exact figureheadlaw02_good.mono _ _)
      | (with_reducible exact figureheadref01_Number.mono _ _)
      | (with_reducible exact figureheadref01_Plus.mono _ _ _)
      | (with_reducible exact figureheadref01_Same.mono _ _ _)
      | (with_reducible exact figureheadref01_Text.mono _ _)
      | (with_reducible exact mul_Mul.mono _ _ _)
      | (with_reducible exact LeO.refl _)
      | (with_reducible exact LeO.none _)
      | (with_reducible refine LeO.ite ?_ ?_)
      | (with_reducible refine LeO.bind ?_ (fun _ => ?_))
      | exact figureheadlaw02_answers.mono _
      | exact figureheadlaw02_good.mono _ _
      | exact figureheadref01_Number.mono _ _
      | exact figureheadref01_Plus.mono _ _ _
      | exact figureheadref01_Same.mono _ _ _
      | exact figureheadref01_Text.mono _ _
      | exact mul_Mul.mono _ _ _
      | exact LeO.none _
      | refine LeO.ite ?_ ?_
      | refine LeO.bind ?_ (fun _ => ?_)
set_option maxHeartbeats 8000000 in
set_option maxRecDepth 100000 in
theorem figureheadlaw02_MulLaws.calls (k : Nat) (P0_ : Nat → Prop) (A0 : Option Addr) (c0 : Nat) (l0 : List Int) (P1_ : Nat → Prop) (A1 : Option Addr) (c1 : Nat) (l1 : List Int) (P2_ : Nat → Prop) (A2 : Option Addr) (c2 : Nat) (l2 : List Int) (r : Bool) (w : World) (HT : Aside0 (r = true)) (hs0 : Kd.V (Kd.int .u32) 30 w w.heap.size (fun k_ => P0_ k_) (.slice A0 l0.length c0) l0) (hs1 : Kd.V (Kd.int .u32) 30 w w.heap.size (fun k_ => P1_ k_) (.slice A1 l1.length c1) l1) (hs2 : Kd.V (Kd.int .u32) 30 w w.heap.size (fun k_ => P2_ k_) (.slice A2 l2.length c2) l2) (h : figureheadlaw02_MulLaws.f k l0 l1 l2 = some r) :
    Calls Try.prog 5 #[.slice A0 l0.length c0, .slice A1 l1.length c1, .slice A2 l2.length c2] w fun e w' => e = .returned (.bool r) ∧ Below w.heap.size w w' := by
  have HO0 := Aside0.mk (show Kd.V (Kd.int .u32) 30 w w.heap.size (fun k_ => ((P0_ k_ ∨ P1_ k_ ∨ P2_ k_) ∨ w.heap.size ≤ k_)) (.slice A0 l0.length c0) l0 from Kd.V_mono hs0 (fun k_ hk => .inl (.inl hk)))
  have HO1 := Aside0.mk (show Kd.V (Kd.int .u32) 30 w w.heap.size (fun k_ => ((P0_ k_ ∨ P1_ k_ ∨ P2_ k_) ∨ w.heap.size ≤ k_)) (.slice A1 l1.length c1) l1 from Kd.V_mono hs1 (fun k_ hk => .inl (.inr (.inl hk))))
  have HO2 := Aside0.mk (show Kd.V (Kd.int .u32) 30 w w.heap.size (fun k_ => ((P0_ k_ ∨ P1_ k_ ∨ P2_ k_) ∨ w.heap.size ≤ k_)) (.slice A2 l2.length c2) l2 from Kd.V_mono hs2 (fun k_ hk => .inl (.inr (.inr hk))))
  have HB := Aside0.mk (Below.refl w.heap.size w)
  have H : ((figureheadlaw02_good.f k (([l0, l1, l2] : List (List Int)))).bind fun t226 => (if t226 = true then ((figureheadref01_Text.f k l1).bind fun t228 => ((figureheadref01_Text.f k l2).bind fun t229 => ((figureheadref01_Plus.f k t228 t229).bind fun t230 => ((figureheadref01_Number.f k t230).bind fun t231 => ((mul_Mul.f k l0 l1).bind fun t234 => ((figureheadref01_Text.f k t234).bind fun t237 => ((mul_Mul.f k l0 l2).bind fun t238 => ((figureheadref01_Text.f k t238).bind fun t241 => ((figureheadref01_Plus.f k t237 t241).bind fun t242 => ((figureheadlaw02_answers.f k).bind fun t243 => (if t243 = true then ((mul_Mul.f k l0 l1).bind fun t244 => ((mul_Mul.f k l1 l0).bind fun t247 => ((figureheadref01_Same.f k t244 t247).bind fun t250 => (if t250 = true then ((mul_Mul.f k l0 t231).bind fun t251 => ((figureheadref01_Number.f k t242).bind fun t254 => ((figureheadref01_Same.f k t251 t254).bind fun t257 => (if t257 = true then ((mul_Mul.f k l0 l1).bind fun t258 => ((mul_Mul.f k t258 l2).bind fun t261 => ((mul_Mul.f k l1 l2).bind fun t264 => ((mul_Mul.f k l0 t264).bind fun t267 => ((figureheadref01_Same.f k t261 t267).bind fun t270 => (if t270 = true then ((mul_Mul.f k l0 ([] : List Int)).bind fun t271 => (some ((t271.length : Int) == 0))) else (some false))))))) else (some false))))) else (some false))))) else (some false)))))))))))) else ((figureheadlaw02_answers.f k).bind fun t227 => (some t227)))) = some r := h
  clear h
  obtain ⟨y223, hy223⟩ : ∃ y_ : List (List Int), y_ = (([l0, l1, l2] : List (List Int))) := ⟨_, rfl⟩
  replace H : ((figureheadlaw02_good.f k y223).bind fun t226 => (if t226 = true then ((figureheadref01_Text.f k l1).bind fun t228 => ((figureheadref01_Text.f k l2).bind fun t229 => ((figureheadref01_Plus.f k t228 t229).bind fun t230 => ((figureheadref01_Number.f k t230).bind fun t231 => ((mul_Mul.f k l0 l1).bind fun t234 => ((figureheadref01_Text.f k t234).bind fun t237 => ((mul_Mul.f k l0 l2).bind fun t238 => ((figureheadref01_Text.f k t238).bind fun t241 => ((figureheadref01_Plus.f k t237 t241).bind fun t242 => ((figureheadlaw02_answers.f k).bind fun t243 => (if t243 = true then ((mul_Mul.f k l0 l1).bind fun t244 => ((mul_Mul.f k l1 l0).bind fun t247 => ((figureheadref01_Same.f k t244 t247).bind fun t250 => (if t250 = true then ((mul_Mul.f k l0 t231).bind fun t251 => ((figureheadref01_Number.f k t242).bind fun t254 => ((figureheadref01_Same.f k t251 t254).bind fun t257 => (if t257 = true then ((mul_Mul.f k l0 l1).bind fun t258 => ((mul_Mul.f k t258 l2).bind fun t261 => ((mul_Mul.f k l1 l2).bind fun t264 => ((mul_Mul.f k l0 t264).bind fun t267 => ((figureheadref01_Same.f k t261 t267).bind fun t270 => (if t270 = true then ((mul_Mul.f k l0 ([] : List Int)).bind fun t271 => (some ((t271.length : Int) == 0))) else (some false))))))) else (some false))))) else (some false))))) else (some false)))))))))))) else ((figureheadlaw02_answers.f k).bind fun t227 => (some t227)))) = some r := by first | (rw [hy223]; with_reducible exact H) | (have H2_ := (Option.bind_some _ _).symm.trans H; rw [hy223]; with_reducible exact H2_) | (have H2_ := (Option.bind_some _ _).symm.trans H; with_reducible exact H2_) | with_reducible exact H | (rw [hy223]; exact H) | exact H
  have Ny223 := Aside0.mk hy223
  clear hy223
  replace H := Option.bind_eq_some_iff.mp H
  obtain ⟨t226, A40, H⟩ := H
  replace H : (if t226 = true then ((figureheadref01_Text.f k l1).bind fun t228 => ((figureheadref01_Text.f k l2).bind fun t229 => ((figureheadref01_Plus.f k t228 t229).bind fun t230 => ((figureheadref01_Number.f k t230).bind fun t231 => ((mul_Mul.f k l0 l1).bind fun t234 => ((figureheadref01_Text.f k t234).bind fun t237 => ((mul_Mul.f k l0 l2).bind fun t238 => ((figureheadref01_Text.f k t238).bind fun t241 => ((figureheadref01_Plus.f k t237 t241).bind fun t242 => ((figureheadlaw02_answers.f k).bind fun t243 => (if t243 = true then ((mul_Mul.f k l0 l1).bind fun t244 => ((mul_Mul.f k l1 l0).bind fun t247 => ((figureheadref01_Same.f k t244 t247).bind fun t250 => (if t250 = true then ((mul_Mul.f k l0 t231).bind fun t251 => ((figureheadref01_Number.f k t242).bind fun t254 => ((figureheadref01_Same.f k t251 t254).bind fun t257 => (if t257 = true then ((mul_Mul.f k l0 l1).bind fun t258 => ((mul_Mul.f k t258 l2).bind fun t261 => ((mul_Mul.f k l1 l2).bind fun t264 => ((mul_Mul.f k l0 t264).bind fun t267 => ((figureheadref01_Same.f k t261 t267).bind fun t270 => (if t270 = true then ((mul_Mul.f k l0 ([] : List Int)).bind fun t271 => (some ((t271.length : Int) == 0))) else (some false))))))) else (some false))))) else (some false))))) else (some false)))))))))))) else ((figureheadlaw02_answers.f k).bind fun t227 => (some t227))) = some r := H
  have A4 := Aside0.mk A40
  clear A40
  by_cases c5 : t226 = true
  · subst c5
    have H1 : ((figureheadref01_Text.f k l1).bind fun t228 => ((figureheadref01_Text.f k l2).bind fun t229 => ((figureheadref01_Plus.f k t228 t229).bind fun t230 => ((figureheadref01_Number.f k t230).bind fun t231 => ((mul_Mul.f k l0 l1).bind fun t234 => ((figureheadref01_Text.f k t234).bind fun t237 => ((mul_Mul.f k l0 l2).bind fun t238 => ((figureheadref01_Text.f k t238).bind fun t241 => ((figureheadref01_Plus.f k t237 t241).bind fun t242 => ((figureheadlaw02_answers.f k).bind fun t243 => (if t243 = true then ((mul_Mul.f k l0 l1).bind fun t244 => ((mul_Mul.f k l1 l0).bind fun t247 => ((figureheadref01_Same.f k t244 t247).bind fun t250 => (if t250 = true then ((mul_Mul.f k l0 t231).bind fun t251 => ((figureheadref01_Number.f k t242).bind fun t254 => ((figureheadref01_Same.f k t251 t254).bind fun t257 => (if t257 = true then ((mul_Mul.f k l0 l1).bind fun t258 => ((mul_Mul.f k t258 l2).bind fun t261 => ((mul_Mul.f k l1 l2).bind fun t264 => ((mul_Mul.f k l0 t264).bind fun t267 => ((figureheadref01_Same.f k t261 t267).bind fun t270 => (if t270 = true then ((mul_Mul.f k l0 ([] : List Int)).bind fun t271 => (some ((t271.length : Int) == 0))) else (some false))))))) else (some false))))) else (some false))))) else (some false)))))))))))) = some r := by rw [if_pos rfl] at H; exact H
    clear H
    have H := H1
    clear H1
    replace H := Option.bind_eq_some_iff.mp H
    obtain ⟨t228, A60, H⟩ := H
    replace H : ((figureheadref01_Text.f k l2).bind fun t229 => ((figureheadref01_Plus.f k t228 t229).bind fun t230 => ((figureheadref01_Number.f k t230).bind fun t231 => ((mul_Mul.f k l0 l1).bind fun t234 => ((figureheadref01_Text.f k t234).bind fun t237 => ((mul_Mul.f k l0 l2).bind fun t238 => ((figureheadref01_Text.f k t238).bind fun t241 => ((figureheadref01_Plus.f k t237 t241).bind fun t242 => ((figureheadlaw02_answers.f k).bind fun t243 => (if t243 = true then ((mul_Mul.f k l0 l1).bind fun t244 => ((mul_Mul.f k l1 l0).bind fun t247 => ((figureheadref01_Same.f k t244 t247).bind fun t250 => (if t250 = true then ((mul_Mul.f k l0 t231).bind fun t251 => ((figureheadref01_Number.f k t242).bind fun t254 => ((figureheadref01_Same.f k t251 t254).bind fun t257 => (if t257 = true then ((mul_Mul.f k l0 l1).bind fun t258 => ((mul_Mul.f k t258 l2).bind fun t261 => ((mul_Mul.f k l1 l2).bind fun t264 => ((mul_Mul.f k l0 t264).bind fun t267 => ((figureheadref01_Same.f k t261 t267).bind fun t270 => (if t270 = true then ((mul_Mul.f k l0 ([] : List Int)).bind fun t271 => (some ((t271.length : Int) == 0))) else (some false))))))) else (some false))))) else (some false))))) else (some false))))))))))) = some r := H
    have A6 := Aside0.mk A60
    clear A60
    replace H := Option.bind_eq_some_iff.mp H
    obtain ⟨t229, A70, H⟩ := H
    replace H : ((figureheadref01_Plus.f k t228 t229).bind fun t230 => ((figureheadref01_Number.f k t230).bind fun t231 => ((mul_Mul.f k l0 l1).bind fun t234 => ((figureheadref01_Text.f k t234).bind fun t237 => ((mul_Mul.f k l0 l2).bind fun t238 => ((figureheadref01_Text.f k t238).bind fun t241 => ((figureheadref01_Plus.f k t237 t241).bind fun t242 => ((figureheadlaw02_answers.f k).bind fun t243 => (if t243 = true then ((mul_Mul.f k l0 l1).bind fun t244 => ((mul_Mul.f k l1 l0).bind fun t247 => ((figureheadref01_Same.f k t244 t247).bind fun t250 => (if t250 = true then ((mul_Mul.f k l0 t231).bind fun t251 => ((figureheadref01_Number.f k t242).bind fun t254 => ((figureheadref01_Same.f k t251 t254).bind fun t257 => (if t257 = true then ((mul_Mul.f k l0 l1).bind fun t258 => ((mul_Mul.f k t258 l2).bind fun t261 => ((mul_Mul.f k l1 l2).bind fun t264 => ((mul_Mul.f k l0 t264).bind fun t267 => ((figureheadref01_Same.f k t261 t267).bind fun t270 => (if t270 = true then ((mul_Mul.f k l0 ([] : List Int)).bind fun t271 => (some ((t271.length : Int) == 0))) else (some false))))))) else (some false))))) else (some false))))) else (some false)))))))))) = some r := H
    have A7 := Aside0.mk A70
    clear A70
    replace H := Option.bind_eq_some_iff.mp H
    obtain ⟨t230, A80, H⟩ := H
    replace H : ((figureheadref01_Number.f k t230).bind fun t231 => ((mul_Mul.f k l0 l1).bind fun t234 => ((figureheadref01_Text.f k t234).bind fun t237 => ((mul_Mul.f k l0 l2).bind fun t238 => ((figureheadref01_Text.f k t238).bind fun t241 => ((figureheadref01_Plus.f k t237 t241).bind fun t242 => ((figureheadlaw02_answers.f k).bind fun t243 => (if t243 = true then ((mul_Mul.f k l0 l1).bind fun t244 => ((mul_Mul.f k l1 l0).bind fun t247 => ((figureheadref01_Same.f k t244 t247).bind fun t250 => (if t250 = true then ((mul_Mul.f k l0 t231).bind fun t251 => ((figureheadref01_Number.f k t242).bind fun t254 => ((figureheadref01_Same.f k t251 t254).bind fun t257 => (if t257 = true then ((mul_Mul.f k l0 l1).bind fun t258 => ((mul_Mul.f k t258 l2).bind fun t261 => ((mul_Mul.f k l1 l2).bind fun t264 => ((mul_Mul.f k l0 t264).bind fun t267 => ((figureheadref01_Same.f k t261 t267).bind fun t270 => (if t270 = true then ((mul_Mul.f k l0 ([] : List Int)).bind fun t271 => (some ((t271.length : Int) == 0))) else (some false))))))) else (some false))))) else (some false))))) else (some false))))))))) = some r := H
    have A8 := Aside0.mk A80
    clear A80
    replace H := Option.bind_eq_some_iff.mp H
    obtain ⟨t231, A90, H⟩ := H
    replace H : ((mul_Mul.f k l0 l1).bind fun t234 => ((figureheadref01_Text.f k t234).bind fun t237 => ((mul_Mul.f k l0 l2).bind fun t238 => ((figureheadref01_Text.f k t238).bind fun t241 => ((figureheadref01_Plus.f k t237 t241).bind fun t242 => ((figureheadlaw02_answers.f k).bind fun t243 => (if t243 = true then ((mul_Mul.f k l0 l1).bind fun t244 => ((mul_Mul.f k l1 l0).bind fun t247 => ((figureheadref01_Same.f k t244 t247).bind fun t250 => (if t250 = true then ((mul_Mul.f k l0 t231).bind fun t251 => ((figureheadref01_Number.f k t242).bind fun t254 => ((figureheadref01_Same.f k t251 t254).bind fun t257 => (if t257 = true then ((mul_Mul.f k l0 l1).bind fun t258 => ((mul_Mul.f k t258 l2).bind fun t261 => ((mul_Mul.f k l1 l2).bind fun t264 => ((mul_Mul.f k l0 t264).bind fun t267 => ((figureheadref01_Same.f k t261 t267).bind fun t270 => (if t270 = true then ((mul_Mul.f k l0 ([] : List Int)).bind fun t271 => (some ((t271.length : Int) == 0))) else (some false))))))) else (some false))))) else (some false))))) else (some false)))))))) = some r := H
    have A9 := Aside0.mk A90
    clear A90
    replace H := Option.bind_eq_some_iff.mp H
    obtain ⟨t234, A100, H⟩ := H
    replace H : ((figureheadref01_Text.f k t234).bind fun t237 => ((mul_Mul.f k l0 l2).bind fun t238 => ((figureheadref01_Text.f k t238).bind fun t241 => ((figureheadref01_Plus.f k t237 t241).bind fun t242 => ((figureheadlaw02_answers.f k).bind fun t243 => (if t243 = true then ((mul_Mul.f k l0 l1).bind fun t244 => ((mul_Mul.f k l1 l0).bind fun t247 => ((figureheadref01_Same.f k t244 t247).bind fun t250 => (if t250 = true then ((mul_Mul.f k l0 t231).bind fun t251 => ((figureheadref01_Number.f k t242).bind fun t254 => ((figureheadref01_Same.f k t251 t254).bind fun t257 => (if t257 = true then ((mul_Mul.f k l0 l1).bind fun t258 => ((mul_Mul.f k t258 l2).bind fun t261 => ((mul_Mul.f k l1 l2).bind fun t264 => ((mul_Mul.f k l0 t264).bind fun t267 => ((figureheadref01_Same.f k t261 t267).bind fun t270 => (if t270 = true then ((mul_Mul.f k l0 ([] : List Int)).bind fun t271 => (some ((t271.length : Int) == 0))) else (some false))))))) else (some false))))) else (some false))))) else (some false))))))) = some r := H
    have A10 := Aside0.mk A100
    clear A100
    replace H := Option.bind_eq_some_iff.mp H
    obtain ⟨t237, A110, H⟩ := H
    replace H : ((mul_Mul.f k l0 l2).bind fun t238 => ((figureheadref01_Text.f k t238).bind fun t241 => ((figureheadref01_Plus.f k t237 t241).bind fun t242 => ((figureheadlaw02_answers.f k).bind fun t243 => (if t243 = true then ((mul_Mul.f k l0 l1).bind fun t244 => ((mul_Mul.f k l1 l0).bind fun t247 => ((figureheadref01_Same.f k t244 t247).bind fun t250 => (if t250 = true then ((mul_Mul.f k l0 t231).bind fun t251 => ((figureheadref01_Number.f k t242).bind fun t254 => ((figureheadref01_Same.f k t251 t254).bind fun t257 => (if t257 = true then ((mul_Mul.f k l0 l1).bind fun t258 => ((mul_Mul.f k t258 l2).bind fun t261 => ((mul_Mul.f k l1 l2).bind fun t264 => ((mul_Mul.f k l0 t264).bind fun t267 => ((figureheadref01_Same.f k t261 t267).bind fun t270 => (if t270 = true then ((mul_Mul.f k l0 ([] : List Int)).bind fun t271 => (some ((t271.length : Int) == 0))) else (some false))))))) else (some false))))) else (some false))))) else (some false)))))) = some r := H
    have A11 := Aside0.mk A110
    clear A110
    replace H := Option.bind_eq_some_iff.mp H
    obtain ⟨t238, A120, H⟩ := H
    replace H : ((figureheadref01_Text.f k t238).bind fun t241 => ((figureheadref01_Plus.f k t237 t241).bind fun t242 => ((figureheadlaw02_answers.f k).bind fun t243 => (if t243 = true then ((mul_Mul.f k l0 l1).bind fun t244 => ((mul_Mul.f k l1 l0).bind fun t247 => ((figureheadref01_Same.f k t244 t247).bind fun t250 => (if t250 = true then ((mul_Mul.f k l0 t231).bind fun t251 => ((figureheadref01_Number.f k t242).bind fun t254 => ((figureheadref01_Same.f k t251 t254).bind fun t257 => (if t257 = true then ((mul_Mul.f k l0 l1).bind fun t258 => ((mul_Mul.f k t258 l2).bind fun t261 => ((mul_Mul.f k l1 l2).bind fun t264 => ((mul_Mul.f k l0 t264).bind fun t267 => ((figureheadref01_Same.f k t261 t267).bind fun t270 => (if t270 = true then ((mul_Mul.f k l0 ([] : List Int)).bind fun t271 => (some ((t271.length : Int) == 0))) else (some false))))))) else (some false))))) else (some false))))) else (some false))))) = some r := H
    have A12 := Aside0.mk A120
    clear A120
    replace H := Option.bind_eq_some_iff.mp H
    obtain ⟨t241, A130, H⟩ := H
    replace H : ((figureheadref01_Plus.f k t237 t241).bind fun t242 => ((figureheadlaw02_answers.f k).bind fun t243 => (if t243 = true then ((mul_Mul.f k l0 l1).bind fun t244 => ((mul_Mul.f k l1 l0).bind fun t247 => ((figureheadref01_Same.f k t244 t247).bind fun t250 => (if t250 = true then ((mul_Mul.f k l0 t231).bind fun t251 => ((figureheadref01_Number.f k t242).bind fun t254 => ((figureheadref01_Same.f k t251 t254).bind fun t257 => (if t257 = true then ((mul_Mul.f k l0 l1).bind fun t258 => ((mul_Mul.f k t258 l2).bind fun t261 => ((mul_Mul.f k l1 l2).bind fun t264 => ((mul_Mul.f k l0 t264).bind fun t267 => ((figureheadref01_Same.f k t261 t267).bind fun t270 => (if t270 = true then ((mul_Mul.f k l0 ([] : List Int)).bind fun t271 => (some ((t271.length : Int) == 0))) else (some false))))))) else (some false))))) else (some false))))) else (some false)))) = some r := H
    have A13 := Aside0.mk A130
    clear A130
    replace H := Option.bind_eq_some_iff.mp H
    obtain ⟨t242, A140, H⟩ := H
    replace H : ((figureheadlaw02_answers.f k).bind fun t243 => (if t243 = true then ((mul_Mul.f k l0 l1).bind fun t244 => ((mul_Mul.f k l1 l0).bind fun t247 => ((figureheadref01_Same.f k t244 t247).bind fun t250 => (if t250 = true then ((mul_Mul.f k l0 t231).bind fun t251 => ((figureheadref01_Number.f k t242).bind fun t254 => ((figureheadref01_Same.f k t251 t254).bind fun t257 => (if t257 = true then ((mul_Mul.f k l0 l1).bind fun t258 => ((mul_Mul.f k t258 l2).bind fun t261 => ((mul_Mul.f k l1 l2).bind fun t264 => ((mul_Mul.f k l0 t264).bind fun t267 => ((figureheadref01_Same.f k t261 t267).bind fun t270 => (if t270 = true then ((mul_Mul.f k l0 ([] : List Int)).bind fun t271 => (some ((t271.length : Int) == 0))) else (some false))))))) else (some false))))) else (some false))))) else (some false))) = some r := H
    have A14 := Aside0.mk A140
    clear A140
    replace H := Option.bind_eq_some_iff.mp H
    obtain ⟨t243, A150, H⟩ := H
    replace H : (if t243 = true then ((mul_Mul.f k l0 l1).bind fun t244 => ((mul_Mul.f k l1 l0).bind fun t247 => ((figureheadref01_Same.f k t244 t247).bind fun t250 => (if t250 = true then ((mul_Mul.f k l0 t231).bind fun t251 => ((figureheadref01_Number.f k t242).bind fun t254 => ((figureheadref01_Same.f k t251 t254).bind fun t257 => (if t257 = true then ((mul_Mul.f k l0 l1).bind fun t258 => ((mul_Mul.f k t258 l2).bind fun t261 => ((mul_Mul.f k l1 l2).bind fun t264 => ((mul_Mul.f k l0 t264).bind fun t267 => ((figureheadref01_Same.f k t261 t267).bind fun t270 => (if t270 = true then ((mul_Mul.f k l0 ([] : List Int)).bind fun t271 => (some ((t271.length : Int) == 0))) else (some false))))))) else (some false))))) else (some false))))) else (some false)) = some r := H
    have A15 := Aside0.mk A150
    clear A150
    by_cases c16 : t243 = true
    · subst c16
      have H1 : ((mul_Mul.f k l0 l1).bind fun t244 => ((mul_Mul.f k l1 l0).bind fun t247 => ((figureheadref01_Same.f k t244 t247).bind fun t250 => (if t250 = true then ((mul_Mul.f k l0 t231).bind fun t251 => ((figureheadref01_Number.f k t242).bind fun t254 => ((figureheadref01_Same.f k t251 t254).bind fun t257 => (if t257 = true then ((mul_Mul.f k l0 l1).bind fun t258 => ((mul_Mul.f k t258 l2).bind fun t261 => ((mul_Mul.f k l1 l2).bind fun t264 => ((mul_Mul.f k l0 t264).bind fun t267 => ((figureheadref01_Same.f k t261 t267).bind fun t270 => (if t270 = true then ((mul_Mul.f k l0 ([] : List Int)).bind fun t271 => (some ((t271.length : Int) == 0))) else (some false))))))) else (some false))))) else (some false))))) = some r := by rw [if_pos rfl] at H; exact H
      clear H
      have H := H1
      clear H1
      replace H := Option.bind_eq_some_iff.mp H
      obtain ⟨t244, A170, H⟩ := H
      replace H : ((mul_Mul.f k l1 l0).bind fun t247 => ((figureheadref01_Same.f k t244 t247).bind fun t250 => (if t250 = true then ((mul_Mul.f k l0 t231).bind fun t251 => ((figureheadref01_Number.f k t242).bind fun t254 => ((figureheadref01_Same.f k t251 t254).bind fun t257 => (if t257 = true then ((mul_Mul.f k l0 l1).bind fun t258 => ((mul_Mul.f k t258 l2).bind fun t261 => ((mul_Mul.f k l1 l2).bind fun t264 => ((mul_Mul.f k l0 t264).bind fun t267 => ((figureheadref01_Same.f k t261 t267).bind fun t270 => (if t270 = true then ((mul_Mul.f k l0 ([] : List Int)).bind fun t271 => (some ((t271.length : Int) == 0))) else (some false))))))) else (some false))))) else (some false)))) = some r := H
      have A17 := Aside0.mk A170
      clear A170
      replace H := Option.bind_eq_some_iff.mp H
      obtain ⟨t247, A180, H⟩ := H
      replace H : ((figureheadref01_Same.f k t244 t247).bind fun t250 => (if t250 = true then ((mul_Mul.f k l0 t231).bind fun t251 => ((figureheadref01_Number.f k t242).bind fun t254 => ((figureheadref01_Same.f k t251 t254).bind fun t257 => (if t257 = true then ((mul_Mul.f k l0 l1).bind fun t258 => ((mul_Mul.f k t258 l2).bind fun t261 => ((mul_Mul.f k l1 l2).bind fun t264 => ((mul_Mul.f k l0 t264).bind fun t267 => ((figureheadref01_Same.f k t261 t267).bind fun t270 => (if t270 = true then ((mul_Mul.f k l0 ([] : List Int)).bind fun t271 => (some ((t271.length : Int) == 0))) else (some false))))))) else (some false))))) else (some false))) = some r := H
      have A18 := Aside0.mk A180
      clear A180
      replace H := Option.bind_eq_some_iff.mp H
      obtain ⟨t250, A190, H⟩ := H
      replace H : (if t250 = true then ((mul_Mul.f k l0 t231).bind fun t251 => ((figureheadref01_Number.f k t242).bind fun t254 => ((figureheadref01_Same.f k t251 t254).bind fun t257 => (if t257 = true then ((mul_Mul.f k l0 l1).bind fun t258 => ((mul_Mul.f k t258 l2).bind fun t261 => ((mul_Mul.f k l1 l2).bind fun t264 => ((mul_Mul.f k l0 t264).bind fun t267 => ((figureheadref01_Same.f k t261 t267).bind fun t270 => (if t270 = true then ((mul_Mul.f k l0 ([] : List Int)).bind fun t271 => (some ((t271.length : Int) == 0))) else (some false))))))) else (some false))))) else (some false)) = some r := H
      have A19 := Aside0.mk A190
      clear A190
      by_cases c20 : t250 = true
      · subst c20
        have H1 : ((mul_Mul.f k l0 t231).bind fun t251 => ((figureheadref01_Number.f k t242).bind fun t254 => ((figureheadref01_Same.f k t251 t254).bind fun t257 => (if t257 = true then ((mul_Mul.f k l0 l1).bind fun t258 => ((mul_Mul.f k t258 l2).bind fun t261 => ((mul_Mul.f k l1 l2).bind fun t264 => ((mul_Mul.f k l0 t264).bind fun t267 => ((figureheadref01_Same.f k t261 t267).bind fun t270 => (if t270 = true then ((mul_Mul.f k l0 ([] : List Int)).bind fun t271 => (some ((t271.length : Int) == 0))) else (some false))))))) else (some false))))) = some r := by rw [if_pos rfl] at H; exact H
        clear H
        have H := H1
        clear H1
        replace H := Option.bind_eq_some_iff.mp H
        obtain ⟨t251, A210, H⟩ := H
        replace H : ((figureheadref01_Number.f k t242).bind fun t254 => ((figureheadref01_Same.f k t251 t254).bind fun t257 => (if t257 = true then ((mul_Mul.f k l0 l1).bind fun t258 => ((mul_Mul.f k t258 l2).bind fun t261 => ((mul_Mul.f k l1 l2).bind fun t264 => ((mul_Mul.f k l0 t264).bind fun t267 => ((figureheadref01_Same.f k t261 t267).bind fun t270 => (if t270 = true then ((mul_Mul.f k l0 ([] : List Int)).bind fun t271 => (some ((t271.length : Int) == 0))) else (some false))))))) else (some false)))) = some r := H
        have A21 := Aside0.mk A210
        clear A210
        replace H := Option.bind_eq_some_iff.mp H
        obtain ⟨t254, A220, H⟩ := H
        replace H : ((figureheadref01_Same.f k t251 t254).bind fun t257 => (if t257 = true then ((mul_Mul.f k l0 l1).bind fun t258 => ((mul_Mul.f k t258 l2).bind fun t261 => ((mul_Mul.f k l1 l2).bind fun t264 => ((mul_Mul.f k l0 t264).bind fun t267 => ((figureheadref01_Same.f k t261 t267).bind fun t270 => (if t270 = true then ((mul_Mul.f k l0 ([] : List Int)).bind fun t271 => (some ((t271.length : Int) == 0))) else (some false))))))) else (some false))) = some r := H
        have A22 := Aside0.mk A220
        clear A220
        replace H := Option.bind_eq_some_iff.mp H
        obtain ⟨t257, A230, H⟩ := H
        replace H : (if t257 = true then ((mul_Mul.f k l0 l1).bind fun t258 => ((mul_Mul.f k t258 l2).bind fun t261 => ((mul_Mul.f k l1 l2).bind fun t264 => ((mul_Mul.f k l0 t264).bind fun t267 => ((figureheadref01_Same.f k t261 t267).bind fun t270 => (if t270 = true then ((mul_Mul.f k l0 ([] : List Int)).bind fun t271 => (some ((t271.length : Int) == 0))) else (some false))))))) else (some false)) = some r := H
        have A23 := Aside0.mk A230
        clear A230
        by_cases c24 : t257 = true
        · subst c24
          have H1 : ((mul_Mul.f k l0 l1).bind fun t258 => ((mul_Mul.f k t258 l2).bind fun t261 => ((mul_Mul.f k l1 l2).bind fun t264 => ((mul_Mul.f k l0 t264).bind fun t267 => ((figureheadref01_Same.f k t261 t267).bind fun t270 => (if t270 = true then ((mul_Mul.f k l0 ([] : List Int)).bind fun t271 => (some ((t271.length : Int) == 0))) else (some false))))))) = some r := by rw [if_pos rfl] at H; exact H
          clear H
          have H := H1
          clear H1
          replace H := Option.bind_eq_some_iff.mp H
          obtain ⟨t258, A250, H⟩ := H
          replace H : ((mul_Mul.f k t258 l2).bind fun t261 => ((mul_Mul.f k l1 l2).bind fun t264 => ((mul_Mul.f k l0 t264).bind fun t267 => ((figureheadref01_Same.f k t261 t267).bind fun t270 => (if t270 = true then ((mul_Mul.f k l0 ([] : List Int)).bind fun t271 => (some ((t271.length : Int) == 0))) else (some false)))))) = some r := H
          have A25 := Aside0.mk A250
          clear A250
          replace H := Option.bind_eq_some_iff.mp H
          obtain ⟨t261, A260, H⟩ := H
          replace H : ((mul_Mul.f k l1 l2).bind fun t264 => ((mul_Mul.f k l0 t264).bind fun t267 => ((figureheadref01_Same.f k t261 t267).bind fun t270 => (if t270 = true then ((mul_Mul.f k l0 ([] : List Int)).bind fun t271 => (some ((t271.length : Int) == 0))) else (some false))))) = some r := H
          have A26 := Aside0.mk A260
          clear A260
          replace H := Option.bind_eq_some_iff.mp H
          obtain ⟨t264, A270, H⟩ := H
          replace H : ((mul_Mul.f k l0 t264).bind fun t267 => ((figureheadref01_Same.f k t261 t267).bind fun t270 => (if t270 = true then ((mul_Mul.f k l0 ([] : List Int)).bind fun t271 => (some ((t271.length : Int) == 0))) else (some false)))) = some r := H
          have A27 := Aside0.mk A270
          clear A270
          replace H := Option.bind_eq_some_iff.mp H
          obtain ⟨t267, A280, H⟩ := H
          replace H : ((figureheadref01_Same.f k t261 t267).bind fun t270 => (if t270 = true then ((mul_Mul.f k l0 ([] : List Int)).bind fun t271 => (some ((t271.length : Int) == 0))) else (some false))) = some r := H
          have A28 := Aside0.mk A280
          clear A280
          replace H := Option.bind_eq_some_iff.mp H
          obtain ⟨t270, A290, H⟩ := H
          replace H : (if t270 = true then ((mul_Mul.f k l0 ([] : List Int)).bind fun t271 => (some ((t271.length : Int) == 0))) else (some false)) = some r := H
          have A29 := Aside0.mk A290
          clear A290
          by_cases c30 : t270 = true
          · subst c30
            have H1 : ((mul_Mul.f k l0 ([] : List Int)).bind fun t271 => (some ((t271.length : Int) == 0))) = some r := by rw [if_pos rfl] at H; exact H
            clear H
            have H := H1
            clear H1
            replace H := Option.bind_eq_some_iff.mp H
            obtain ⟨t271, A310, H⟩ := H
            replace H : (some ((t271.length : Int) == 0)) = some r := H
            have A31 := Aside0.mk A310
            clear A310
            obtain rfl := Option.some.inj H
            go_enter Try.func5, Try.ntmps5
            go_wp2_with (first | ((with_reducible refine gate_dst (N := 12) rfl ?_); (try (refine gate_guard (by rfl) ?_; dsimp only)); refine Kd.N_lit (Kd.slice 30 (Kd.int .u32)) _ 22 ?hg (N' := 12) ?hd (xs := ([l0, l1, l2] : List (List Int))) (inner := [.slice A0 l0.length c0, .slice A1 l1.length c1, .slice A2 l2.length c2]) (ok := (fun k_ => ((P0_ k_ ∨ P1_ k_ ∨ P2_ k_) ∨ w.heap.size ≤ k_))) (okp := (fun k_ => ((P0_ k_ ∨ P1_ k_ ∨ P2_ k_) ∨ w.heap.size ≤ k_))) ?hr ?hp (fun _ hk => hk) ((show ∀ k_, w.heap.size ≤ k_ → (fun k_ => ((P0_ k_ ∨ P1_ k_ ∨ P2_ k_) ∨ w.heap.size ≤ k_)) k_ from fun k_ hk => (.inr (Nat.le_trans (below_size (by repeat (first | (with_reducible first | exact HB.out | apply below_alloc | apply pw_below_drewN | apply below_drew1) | exact HB.out))) hk))) _ (Nat.le_refl _)) (Below.refl _ _) (Nat.le_refl _) (by simp) ?_; (case hd => rfl); (case hg => rfl); (case hr => first | (go_simp; done) | (go_simp; rfl)); (case hp => exact (Reps.one (show Kd.FK (Kd.slice 30 (Kd.int .u32)) _ _ l0 [.slice A0 l0.length c0] from (Kd.FK_slice_mk (Kd.V_reads' (Kd.V_mono (ok' := (fun k_ => ((P0_ k_ ∨ P1_ k_ ∨ P2_ k_) ∨ w.heap.size ≤ k_))) (HO0.out) (fun k_ hk => hk))).2.1 (Kd.V_F (Kd.V_mono (ok' := (fun k_ => ((P0_ k_ ∨ P1_ k_ ∨ P2_ k_) ∨ w.heap.size ≤ k_))) (HO0.out) (fun k_ hk => hk))))) (Reps.one (show Kd.FK (Kd.slice 30 (Kd.int .u32)) _ _ l1 [.slice A1 l1.length c1] from (Kd.FK_slice_mk (Kd.V_reads' (Kd.V_mono (ok' := (fun k_ => ((P0_ k_ ∨ P1_ k_ ∨ P2_ k_) ∨ w.heap.size ≤ k_))) (HO1.out) (fun k_ hk => hk))).2.1 (Kd.V_F (Kd.V_mono (ok' := (fun k_ => ((P0_ k_ ∨ P1_ k_ ∨ P2_ k_) ∨ w.heap.size ≤ k_))) (HO1.out) (fun k_ hk => hk))))) (Reps.one (show Kd.FK (Kd.slice 30 (Kd.int .u32)) _ _ l2 [.slice A2 l2.length c2] from (Kd.FK_slice_mk (Kd.V_reads' (Kd.V_mono (ok' := (fun k_ => ((P0_ k_ ∨ P1_ k_ ∨ P2_ k_) ∨ w.heap.size ≤ k_))) (HO2.out) (fun k_ hk => hk))).2.1 (Kd.V_F (Kd.V_mono (ok' := (fun k_ => ((P0_ k_ ∨ P1_ k_ ∨ P2_ k_) ∨ w.heap.size ≤ k_))) (HO2.out) (fun k_ hk => hk))))) (Reps.none _ _))))); intro v224 w32 ho33 hb hg_ hnew_; clear hg_ hnew_; (first | rw [← Ny223.out] at ho33 | (simp only [Int.reduceToNat] at ho33; rw [← Ny223.out] at ho33)); have n0_ := Aside0.mk (Kd.V_elder' (by (with_reducible repeat (first | apply Kd.V_alloc | apply Kd.V_drewN | apply Kd.V_drew)); exact HO0.out) (Kd.N_base ho33) hb); have n1_ := Aside0.mk (Kd.V_elder' (by (with_reducible repeat (first | apply Kd.V_alloc | apply Kd.V_drewN | apply Kd.V_drew)); exact HO1.out) (Kd.N_base ho33) hb); have n2_ := Aside0.mk (Kd.V_elder' (by (with_reducible repeat (first | apply Kd.V_alloc | apply Kd.V_drewN | apply Kd.V_drew)); exact HO2.out) (Kd.N_base ho33) hb); have n3_ := Aside0.mk (Kd.N_lower ho33 (below_size (by repeat (first | (with_reducible first | exact HB.out | apply below_alloc | apply pw_below_drewN | apply below_drew1) | exact HB.out)))); have n4_ := Aside0.mk (below_step (by repeat (first | (with_reducible first | exact HB.out | apply below_alloc | apply pw_below_drewN | apply below_drew1) | exact HB.out)) hb); clear HO0; clear HO1; clear HO2; clear HB; have HO0 := n0_; have HO1 := n1_; have HO2 := n2_; have HO225 := n3_; have HB := n4_; clear n0_ n1_ n2_ n3_ n4_; clear hb ho33; obtain ⟨Ao34, co34, eo34⟩ := Kd.N_slice HO225.out; subst eo34) | ((with_reducible refine gate_callee (f := 15) rfl ?_); refine goesL_ (some 13) rfl rfl Try.func15 (by kernel_rfl) rfl #[.slice Ao34 y223.length co34] rfl (by (try simp only [List.map_toArray, List.map_cons, List.map_nil]); first | done | rfl | (simp only [List.length_drop, List.length_take]; rfl)) ?_; (with_reducible refine (figureheadlaw02_good.calls k _ _ y223 true _ ?side1 ?side2 A4.out).mono ?_); (case side1 => repeat (first | exact (Kd.N_reads' HO225.out).2.2 | (with_reducible refine Kd.C_alloc ?_ _) | (with_reducible refine Kd.C_drewN ?_ _) | (with_reducible refine Kd.C_drew ?_))); (case side2 => exact (Kd.N_reads' HO225.out).2.1); rintro e w' ⟨rfl, ⟨nd, rfl⟩⟩; refine ⟨_, rfl, ?_⟩) | ((with_reducible refine gate_callee (f := 21) rfl ?_); refine goesL_ (some 17) rfl rfl Try.func21 (by kernel_rfl) rfl #[.slice A1 l1.length c1] rfl (by (try simp only [List.map_toArray, List.map_cons, List.map_nil]); first | done | rfl | (simp only [List.length_drop, List.length_take]; rfl)) ?_; (with_reducible refine (figureheadref01_Text.calls k _ _ l1 t228 _ ?side1 ?side2 A6.out).mono ?_); (case side1 => repeat (first | exact (Kd.V_reads' HO1.out).2.2 | (with_reducible refine Kd.C_alloc ?_ _) | (with_reducible refine Kd.C_drewN ?_ _) | (with_reducible refine Kd.C_drew ?_))); (case side2 => exact (Kd.V_reads' HO1.out).2.1); rintro e w35 ⟨rfl, hb⟩; refine ⟨_, rfl, ?_⟩; have n0_ := Aside0.mk (Kd.V_below (by (with_reducible repeat (first | apply Kd.V_alloc | apply Kd.V_drewN | apply Kd.V_drew)); exact HO0.out) hb); have n1_ := Aside0.mk (Kd.V_below (by (with_reducible repeat (first | apply Kd.V_alloc | apply Kd.V_drewN | apply Kd.V_drew)); exact HO1.out) hb); have n2_ := Aside0.mk (Kd.V_below (by (with_reducible repeat (first | apply Kd.V_alloc | apply Kd.V_drewN | apply Kd.V_drew)); exact HO2.out) hb); have n3_ := Aside0.mk (Kd.N_below (by (with_reducible repeat (first | apply Kd.N_alloc | apply Kd.N_drewN | apply Kd.N_drew)); exact HO225.out) hb); have n4_ := Aside0.mk (below_step (by repeat (first | (with_reducible first | exact HB.out | apply below_alloc | apply pw_below_drewN | apply below_drew1) | exact HB.out)) hb); clear HO0; clear HO1; clear HO2; clear HO225; clear HB; have HO0 := n0_; have HO1 := n1_; have HO2 := n2_; have HO225 := n3_; have HB := n4_; clear n0_ n1_ n2_ n3_ n4_; (try clear hb); (try clear hb2); (try clear hk); (try clear hi)) | ((with_reducible refine gate_callee (f := 21) rfl ?_); refine goesL_ (some 19) rfl rfl Try.func21 (by kernel_rfl) rfl #[.slice A2 l2.length c2] rfl (by (try simp only [List.map_toArray, List.map_cons, List.map_nil]); first | done | rfl | (simp only [List.length_drop, List.length_take]; rfl)) ?_; (with_reducible refine (figureheadref01_Text.calls k _ _ l2 t229 _ ?side1 ?side2 A7.out).mono ?_); (case side1 => repeat (first | exact (Kd.V_reads' HO2.out).2.2 | (with_reducible refine Kd.C_alloc ?_ _) | (with_reducible refine Kd.C_drewN ?_ _) | (with_reducible refine Kd.C_drew ?_))); (case side2 => exact (Kd.V_reads' HO2.out).2.1); rintro e w36 ⟨rfl, hb⟩; refine ⟨_, rfl, ?_⟩; have n0_ := Aside0.mk (Kd.V_below (by (with_reducible repeat (first | apply Kd.V_alloc | apply Kd.V_drewN | apply Kd.V_drew)); exact HO0.out) hb); have n1_ := Aside0.mk (Kd.V_below (by (with_reducible repeat (first | apply Kd.V_alloc | apply Kd.V_drewN | apply Kd.V_drew)); exact HO1.out) hb); have n2_ := Aside0.mk (Kd.V_below (by (with_reducible repeat (first | apply Kd.V_alloc | apply Kd.V_drewN | apply Kd.V_drew)); exact HO2.out) hb); have n3_ := Aside0.mk (Kd.N_below (by (with_reducible repeat (first | apply Kd.N_alloc | apply Kd.N_drewN | apply Kd.N_drew)); exact HO225.out) hb); have n4_ := Aside0.mk (below_step (by repeat (first | (with_reducible first | exact HB.out | apply below_alloc | apply pw_below_drewN | apply below_drew1) | exact HB.out)) hb); clear HO0; clear HO1; clear HO2; clear HO225; clear HB; have HO0 := n0_; have HO1 := n1_; have HO2 := n2_; have HO225 := n3_; have HB := n4_; clear n0_ n1_ n2_ n3_ n4_; (try clear hb); (try clear hb2); (try clear hk); (try clear hi)) | ((with_reducible refine gate_callee (f := 22) rfl ?_); refine goesL_ (some 20) rfl rfl Try.func22 (by kernel_rfl) rfl #[.string t228, .string t229] rfl (by (try simp only [List.map_toArray, List.map_cons, List.map_nil]); first | done | rfl | (simp only [List.length_drop, List.length_take]; rfl)) ?_; (with_reducible refine (figureheadref01_Plus.calls k t228 t229 t230 _ A8.out).mono ?_); rintro e w37 ⟨rfl, hb⟩; refine ⟨_, rfl, ?_⟩; have n0_ := Aside0.mk (Kd.V_below (by (with_reducible repeat (first | apply Kd.V_alloc | apply Kd.V_drewN | apply Kd.V_drew)); exact HO0.out) hb); have n1_ := Aside0.mk (Kd.V_below (by (with_reducible repeat (first | apply Kd.V_alloc | apply Kd.V_drewN | apply Kd.V_drew)); exact HO1.out) hb); have n2_ := Aside0.mk (Kd.V_below (by (with_reducible repeat (first | apply Kd.V_alloc | apply Kd.V_drewN | apply Kd.V_drew)); exact HO2.out) hb); have n3_ := Aside0.mk (Kd.N_below (by (with_reducible repeat (first | apply Kd.N_alloc | apply Kd.N_drewN | apply Kd.N_drew)); exact HO225.out) hb); have n4_ := Aside0.mk (below_step (by repeat (first | (with_reducible first | exact HB.out | apply below_alloc | apply pw_below_drewN | apply below_drew1) | exact HB.out)) hb); clear HO0; clear HO1; clear HO2; clear HO225; clear HB; have HO0 := n0_; have HO1 := n1_; have HO2 := n2_; have HO225 := n3_; have HB := n4_; clear n0_ n1_ n2_ n3_ n4_; (try clear hb); (try clear hb2); (try clear hk); (try clear hi)) | ((with_reducible refine gate_callee (f := 19) rfl ?_); refine goesL_ (some 21) rfl rfl Try.func19 (by kernel_rfl) rfl #[.string t230] rfl (by (try simp only [List.map_toArray, List.map_cons, List.map_nil]); first | done | rfl | (simp only [List.length_drop, List.length_take]; rfl)) ?_; (with_reducible refine (figureheadref01_Number.calls k t230 t231 _ A9.out).mono ?_); rintro e w38 ⟨v232, rfl, ho0, hb⟩; refine ⟨_, rfl, ?_⟩; have n0_ := Aside0.mk (Kd.V_elder' (by (with_reducible repeat (first | apply Kd.V_alloc | apply Kd.V_drewN | apply Kd.V_drew)); exact HO0.out) (Kd.R_base ho0) hb); have n1_ := Aside0.mk (Kd.V_elder' (by (with_reducible repeat (first | apply Kd.V_alloc | apply Kd.V_drewN | apply Kd.V_drew)); exact HO1.out) (Kd.R_base ho0) hb); have n2_ := Aside0.mk (Kd.V_elder' (by (with_reducible repeat (first | apply Kd.V_alloc | apply Kd.V_drewN | apply Kd.V_drew)); exact HO2.out) (Kd.R_base ho0) hb); have n3_ := Aside0.mk (Kd.N_elder' (by (with_reducible repeat (first | apply Kd.N_alloc | apply Kd.N_drewN | apply Kd.N_drew)); exact HO225.out) (Kd.R_base ho0) hb); have n4_ := Aside0.mk (Kd.R_lower (Kd.R_newM (M := fun k_ => (w.heap.size ≤ k_)) ho0 (below_size (by repeat (first | (with_reducible first | exact HB.out | apply below_alloc | apply pw_below_drewN | apply below_drew1) | exact HB.out))) (fun k_ h_ => h_)) (below_size (by repeat (first | (with_reducible first | exact HB.out | apply below_alloc | apply pw_below_drewN | apply below_drew1) | exact HB.out)))); have n5_ := Aside0.mk (below_step (by repeat (first | (with_reducible first | exact HB.out | apply below_alloc | apply pw_below_drewN | apply below_drew1) | exact HB.out)) hb); clear HO0; clear HO1; clear HO2; clear HO225; clear HB; have HO0 := n0_; have HO1 := n1_; have HO2 := n2_; have HO225 := n3_; have HO233 := n4_; have HB := n5_; clear n0_ n1_ n2_ n3_ n4_ n5_; (try clear hb); (try clear hb2); (try clear hk); (try clear hi); (try clear ho0)) | ((with_reducible refine gate_callee (f := 18) rfl ?_); refine goesL_ (some 24) rfl rfl Try.func18 (by kernel_rfl) rfl #[.slice A0 l0.length c0, .slice A1 l1.length c1] rfl (by (try simp only [List.map_toArray, List.map_cons, List.map_nil]); first | done | rfl | (simp only [List.length_drop, List.length_take]; rfl)) ?_; (with_reducible refine (mul_Mul.calls k _ _ l0 _ _ l1 t234 _ ?side1 ?side2 ?side3 ?side4 A10.out).mono ?_); (case side1 => repeat (first | exact (Kd.V_reads' HO0.out).2.2 | (with_reducible refine Kd.C_alloc ?_ _) | (with_reducible refine Kd.C_drewN ?_ _) | (with_reducible refine Kd.C_drew ?_))); (case side2 => exact (Kd.V_reads' HO0.out).2.1); (case side3 => repeat (first | exact (Kd.V_reads' HO1.out).2.2 | (with_reducible refine Kd.C_alloc ?_ _) | (with_reducible refine Kd.C_drewN ?_ _) | (with_reducible refine Kd.C_drew ?_))); (case side4 => exact (Kd.V_reads' HO1.out).2.1); rintro e w39 ⟨v235, rfl, ho0, hb⟩; refine ⟨_, rfl, ?_⟩; have n0_ := Aside0.mk (Kd.V_elder' (by (with_reducible repeat (first | apply Kd.V_alloc | apply Kd.V_drewN | apply Kd.V_drew)); exact HO0.out) (Kd.R_base ho0) hb); have n1_ := Aside0.mk (Kd.V_elder' (by (with_reducible repeat (first | apply Kd.V_alloc | apply Kd.V_drewN | apply Kd.V_drew)); exact HO1.out) (Kd.R_base ho0) hb); have n2_ := Aside0.mk (Kd.V_elder' (by (with_reducible repeat (first | apply Kd.V_alloc | apply Kd.V_drewN | apply Kd.V_drew)); exact HO2.out) (Kd.R_base ho0) hb); have n3_ := Aside0.mk (Kd.N_elder' (by (with_reducible repeat (first | apply Kd.N_alloc | apply Kd.N_drewN | apply Kd.N_drew)); exact HO225.out) (Kd.R_base ho0) hb); have n4_ := Aside0.mk (Kd.R_elder' (by (with_reducible repeat (first | apply Kd.R_alloc | apply Kd.R_drewN | apply Kd.R_drew)); exact HO233.out) (Kd.R_base ho0) hb); have n5_ := Aside0.mk (Kd.R_lower (Kd.R_new' (Kd.R_newM (M := fun k_ => (w.heap.size ≤ k_)) ho0 (below_size (by repeat (first | (with_reducible first | exact HB.out | apply below_alloc | apply pw_below_drewN | apply below_drew1) | exact HB.out))) (fun k_ h_ => h_)) (Kd.R_lt (by (with_reducible repeat (first | apply Kd.R_alloc | apply Kd.R_drewN | apply Kd.R_drew)); exact HO233.out))) (below_size (by repeat (first | (with_reducible first | exact HB.out | apply below_alloc | apply pw_below_drewN | apply below_drew1) | exact HB.out)))); have n6_ := Aside0.mk (below_step (by repeat (first | (with_reducible first | exact HB.out | apply below_alloc | apply pw_below_drewN | apply below_drew1) | exact HB.out)) hb); clear HO0; clear HO1; clear HO2; clear HO225; clear HO233; clear HB; have HO0 := n0_; have HO1 := n1_; have HO2 := n2_; have HO225 := n3_; have HO233 := n4_; have HO236 := n5_; have HB := n6_; clear n0_ n1_ n2_ n3_ n4_ n5_ n6_; (try clear hb); (try clear hb2); (try clear hk); (try clear hi); (try clear ho0); obtain ⟨Ao40, co40, eo40⟩ := Kd.R_slice HO236.out; subst eo40) | ((with_reducible refine gate_callee (f := 21) rfl ?_); refine goesL_ (some 25) rfl rfl Try.func21 (by kernel_rfl) rfl #[.slice Ao40 t234.length co40] rfl (by (try simp only [List.map_toArray, List.map_cons, List.map_nil]); first | done | rfl | (simp only [List.length_drop, List.length_take]; rfl)) ?_; (with_reducible refine (figureheadref01_Text.calls k _ _ t234 t237 _ ?side1 ?side2 A11.out).mono ?_); (case side1 => repeat (first | exact (Kd.R_reads' HO236.out).2.2 | (with_reducible refine Kd.C_alloc ?_ _) | (with_reducible refine Kd.C_drewN ?_ _) | (with_reducible refine Kd.C_drew ?_))); (case side2 => exact (Kd.R_reads' HO236.out).2.1); rintro e w41 ⟨rfl, hb⟩; refine ⟨_, rfl, ?_⟩; have n0_ := Aside0.mk (Kd.V_below (by (with_reducible repeat (first | apply Kd.V_alloc | apply Kd.V_drewN | apply Kd.V_drew)); exact HO0.out) hb); have n1_ := Aside0.mk (Kd.V_below (by (with_reducible repeat (first | apply Kd.V_alloc | apply Kd.V_drewN | apply Kd.V_drew)); exact HO1.out) hb); have n2_ := Aside0.mk (Kd.V_below (by (with_reducible repeat (first | apply Kd.V_alloc | apply Kd.V_drewN | apply Kd.V_drew)); exact HO2.out) hb); have n3_ := Aside0.mk (Kd.N_below (by (with_reducible repeat (first | apply Kd.N_alloc | apply Kd.N_drewN | apply Kd.N_drew)); exact HO225.out) hb); have n4_ := Aside0.mk (Kd.R_below (by (with_reducible repeat (first | apply Kd.R_alloc | apply Kd.R_drewN | apply Kd.R_drew)); exact HO233.out) hb); have n5_ := Aside0.mk (Kd.R_below (by (with_reducible repeat (first | apply Kd.R_alloc | apply Kd.R_drewN | apply Kd.R_drew)); exact HO236.out) hb); have n6_ := Aside0.mk (below_step (by repeat (first | (with_reducible first | exact HB.out | apply below_alloc | apply pw_below_drewN | apply below_drew1) | exact HB.out)) hb); clear HO0; clear HO1; clear HO2; clear HO225; clear HO233; clear HO236; clear HB; have HO0 := n0_; have HO1 := n1_; have HO2 := n2_; have HO225 := n3_; have HO233 := n4_; have HO236 := n5_; have HB := n6_; clear n0_ n1_ n2_ n3_ n4_ n5_ n6_; (try clear hb); (try clear hb2); (try clear hk); (try clear hi)) | ((with_reducible refine gate_callee (f := 18) rfl ?_); refine goesL_ (some 28) rfl rfl Try.func18 (by kernel_rfl) rfl #[.slice A0 l0.length c0, .slice A2 l2.length c2] rfl (by (try simp only [List.map_toArray, List.map_cons, List.map_nil]); first | done | rfl | (simp only [List.length_drop, List.length_take]; rfl)) ?_; (with_reducible refine (mul_Mul.calls k _ _ l0 _ _ l2 t238 _ ?side1 ?side2 ?side3 ?side4 A12.out).mono ?_); (case side1 => repeat (first | exact (Kd.V_reads' HO0.out).2.2 | (with_reducible refine Kd.C_alloc ?_ _) | (with_reducible refine Kd.C_drewN ?_ _) | (with_reducible refine Kd.C_drew ?_))); (case side2 => exact (Kd.V_reads' HO0.out).2.1); (case side3 => repeat (first | exact (Kd.V_reads' HO2.out).2.2 | (with_reducible refine Kd.C_alloc ?_ _) | (with_reducible refine Kd.C_drewN ?_ _) | (with_reducible refine Kd.C_drew ?_))); (case side4 => exact (Kd.V_reads' HO2.out).2.1); rintro e w42 ⟨v239, rfl, ho0, hb⟩; refine ⟨_, rfl, ?_⟩; have n0_ := Aside0.mk (Kd.V_elder' (by (with_reducible repeat (first | apply Kd.V_alloc | apply Kd.V_drewN | apply Kd.V_drew)); exact HO0.out) (Kd.R_base ho0) hb); have n1_ := Aside0.mk (Kd.V_elder' (by (with_reducible repeat (first | apply Kd.V_alloc | apply Kd.V_drewN | apply Kd.V_drew)); exact HO1.out) (Kd.R_base ho0) hb); have n2_ := Aside0.mk (Kd.V_elder' (by (with_reducible repeat (first | apply Kd.V_alloc | apply Kd.V_drewN | apply Kd.V_drew)); exact HO2.out) (Kd.R_base ho0) hb); have n3_ := Aside0.mk (Kd.N_elder' (by (with_reducible repeat (first | apply Kd.N_alloc | apply Kd.N_drewN | apply Kd.N_drew)); exact HO225.out) (Kd.R_base ho0) hb); have n4_ := Aside0.mk (Kd.R_elder' (by (with_reducible repeat (first | apply Kd.R_alloc | apply Kd.R_drewN | apply Kd.R_drew)); exact HO233.out) (Kd.R_base ho0) hb); have n5_ := Aside0.mk (Kd.R_elder' (by (with_reducible repeat (first | apply Kd.R_alloc | apply Kd.R_drewN | apply Kd.R_drew)); exact HO236.out) (Kd.R_base ho0) hb); have n6_ := Aside0.mk (Kd.R_lower (Kd.R_new' (Kd.R_new' (Kd.R_newM (M := fun k_ => (w.heap.size ≤ k_)) ho0 (below_size (by repeat (first | (with_reducible first | exact HB.out | apply below_alloc | apply pw_below_drewN | apply below_drew1) | exact HB.out))) (fun k_ h_ => h_)) (Kd.R_lt (by (with_reducible repeat (first | apply Kd.R_alloc | apply Kd.R_drewN | apply Kd.R_drew)); exact HO233.out))) (Kd.R_lt (by (with_reducible repeat (first | apply Kd.R_alloc | apply Kd.R_drewN | apply Kd.R_drew)); exact HO236.out))) (below_size (by repeat (first | (with_reducible first | exact HB.out | apply below_alloc | apply pw_below_drewN | apply below_drew1) | exact HB.out)))); have n7_ := Aside0.mk (below_step (by repeat (first | (with_reducible first | exact HB.out | apply below_alloc | apply pw_below_drewN | apply below_drew1) | exact HB.out)) hb); clear HO0; clear HO1; clear HO2; clear HO225; clear HO233; clear HO236; clear HB; have HO0 := n0_; have HO1 := n1_; have HO2 := n2_; have HO225 := n3_; have HO233 := n4_; have HO236 := n5_; have HO240 := n6_; have HB := n7_; clear n0_ n1_ n2_ n3_ n4_ n5_ n6_ n7_; (try clear hb); (try clear hb2); (try clear hk); (try clear hi); (try clear ho0); obtain ⟨Ao43, co43, eo43⟩ := Kd.R_slice HO240.out; subst eo43) | ((with_reducible refine gate_callee (f := 21) rfl ?_); refine goesL_ (some 29) rfl rfl Try.func21 (by kernel_rfl) rfl #[.slice Ao43 t238.length co43] rfl (by (try simp only [List.map_toArray, List.map_cons, List.map_nil]); first | done | rfl | (simp only [List.length_drop, List.length_take]; rfl)) ?_; (with_reducible refine (figureheadref01_Text.calls k _ _ t238 t241 _ ?side1 ?side2 A13.out).mono ?_); (case side1 => repeat (first | exact (Kd.R_reads' HO240.out).2.2 | (with_reducible refine Kd.C_alloc ?_ _) | (with_reducible refine Kd.C_drewN ?_ _) | (with_reducible refine Kd.C_drew ?_))); (case side2 => exact (Kd.R_reads' HO240.out).2.1); rintro e w44 ⟨rfl, hb⟩; refine ⟨_, rfl, ?_⟩; have n0_ := Aside0.mk (Kd.V_below (by (with_reducible repeat (first | apply Kd.V_alloc | apply Kd.V_drewN | apply Kd.V_drew)); exact HO0.out) hb); have n1_ := Aside0.mk (Kd.V_below (by (with_reducible repeat (first | apply Kd.V_alloc | apply Kd.V_drewN | apply Kd.V_drew)); exact HO1.out) hb); have n2_ := Aside0.mk (Kd.V_below (by (with_reducible repeat (first | apply Kd.V_alloc | apply Kd.V_drewN | apply Kd.V_drew)); exact HO2.out) hb); have n3_ := Aside0.mk (Kd.N_below (by (with_reducible repeat (first | apply Kd.N_alloc | apply Kd.N_drewN | apply Kd.N_drew)); exact HO225.out) hb); have n4_ := Aside0.mk (Kd.R_below (by (with_reducible repeat (first | apply Kd.R_alloc | apply Kd.R_drewN | apply Kd.R_drew)); exact HO233.out) hb); have n5_ := Aside0.mk (Kd.R_below (by (with_reducible repeat (first | apply Kd.R_alloc | apply Kd.R_drewN | apply Kd.R_drew)); exact HO236.out) hb); have n6_ := Aside0.mk (Kd.R_below (by (with_reducible repeat (first | apply Kd.R_alloc | apply Kd.R_drewN | apply Kd.R_drew)); exact HO240.out) hb); have n7_ := Aside0.mk (below_step (by repeat (first | (with_reducible first | exact HB.out | apply below_alloc | apply pw_below_drewN | apply below_drew1) | exact HB.out)) hb); clear HO0; clear HO1; clear HO2; clear HO225; clear HO233; clear HO236; clear HO240; clear HB; have HO0 := n0_; have HO1 := n1_; have HO2 := n2_; have HO225 := n3_; have HO233 := n4_; have HO236 := n5_; have HO240 := n6_; have HB := n7_; clear n0_ n1_ n2_ n3_ n4_ n5_ n6_ n7_; (try clear hb); (try clear hb2); (try clear hk); (try clear hi)) | ((with_reducible refine gate_callee (f := 22) rfl ?_); refine goesL_ (some 30) rfl rfl Try.func22 (by kernel_rfl) rfl #[.string t237, .string t241] rfl (by (try simp only [List.map_toArray, List.map_cons, List.map_nil]); first | done | rfl | (simp only [List.length_drop, List.length_take]; rfl)) ?_; (with_reducible refine (figureheadref01_Plus.calls k t237 t241 t242 _ A14.out).mono ?_); rintro e w45 ⟨rfl, hb⟩; refine ⟨_, rfl, ?_⟩; have n0_ := Aside0.mk (Kd.V_below (by (with_reducible repeat (first | apply Kd.V_alloc | apply Kd.V_drewN | apply Kd.V_drew)); exact HO0.out) hb); have n1_ := Aside0.mk (Kd.V_below (by (with_reducible repeat (first | apply Kd.V_alloc | apply Kd.V_drewN | apply Kd.V_drew)); exact HO1.out) hb); have n2_ := Aside0.mk (Kd.V_below (by (with_reducible repeat (first | apply Kd.V_alloc | apply Kd.V_drewN | apply Kd.V_drew)); exact HO2.out) hb); have n3_ := Aside0.mk (Kd.N_below (by (with_reducible repeat (first | apply Kd.N_alloc | apply Kd.N_drewN | apply Kd.N_drew)); exact HO225.out) hb); have n4_ := Aside0.mk (Kd.R_below (by (with_reducible repeat (first | apply Kd.R_alloc | apply Kd.R_drewN | apply Kd.R_drew)); exact HO233.out) hb); have n5_ := Aside0.mk (Kd.R_below (by (with_reducible repeat (first | apply Kd.R_alloc | apply Kd.R_drewN | apply Kd.R_drew)); exact HO236.out) hb); have n6_ := Aside0.mk (Kd.R_below (by (with_reducible repeat (first | apply Kd.R_alloc | apply Kd.R_drewN | apply Kd.R_drew)); exact HO240.out) hb); have n7_ := Aside0.mk (below_step (by repeat (first | (with_reducible first | exact HB.out | apply below_alloc | apply pw_below_drewN | apply below_drew1) | exact HB.out)) hb); clear HO0; clear HO1; clear HO2; clear HO225; clear HO233; clear HO236; clear HO240; clear HB; have HO0 := n0_; have HO1 := n1_; have HO2 := n2_; have HO225 := n3_; have HO233 := n4_; have HO236 := n5_; have HO240 := n6_; have HB := n7_; clear n0_ n1_ n2_ n3_ n4_ n5_ n6_ n7_; (try clear hb); (try clear hb2); (try clear hk); (try clear hi)) | ((with_reducible refine gate_callee (f := 16) rfl ?_); refine goesL_ (some 31) rfl rfl Try.func16 (by kernel_rfl) rfl #[] rfl (by (try simp only [List.map_toArray, List.map_cons, List.map_nil]); first | done | rfl | (simp only [List.length_drop, List.length_take]; rfl)) ?_; (with_reducible refine (figureheadlaw02_answers.calls k  true _ ?side1 A15.out).mono ?_); (case side1 => exact ⟨by first | rfl | exact HT.out⟩); rintro e w46 ⟨rfl, hb⟩; refine ⟨_, rfl, ?_⟩; have n0_ := Aside0.mk (Kd.V_below (by (with_reducible repeat (first | apply Kd.V_alloc | apply Kd.V_drewN | apply Kd.V_drew)); exact HO0.out) hb); have n1_ := Aside0.mk (Kd.V_below (by (with_reducible repeat (first | apply Kd.V_alloc | apply Kd.V_drewN | apply Kd.V_drew)); exact HO1.out) hb); have n2_ := Aside0.mk (Kd.V_below (by (with_reducible repeat (first | apply Kd.V_alloc | apply Kd.V_drewN | apply Kd.V_drew)); exact HO2.out) hb); have n3_ := Aside0.mk (Kd.N_below (by (with_reducible repeat (first | apply Kd.N_alloc | apply Kd.N_drewN | apply Kd.N_drew)); exact HO225.out) hb); have n4_ := Aside0.mk (Kd.R_below (by (with_reducible repeat (first | apply Kd.R_alloc | apply Kd.R_drewN | apply Kd.R_drew)); exact HO233.out) hb); have n5_ := Aside0.mk (Kd.R_below (by (with_reducible repeat (first | apply Kd.R_alloc | apply Kd.R_drewN | apply Kd.R_drew)); exact HO236.out) hb); have n6_ := Aside0.mk (Kd.R_below (by (with_reducible repeat (first | apply Kd.R_alloc | apply Kd.R_drewN | apply Kd.R_drew)); exact HO240.out) hb); have n7_ := Aside0.mk (below_step (by repeat (first | (with_reducible first | exact HB.out | apply below_alloc | apply pw_below_drewN | apply below_drew1) | exact HB.out)) hb); clear HO0; clear HO1; clear HO2; clear HO225; clear HO233; clear HO236; clear HO240; clear HB; have HO0 := n0_; have HO1 := n1_; have HO2 := n2_; have HO225 := n3_; have HO233 := n4_; have HO236 := n5_; have HO240 := n6_; have HB := n7_; clear n0_ n1_ n2_ n3_ n4_ n5_ n6_ n7_; (try clear hb); (try clear hb2); (try clear hk); (try clear hi)) | ((with_reducible refine gate_dst (N := 35) rfl ?_); (try (refine gate_guard (by rfl) ?_; dsimp only)); (refine gate_guard (by rfl) ?_; dsimp only); (with_reducible refine gate_callee (f := 18) rfl ?_); refine goesL_ (some 35) rfl rfl Try.func18 (by kernel_rfl) rfl #[.slice A0 l0.length c0, .slice A1 l1.length c1] rfl (by (try simp only [List.map_toArray, List.map_cons, List.map_nil]); first | done | rfl | (simp only [List.length_drop, List.length_take]; rfl)) ?_; (with_reducible refine (mul_Mul.calls k _ _ l0 _ _ l1 t244 _ ?side1 ?side2 ?side3 ?side4 A17.out).mono ?_); (case side1 => repeat (first | exact (Kd.V_reads' HO0.out).2.2 | (with_reducible refine Kd.C_alloc ?_ _) | (with_reducible refine Kd.C_drewN ?_ _) | (with_reducible refine Kd.C_drew ?_))); (case side2 => exact (Kd.V_reads' HO0.out).2.1); (case side3 => repeat (first | exact (Kd.V_reads' HO1.out).2.2 | (with_reducible refine Kd.C_alloc ?_ _) | (with_reducible refine Kd.C_drewN ?_ _) | (with_reducible refine Kd.C_drew ?_))); (case side4 => exact (Kd.V_reads' HO1.out).2.1); rintro e w47 ⟨v245, rfl, ho0, hb⟩; refine ⟨_, rfl, ?_⟩; have n0_ := Aside0.mk (Kd.V_elder' (by (with_reducible repeat (first | apply Kd.V_alloc | apply Kd.V_drewN | apply Kd.V_drew)); exact HO0.out) (Kd.R_base ho0) hb); have n1_ := Aside0.mk (Kd.V_elder' (by (with_reducible repeat (first | apply Kd.V_alloc | apply Kd.V_drewN | apply Kd.V_drew)); exact HO1.out) (Kd.R_base ho0) hb); have n2_ := Aside0.mk (Kd.V_elder' (by (with_reducible repeat (first | apply Kd.V_alloc | apply Kd.V_drewN | apply Kd.V_drew)); exact HO2.out) (Kd.R_base ho0) hb); have n3_ := Aside0.mk (Kd.N_elder' (by (with_reducible repeat (first | apply Kd.N_alloc | apply Kd.N_drewN | apply Kd.N_drew)); exact HO225.out) (Kd.R_base ho0) hb); have n4_ := Aside0.mk (Kd.R_elder' (by (with_reducible repeat (first | apply Kd.R_alloc | apply Kd.R_drewN | apply Kd.R_drew)); exact HO233.out) (Kd.R_base ho0) hb); have n5_ := Aside0.mk (Kd.R_elder' (by (with_reducible repeat (first | apply Kd.R_alloc | apply Kd.R_drewN | apply Kd.R_drew)); exact HO236.out) (Kd.R_base ho0) hb); have n6_ := Aside0.mk (Kd.R_elder' (by (with_reducible repeat (first | apply Kd.R_alloc | apply Kd.R_drewN | apply Kd.R_drew)); exact HO240.out) (Kd.R_base ho0) hb); have n7_ := Aside0.mk (Kd.R_lower (Kd.R_new' (Kd.R_new' (Kd.R_new' (Kd.R_newM (M := fun k_ => (w.heap.size ≤ k_)) ho0 (below_size (by repeat (first | (with_reducible first | exact HB.out | apply below_alloc | apply pw_below_drewN | apply below_drew1) | exact HB.out))) (fun k_ h_ => h_)) (Kd.R_lt (by (with_reducible repeat (first | apply Kd.R_alloc | apply Kd.R_drewN | apply Kd.R_drew)); exact HO233.out))) (Kd.R_lt (by (with_reducible repeat (first | apply Kd.R_alloc | apply Kd.R_drewN | apply Kd.R_drew)); exact HO236.out))) (Kd.R_lt (by (with_reducible repeat (first | apply Kd.R_alloc | apply Kd.R_drewN | apply Kd.R_drew)); exact HO240.out))) (below_size (by repeat (first | (with_reducible first | exact HB.out | apply below_alloc | apply pw_below_drewN | apply below_drew1) | exact HB.out)))); have n8_ := Aside0.mk (below_step (by repeat (first | (with_reducible first | exact HB.out | apply below_alloc | apply pw_below_drewN | apply below_drew1) | exact HB.out)) hb); clear HO0; clear HO1; clear HO2; clear HO225; clear HO233; clear HO236; clear HO240; clear HB; have HO0 := n0_; have HO1 := n1_; have HO2 := n2_; have HO225 := n3_; have HO233 := n4_; have HO236 := n5_; have HO240 := n6_; have HO246 := n7_; have HB := n8_; clear n0_ n1_ n2_ n3_ n4_ n5_ n6_ n7_ n8_; (try clear hb); (try clear hb2); (try clear hk); (try clear hi); (try clear ho0)) | ((with_reducible refine gate_dst (N := 38) rfl ?_); (try (refine gate_guard (by rfl) ?_; dsimp only)); (refine gate_guard (by rfl) ?_; dsimp only); (with_reducible refine gate_callee (f := 18) rfl ?_); refine goesL_ (some 38) rfl rfl Try.func18 (by kernel_rfl) rfl #[.slice A1 l1.length c1, .slice A0 l0.length c0] rfl (by (try simp only [List.map_toArray, List.map_cons, List.map_nil]); first | done | rfl | (simp only [List.length_drop, List.length_take]; rfl)) ?_; (with_reducible refine (mul_Mul.calls k _ _ l1 _ _ l0 t247 _ ?side1 ?side2 ?side3 ?side4 A18.out).mono ?_); (case side1 => repeat (first | exact (Kd.V_reads' HO1.out).2.2 | (with_reducible refine Kd.C_alloc ?_ _) | (with_reducible refine Kd.C_drewN ?_ _) | (with_reducible refine Kd.C_drew ?_))); (case side2 => exact (Kd.V_reads' HO1.out).2.1); (case side3 => repeat (first | exact (Kd.V_reads' HO0.out).2.2 | (with_reducible refine Kd.C_alloc ?_ _) | (with_reducible refine Kd.C_drewN ?_ _) | (with_reducible refine Kd.C_drew ?_))); (case side4 => exact (Kd.V_reads' HO0.out).2.1); rintro e w48 ⟨v248, rfl, ho0, hb⟩; refine ⟨_, rfl, ?_⟩; have n0_ := Aside0.mk (Kd.V_elder' (by (with_reducible repeat (first | apply Kd.V_alloc | apply Kd.V_drewN | apply Kd.V_drew)); exact HO0.out) (Kd.R_base ho0) hb); have n1_ := Aside0.mk (Kd.V_elder' (by (with_reducible repeat (first | apply Kd.V_alloc | apply Kd.V_drewN | apply Kd.V_drew)); exact HO1.out) (Kd.R_base ho0) hb); have n2_ := Aside0.mk (Kd.V_elder' (by (with_reducible repeat (first | apply Kd.V_alloc | apply Kd.V_drewN | apply Kd.V_drew)); exact HO2.out) (Kd.R_base ho0) hb); have n3_ := Aside0.mk (Kd.N_elder' (by (with_reducible repeat (first | apply Kd.N_alloc | apply Kd.N_drewN | apply Kd.N_drew)); exact HO225.out) (Kd.R_base ho0) hb); have n4_ := Aside0.mk (Kd.R_elder' (by (with_reducible repeat (first | apply Kd.R_alloc | apply Kd.R_drewN | apply Kd.R_drew)); exact HO233.out) (Kd.R_base ho0) hb); have n5_ := Aside0.mk (Kd.R_elder' (by (with_reducible repeat (first | apply Kd.R_alloc | apply Kd.R_drewN | apply Kd.R_drew)); exact HO236.out) (Kd.R_base ho0) hb); have n6_ := Aside0.mk (Kd.R_elder' (by (with_reducible repeat (first | apply Kd.R_alloc | apply Kd.R_drewN | apply Kd.R_drew)); exact HO240.out) (Kd.R_base ho0) hb); have n7_ := Aside0.mk (Kd.R_elder' (by (with_reducible repeat (first | apply Kd.R_alloc | apply Kd.R_drewN | apply Kd.R_drew)); exact HO246.out) (Kd.R_base ho0) hb); have n8_ := Aside0.mk (Kd.R_lower (Kd.R_new' (Kd.R_new' (Kd.R_new' (Kd.R_new' (Kd.R_newM (M := fun k_ => (w.heap.size ≤ k_)) ho0 (below_size (by repeat (first | (with_reducible first | exact HB.out | apply below_alloc | apply pw_below_drewN | apply below_drew1) | exact HB.out))) (fun k_ h_ => h_)) (Kd.R_lt (by (with_reducible repeat (first | apply Kd.R_alloc | apply Kd.R_drewN | apply Kd.R_drew)); exact HO233.out))) (Kd.R_lt (by (with_reducible repeat (first | apply Kd.R_alloc | apply Kd.R_drewN | apply Kd.R_drew)); exact HO236.out))) (Kd.R_lt (by (with_reducible repeat (first | apply Kd.R_alloc | apply Kd.R_drewN | apply Kd.R_drew)); exact HO240.out))) (Kd.R_lt (by (with_reducible repeat (first | apply Kd.R_alloc | apply Kd.R_drewN | apply Kd.R_drew)); exact HO246.out))) (below_size (by repeat (first | (with_reducible first | exact HB.out | apply below_alloc | apply pw_below_drewN | apply below_drew1) | exact HB.out)))); have n9_ := Aside0.mk (below_step (by repeat (first | (with_reducible first | exact HB.out | apply below_alloc | apply pw_below_drewN | apply below_drew1) | exact HB.out)) hb); clear HO0; clear HO1; clear HO2; clear HO225; clear HO233; clear HO236; clear HO240; clear HO246; clear HB; have HO0 := n0_; have HO1 := n1_; have HO2 := n2_; have HO225 := n3_; have HO233 := n4_; have HO236 := n5_; have HO240 := n6_; have HO246 := n7_; have HO249 := n8_; have HB := n9_; clear n0_ n1_ n2_ n3_ n4_ n5_ n6_ n7_ n8_ n9_; (try clear hb); (try clear hb2); (try clear hk); (try clear hi); (try clear ho0); obtain ⟨Ao49, co49, eo49⟩ := Kd.R_slice HO246.out; subst eo49; obtain ⟨Ao50, co50, eo50⟩ := Kd.R_slice HO249.out; subst eo50) | ((with_reducible refine gate_dst (N := 39) rfl ?_); (try (refine gate_guard (by rfl) ?_; dsimp only)); (refine gate_guard (by rfl) ?_; dsimp only); (with_reducible refine gate_callee (f := 17) rfl ?_); refine goesL_ (some 39) rfl rfl Try.func17 (by kernel_rfl) rfl #[.slice Ao49 t244.length co49, .slice Ao50 t247.length co50] rfl (by (try simp only [List.map_toArray, List.map_cons, List.map_nil]); first | done | rfl | (simp only [List.length_drop, List.length_take]; rfl)) ?_; (with_reducible refine (figureheadref01_Same.calls k _ _ t244 _ _ t247 true _ ?side1 ?side2 ?side3 ?side4 A19.out).mono ?_); (case side1 => repeat (first | exact (Kd.R_reads' HO246.out).2.2 | (with_reducible refine Kd.C_alloc ?_ _) | (with_reducible refine Kd.C_drewN ?_ _) | (with_reducible refine Kd.C_drew ?_))); (case side2 => exact (Kd.R_reads' HO246.out).2.1); (case side3 => repeat (first | exact (Kd.R_reads' HO249.out).2.2 | (with_reducible refine Kd.C_alloc ?_ _) | (with_reducible refine Kd.C_drewN ?_ _) | (with_reducible refine Kd.C_drew ?_))); (case side4 => exact (Kd.R_reads' HO249.out).2.1); rintro e w' ⟨rfl, ⟨nd, rfl⟩⟩; refine ⟨_, rfl, ?_⟩; obtain ⟨Ao51, co51, eo51⟩ := Kd.R_slice HO233.out; subst eo51) | ((with_reducible refine gate_dst (N := 44) rfl ?_); (try (refine gate_guard (by rfl) ?_; dsimp only)); (refine gate_guard (by rfl) ?_; dsimp only); (with_reducible refine gate_callee (f := 18) rfl ?_); refine goesL_ (some 44) rfl rfl Try.func18 (by kernel_rfl) rfl #[.slice A0 l0.length c0, .slice Ao51 t231.length co51] rfl (by (try simp only [List.map_toArray, List.map_cons, List.map_nil]); first | done | rfl | (simp only [List.length_drop, List.length_take]; rfl)) ?_; (with_reducible refine (mul_Mul.calls k _ _ l0 _ _ t231 t251 _ ?side1 ?side2 ?side3 ?side4 A21.out).mono ?_); (case side1 => repeat (first | exact (Kd.V_reads' HO0.out).2.2 | (with_reducible refine Kd.C_alloc ?_ _) | (with_reducible refine Kd.C_drewN ?_ _) | (with_reducible refine Kd.C_drew ?_))); (case side2 => exact (Kd.V_reads' HO0.out).2.1); (case side3 => repeat (first | exact (Kd.R_reads' HO233.out).2.2 | (with_reducible refine Kd.C_alloc ?_ _) | (with_reducible refine Kd.C_drewN ?_ _) | (with_reducible refine Kd.C_drew ?_))); (case side4 => exact (Kd.R_reads' HO233.out).2.1); rintro e w52 ⟨v252, rfl, ho0, hb⟩; refine ⟨_, rfl, ?_⟩; have n0_ := Aside0.mk (Kd.V_elder' (by (with_reducible repeat (first | apply Kd.V_alloc | apply Kd.V_drewN | apply Kd.V_drew)); exact HO0.out) (Kd.R_base ho0) hb); have n1_ := Aside0.mk (Kd.V_elder' (by (with_reducible repeat (first | apply Kd.V_alloc | apply Kd.V_drewN | apply Kd.V_drew)); exact HO1.out) (Kd.R_base ho0) hb); have n2_ := Aside0.mk (Kd.V_elder' (by (with_reducible repeat (first | apply Kd.V_alloc | apply Kd.V_drewN | apply Kd.V_drew)); exact HO2.out) (Kd.R_base ho0) hb); have n3_ := Aside0.mk (Kd.N_elder' (by (with_reducible repeat (first | apply Kd.N_alloc | apply Kd.N_drewN | apply Kd.N_drew)); exact HO225.out) (Kd.R_base ho0) hb); have n4_ := Aside0.mk (Kd.R_elder' (by (with_reducible repeat (first | apply Kd.R_alloc | apply Kd.R_drewN | apply Kd.R_drew)); exact HO233.out) (Kd.R_base ho0) hb); have n5_ := Aside0.mk (Kd.R_elder' (by (with_reducible repeat (first | apply Kd.R_alloc | apply Kd.R_drewN | apply Kd.R_drew)); exact HO236.out) (Kd.R_base ho0) hb); have n6_ := Aside0.mk (Kd.R_elder' (by (with_reducible repeat (first | apply Kd.R_alloc | apply Kd.R_drewN | apply Kd.R_drew)); exact HO240.out) (Kd.R_base ho0) hb); have n7_ := Aside0.mk (Kd.R_elder' (by (with_reducible repeat (first | apply Kd.R_alloc | apply Kd.R_drewN | apply Kd.R_drew)); exact HO246.out) (Kd.R_base ho0) hb); have n8_ := Aside0.mk (Kd.R_elder' (by (with_reducible repeat (first | apply Kd.R_alloc | apply Kd.R_drewN | apply Kd.R_drew)); exact HO249.out) (Kd.R_base ho0) hb); have n9_ := Aside0.mk (Kd.R_lower (Kd.R_new' (Kd.R_new' (Kd.R_new' (Kd.R_new' (Kd.R_new' (Kd.R_newM (M := fun k_ => (w.heap.size ≤ k_)) ho0 (below_size (by repeat (first | (with_reducible first | exact HB.out | apply below_alloc | apply pw_below_drewN | apply below_drew1) | exact HB.out))) (fun k_ h_ => h_)) (Kd.R_lt (by (with_reducible repeat (first | apply Kd.R_alloc | apply Kd.R_drewN | apply Kd.R_drew)); exact HO233.out))) (Kd.R_lt (by (with_reducible repeat (first | apply Kd.R_alloc | apply Kd.R_drewN | apply Kd.R_drew)); exact HO236.out))) (Kd.R_lt (by (with_reducible repeat (first | apply Kd.R_alloc | apply Kd.R_drewN | apply Kd.R_drew)); exact HO240.out))) (Kd.R_lt (by (with_reducible repeat (first | apply Kd.R_alloc | apply Kd.R_drewN | apply Kd.R_drew)); exact HO246.out))) (Kd.R_lt (by (with_reducible repeat (first | apply Kd.R_alloc | apply Kd.R_drewN | apply Kd.R_drew)); exact HO249.out))) (below_size (by repeat (first | (with_reducible first | exact HB.out | apply below_alloc | apply pw_below_drewN | apply below_drew1) | exact HB.out)))); have n10_ := Aside0.mk (below_step (by repeat (first | (with_reducible first | exact HB.out | apply below_alloc | apply pw_below_drewN | apply below_drew1) | exact HB.out)) hb); clear HO0; clear HO1; clear HO2; clear HO225; clear HO233; clear HO236; clear HO240; clear HO246; clear HO249; clear HB; have HO0 := n0_; have HO1 := n1_; have HO2 := n2_; have HO225 := n3_; have HO233 := n4_; have HO236 := n5_; have HO240 := n6_; have HO246 := n7_; have HO249 := n8_; have HO253 := n9_; have HB := n10_; clear n0_ n1_ n2_ n3_ n4_ n5_ n6_ n7_ n8_ n9_ n10_; (try clear hb); (try clear hb2); (try clear hk); (try clear hi); (try clear ho0)) | ((with_reducible refine gate_dst (N := 46) rfl ?_); (try (refine gate_guard (by rfl) ?_; dsimp only)); (refine gate_guard (by rfl) ?_; dsimp only); (with_reducible refine gate_callee (f := 19) rfl ?_); refine goesL_ (some 46) rfl rfl Try.func19 (by kernel_rfl) rfl #[.string t242] rfl (by (try simp only [List.map_toArray, List.map_cons, List.map_nil]); first | done | rfl | (simp only [List.length_drop, List.length_take]; rfl)) ?_; (with_reducible refine (figureheadref01_Number.calls k t242 t254 _ A22.out).mono ?_); rintro e w53 ⟨v255, rfl, ho0, hb⟩; refine ⟨_, rfl, ?_⟩; have n0_ := Aside0.mk (Kd.V_elder' (by (with_reducible repeat (first | apply Kd.V_alloc | apply Kd.V_drewN | apply Kd.V_drew)); exact HO0.out) (Kd.R_base ho0) hb); have n1_ := Aside0.mk (Kd.V_elder' (by (with_reducible repeat (first | apply Kd.V_alloc | apply Kd.V_drewN | apply Kd.V_drew)); exact HO1.out) (Kd.R_base ho0) hb); have n2_ := Aside0.mk (Kd.V_elder' (by (with_reducible repeat (first | apply Kd.V_alloc | apply Kd.V_drewN | apply Kd.V_drew)); exact HO2.out) (Kd.R_base ho0) hb); have n3_ := Aside0.mk (Kd.N_elder' (by (with_reducible repeat (first | apply Kd.N_alloc | apply Kd.N_drewN | apply Kd.N_drew)); exact HO225.out) (Kd.R_base ho0) hb); have n4_ := Aside0.mk (Kd.R_elder' (by (with_reducible repeat (first | apply Kd.R_alloc | apply Kd.R_drewN | apply Kd.R_drew)); exact HO233.out) (Kd.R_base ho0) hb); have n5_ := Aside0.mk (Kd.R_elder' (by (with_reducible repeat (first | apply Kd.R_alloc | apply Kd.R_drewN | apply Kd.R_drew)); exact HO236.out) (Kd.R_base ho0) hb); have n6_ := Aside0.mk (Kd.R_elder' (by (with_reducible repeat (first | apply Kd.R_alloc | apply Kd.R_drewN | apply Kd.R_drew)); exact HO240.out) (Kd.R_base ho0) hb); have n7_ := Aside0.mk (Kd.R_elder' (by (with_reducible repeat (first | apply Kd.R_alloc | apply Kd.R_drewN | apply Kd.R_drew)); exact HO246.out) (Kd.R_base ho0) hb); have n8_ := Aside0.mk (Kd.R_elder' (by (with_reducible repeat (first | apply Kd.R_alloc | apply Kd.R_drewN | apply Kd.R_drew)); exact HO249.out) (Kd.R_base ho0) hb); have n9_ := Aside0.mk (Kd.R_elder' (by (with_reducible repeat (first | apply Kd.R_alloc | apply Kd.R_drewN | apply Kd.R_drew)); exact HO253.out) (Kd.R_base ho0) hb); have n10_ := Aside0.mk (Kd.R_lower (Kd.R_new' (Kd.R_new' (Kd.R_new' (Kd.R_new' (Kd.R_new' (Kd.R_new' (Kd.R_newM (M := fun k_ => (w.heap.size ≤ k_)) ho0 (below_size (by repeat (first | (with_reducible first | exact HB.out | apply below_alloc | apply pw_below_drewN | apply below_drew1) | exact HB.out))) (fun k_ h_ => h_)) (Kd.R_lt (by (with_reducible repeat (first | apply Kd.R_alloc | apply Kd.R_drewN | apply Kd.R_drew)); exact HO233.out))) (Kd.R_lt (by (with_reducible repeat (first | apply Kd.R_alloc | apply Kd.R_drewN | apply Kd.R_drew)); exact HO236.out))) (Kd.R_lt (by (with_reducible repeat (first | apply Kd.R_alloc | apply Kd.R_drewN | apply Kd.R_drew)); exact HO240.out))) (Kd.R_lt (by (with_reducible repeat (first | apply Kd.R_alloc | apply Kd.R_drewN | apply Kd.R_drew)); exact HO246.out))) (Kd.R_lt (by (with_reducible repeat (first | apply Kd.R_alloc | apply Kd.R_drewN | apply Kd.R_drew)); exact HO249.out))) (Kd.R_lt (by (with_reducible repeat (first | apply Kd.R_alloc | apply Kd.R_drewN | apply Kd.R_drew)); exact HO253.out))) (below_size (by repeat (first | (with_reducible first | exact HB.out | apply below_alloc | apply pw_below_drewN | apply below_drew1) | exact HB.out)))); have n11_ := Aside0.mk (below_step (by repeat (first | (with_reducible first | exact HB.out | apply below_alloc | apply pw_below_drewN | apply below_drew1) | exact HB.out)) hb); clear HO0; clear HO1; clear HO2; clear HO225; clear HO233; clear HO236; clear HO240; clear HO246; clear HO249; clear HO253; clear HB; have HO0 := n0_; have HO1 := n1_; have HO2 := n2_; have HO225 := n3_; have HO233 := n4_; have HO236 := n5_; have HO240 := n6_; have HO246 := n7_; have HO249 := n8_; have HO253 := n9_; have HO256 := n10_; have HB := n11_; clear n0_ n1_ n2_ n3_ n4_ n5_ n6_ n7_ n8_ n9_ n10_ n11_; (try clear hb); (try clear hb2); (try clear hk); (try clear hi); (try clear ho0); obtain ⟨Ao54, co54, eo54⟩ := Kd.R_slice HO253.out; subst eo54; obtain ⟨Ao55, co55, eo55⟩ := Kd.R_slice HO256.out; subst eo55) | ((with_reducible refine gate_dst (N := 47) rfl ?_); (try (refine gate_guard (by rfl) ?_; dsimp only)); (refine gate_guard (by rfl) ?_; dsimp only); (with_reducible refine gate_callee (f := 17) rfl ?_); refine goesL_ (some 47) rfl rfl Try.func17 (by kernel_rfl) rfl #[.slice Ao54 t251.length co54, .slice Ao55 t254.length co55] rfl (by (try simp only [List.map_toArray, List.map_cons, List.map_nil]); first | done | rfl | (simp only [List.length_drop, List.length_take]; rfl)) ?_; (with_reducible refine (figureheadref01_Same.calls k _ _ t251 _ _ t254 true _ ?side1 ?side2 ?side3 ?side4 A23.out).mono ?_); (case side1 => repeat (first | exact (Kd.R_reads' HO253.out).2.2 | (with_reducible refine Kd.C_alloc ?_ _) | (with_reducible refine Kd.C_drewN ?_ _) | (with_reducible refine Kd.C_drew ?_))); (case side2 => exact (Kd.R_reads' HO253.out).2.1); (case side3 => repeat (first | exact (Kd.R_reads' HO256.out).2.2 | (with_reducible refine Kd.C_alloc ?_ _) | (with_reducible refine Kd.C_drewN ?_ _) | (with_reducible refine Kd.C_drew ?_))); (case side4 => exact (Kd.R_reads' HO256.out).2.1); rintro e w' ⟨rfl, ⟨nd, rfl⟩⟩; refine ⟨_, rfl, ?_⟩) | ((with_reducible refine gate_dst (N := 52) rfl ?_); (try (refine gate_guard (by rfl) ?_; dsimp only)); (refine gate_guard (by rfl) ?_; dsimp only); (with_reducible refine gate_callee (f := 18) rfl ?_); refine goesL_ (some 52) rfl rfl Try.func18 (by kernel_rfl) rfl #[.slice A0 l0.length c0, .slice A1 l1.length c1] rfl (by (try simp only [List.map_toArray, List.map_cons, List.map_nil]); first | done | rfl | (simp only [List.length_drop, List.length_take]; rfl)) ?_; (with_reducible refine (mul_Mul.calls k _ _ l0 _ _ l1 t258 _ ?side1 ?side2 ?side3 ?side4 A25.out).mono ?_); (case side1 => repeat (first | exact (Kd.V_reads' HO0.out).2.2 | (with_reducible refine Kd.C_alloc ?_ _) | (with_reducible refine Kd.C_drewN ?_ _) | (with_reducible refine Kd.C_drew ?_))); (case side2 => exact (Kd.V_reads' HO0.out).2.1); (case side3 => repeat (first | exact (Kd.V_reads' HO1.out).2.2 | (with_reducible refine Kd.C_alloc ?_ _) | (with_reducible refine Kd.C_drewN ?_ _) | (with_reducible refine Kd.C_drew ?_))); (case side4 => exact (Kd.V_reads' HO1.out).2.1); rintro e w56 ⟨v259, rfl, ho0, hb⟩; refine ⟨_, rfl, ?_⟩; have n0_ := Aside0.mk (Kd.V_elder' (by (with_reducible repeat (first | apply Kd.V_alloc | apply Kd.V_drewN | apply Kd.V_drew)); exact HO0.out) (Kd.R_base ho0) hb); have n1_ := Aside0.mk (Kd.V_elder' (by (with_reducible repeat (first | apply Kd.V_alloc | apply Kd.V_drewN | apply Kd.V_drew)); exact HO1.out) (Kd.R_base ho0) hb); have n2_ := Aside0.mk (Kd.V_elder' (by (with_reducible repeat (first | apply Kd.V_alloc | apply Kd.V_drewN | apply Kd.V_drew)); exact HO2.out) (Kd.R_base ho0) hb); have n3_ := Aside0.mk (Kd.N_elder' (by (with_reducible repeat (first | apply Kd.N_alloc | apply Kd.N_drewN | apply Kd.N_drew)); exact HO225.out) (Kd.R_base ho0) hb); have n4_ := Aside0.mk (Kd.R_elder' (by (with_reducible repeat (first | apply Kd.R_alloc | apply Kd.R_drewN | apply Kd.R_drew)); exact HO233.out) (Kd.R_base ho0) hb); have n5_ := Aside0.mk (Kd.R_elder' (by (with_reducible repeat (first | apply Kd.R_alloc | apply Kd.R_drewN | apply Kd.R_drew)); exact HO236.out) (Kd.R_base ho0) hb); have n6_ := Aside0.mk (Kd.R_elder' (by (with_reducible repeat (first | apply Kd.R_alloc | apply Kd.R_drewN | apply Kd.R_drew)); exact HO240.out) (Kd.R_base ho0) hb); have n7_ := Aside0.mk (Kd.R_elder' (by (with_reducible repeat (first | apply Kd.R_alloc | apply Kd.R_drewN | apply Kd.R_drew)); exact HO246.out) (Kd.R_base ho0) hb); have n8_ := Aside0.mk (Kd.R_elder' (by (with_reducible repeat (first | apply Kd.R_alloc | apply Kd.R_drewN | apply Kd.R_drew)); exact HO249.out) (Kd.R_base ho0) hb); have n9_ := Aside0.mk (Kd.R_elder' (by (with_reducible repeat (first | apply Kd.R_alloc | apply Kd.R_drewN | apply Kd.R_drew)); exact HO253.out) (Kd.R_base ho0) hb); have n10_ := Aside0.mk (Kd.R_elder' (by (with_reducible repeat (first | apply Kd.R_alloc | apply Kd.R_drewN | apply Kd.R_drew)); exact HO256.out) (Kd.R_base ho0) hb); have n11_ := Aside0.mk (Kd.R_lower (Kd.R_new' (Kd.R_new' (Kd.R_new' (Kd.R_new' (Kd.R_new' (Kd.R_new' (Kd.R_new' (Kd.R_newM (M := fun k_ => (w.heap.size ≤ k_)) ho0 (below_size (by repeat (first | (with_reducible first | exact HB.out | apply below_alloc | apply pw_below_drewN | apply below_drew1) | exact HB.out))) (fun k_ h_ => h_)) (Kd.R_lt (by (with_reducible repeat (first | apply Kd.R_alloc | apply Kd.R_drewN | apply Kd.R_drew)); exact HO233.out))) (Kd.R_lt (by (with_reducible repeat (first | apply Kd.R_alloc | apply Kd.R_drewN | apply Kd.R_drew)); exact HO236.out))) (Kd.R_lt (by (with_reducible repeat (first | apply Kd.R_alloc | apply Kd.R_drewN | apply Kd.R_drew)); exact HO240.out))) (Kd.R_lt (by (with_reducible repeat (first | apply Kd.R_alloc | apply Kd.R_drewN | apply Kd.R_drew)); exact HO246.out))) (Kd.R_lt (by (with_reducible repeat (first | apply Kd.R_alloc | apply Kd.R_drewN | apply Kd.R_drew)); exact HO249.out))) (Kd.R_lt (by (with_reducible repeat (first | apply Kd.R_alloc | apply Kd.R_drewN | apply Kd.R_drew)); exact HO253.out))) (Kd.R_lt (by (with_reducible repeat (first | apply Kd.R_alloc | apply Kd.R_drewN | apply Kd.R_drew)); exact HO256.out))) (below_size (by repeat (first | (with_reducible first | exact HB.out | apply below_alloc | apply pw_below_drewN | apply below_drew1) | exact HB.out)))); have n12_ := Aside0.mk (below_step (by repeat (first | (with_reducible first | exact HB.out | apply below_alloc | apply pw_below_drewN | apply below_drew1) | exact HB.out)) hb); clear HO0; clear HO1; clear HO2; clear HO225; clear HO233; clear HO236; clear HO240; clear HO246; clear HO249; clear HO253; clear HO256; clear HB; have HO0 := n0_; have HO1 := n1_; have HO2 := n2_; have HO225 := n3_; have HO233 := n4_; have HO236 := n5_; have HO240 := n6_; have HO246 := n7_; have HO249 := n8_; have HO253 := n9_; have HO256 := n10_; have HO260 := n11_; have HB := n12_; clear n0_ n1_ n2_ n3_ n4_ n5_ n6_ n7_ n8_ n9_ n10_ n11_ n12_; (try clear hb); (try clear hb2); (try clear hk); (try clear hi); (try clear ho0); obtain ⟨Ao57, co57, eo57⟩ := Kd.R_slice HO260.out; subst eo57) | ((with_reducible refine gate_dst (N := 54) rfl ?_); (try (refine gate_guard (by rfl) ?_; dsimp only)); (refine gate_guard (by rfl) ?_; dsimp only); (with_reducible refine gate_callee (f := 18) rfl ?_); refine goesL_ (some 54) rfl rfl Try.func18 (by kernel_rfl) rfl #[.slice Ao57 t258.length co57, .slice A2 l2.length c2] rfl (by (try simp only [List.map_toArray, List.map_cons, List.map_nil]); first | done | rfl | (simp only [List.length_drop, List.length_take]; rfl)) ?_; (with_reducible refine (mul_Mul.calls k _ _ t258 _ _ l2 t261 _ ?side1 ?side2 ?side3 ?side4 A26.out).mono ?_); (case side1 => repeat (first | exact (Kd.R_reads' HO260.out).2.2 | (with_reducible refine Kd.C_alloc ?_ _) | (with_reducible refine Kd.C_drewN ?_ _) | (with_reducible refine Kd.C_drew ?_))); (case side2 => exact (Kd.R_reads' HO260.out).2.1); (case side3 => repeat (first | exact (Kd.V_reads' HO2.out).2.2 | (with_reducible refine Kd.C_alloc ?_ _) | (with_reducible refine Kd.C_drewN ?_ _) | (with_reducible refine Kd.C_drew ?_))); (case side4 => exact (Kd.V_reads' HO2.out).2.1); rintro e w58 ⟨v262, rfl, ho0, hb⟩; refine ⟨_, rfl, ?_⟩; have n0_ := Aside0.mk (Kd.V_elder' (by (with_reducible repeat (first | apply Kd.V_alloc | apply Kd.V_drewN | apply Kd.V_drew)); exact HO0.out) (Kd.R_base ho0) hb); have n1_ := Aside0.mk (Kd.V_elder' (by (with_reducible repeat (first | apply Kd.V_alloc | apply Kd.V_drewN | apply Kd.V_drew)); exact HO1.out) (Kd.R_base ho0) hb); have n2_ := Aside0.mk (Kd.V_elder' (by (with_reducible repeat (first | apply Kd.V_alloc | apply Kd.V_drewN | apply Kd.V_drew)); exact HO2.out) (Kd.R_base ho0) hb); have n3_ := Aside0.mk (Kd.N_elder' (by (with_reducible repeat (first | apply Kd.N_alloc | apply Kd.N_drewN | apply Kd.N_drew)); exact HO225.out) (Kd.R_base ho0) hb); have n4_ := Aside0.mk (Kd.R_elder' (by (with_reducible repeat (first | apply Kd.R_alloc | apply Kd.R_drewN | apply Kd.R_drew)); exact HO233.out) (Kd.R_base ho0) hb); have n5_ := Aside0.mk (Kd.R_elder' (by (with_reducible repeat (first | apply Kd.R_alloc | apply Kd.R_drewN | apply Kd.R_drew)); exact HO236.out) (Kd.R_base ho0) hb); have n6_ := Aside0.mk (Kd.R_elder' (by (with_reducible repeat (first | apply Kd.R_alloc | apply Kd.R_drewN | apply Kd.R_drew)); exact HO240.out) (Kd.R_base ho0) hb); have n7_ := Aside0.mk (Kd.R_elder' (by (with_reducible repeat (first | apply Kd.R_alloc | apply Kd.R_drewN | apply Kd.R_drew)); exact HO246.out) (Kd.R_base ho0) hb); have n8_ := Aside0.mk (Kd.R_elder' (by (with_reducible repeat (first | apply Kd.R_alloc | apply Kd.R_drewN | apply Kd.R_drew)); exact HO249.out) (Kd.R_base ho0) hb); have n9_ := Aside0.mk (Kd.R_elder' (by (with_reducible repeat (first | apply Kd.R_alloc | apply Kd.R_drewN | apply Kd.R_drew)); exact HO253.out) (Kd.R_base ho0) hb); have n10_ := Aside0.mk (Kd.R_elder' (by (with_reducible repeat (first | apply Kd.R_alloc | apply Kd.R_drewN | apply Kd.R_drew)); exact HO256.out) (Kd.R_base ho0) hb); have n11_ := Aside0.mk (Kd.R_elder' (by (with_reducible repeat (first | apply Kd.R_alloc | apply Kd.R_drewN | apply Kd.R_drew)); exact HO260.out) (Kd.R_base ho0) hb); have n12_ := Aside0.mk (Kd.R_lower (Kd.R_new' (Kd.R_new' (Kd.R_new' (Kd.R_new' (Kd.R_new' (Kd.R_new' (Kd.R_new' (Kd.R_new' (Kd.R_newM (M := fun k_ => (w.heap.size ≤ k_)) ho0 (below_size (by repeat (first | (with_reducible first | exact HB.out | apply below_alloc | apply pw_below_drewN | apply below_drew1) | exact HB.out))) (fun k_ h_ => h_)) (Kd.R_lt (by (with_reducible repeat (first | apply Kd.R_alloc | apply Kd.R_drewN | apply Kd.R_drew)); exact HO233.out))) (Kd.R_lt (by (with_reducible repeat (first | apply Kd.R_alloc | apply Kd.R_drewN | apply Kd.R_drew)); exact HO236.out))) (Kd.R_lt (by (with_reducible repeat (first | apply Kd.R_alloc | apply Kd.R_drewN | apply Kd.R_drew)); exact HO240.out))) (Kd.R_lt (by (with_reducible repeat (first | apply Kd.R_alloc | apply Kd.R_drewN | apply Kd.R_drew)); exact HO246.out))) (Kd.R_lt (by (with_reducible repeat (first | apply Kd.R_alloc | apply Kd.R_drewN | apply Kd.R_drew)); exact HO249.out))) (Kd.R_lt (by (with_reducible repeat (first | apply Kd.R_alloc | apply Kd.R_drewN | apply Kd.R_drew)); exact HO253.out))) (Kd.R_lt (by (with_reducible repeat (first | apply Kd.R_alloc | apply Kd.R_drewN | apply Kd.R_drew)); exact HO256.out))) (Kd.R_lt (by (with_reducible repeat (first | apply Kd.R_alloc | apply Kd.R_drewN | apply Kd.R_drew)); exact HO260.out))) (below_size (by repeat (first | (with_reducible first | exact HB.out | apply below_alloc | apply pw_below_drewN | apply below_drew1) | exact HB.out)))); have n13_ := Aside0.mk (below_step (by repeat (first | (with_reducible first | exact HB.out | apply below_alloc | apply pw_below_drewN | apply below_drew1) | exact HB.out)) hb); clear HO0; clear HO1; clear HO2; clear HO225; clear HO233; clear HO236; clear HO240; clear HO246; clear HO249; clear HO253; clear HO256; clear HO260; clear HB; have HO0 := n0_; have HO1 := n1_; have HO2 := n2_; have HO225 := n3_; have HO233 := n4_; have HO236 := n5_; have HO240 := n6_; have HO246 := n7_; have HO249 := n8_; have HO253 := n9_; have HO256 := n10_; have HO260 := n11_; have HO263 := n12_; have HB := n13_; clear n0_ n1_ n2_ n3_ n4_ n5_ n6_ n7_ n8_ n9_ n10_ n11_ n12_ n13_; (try clear hb); (try clear hb2); (try clear hk); (try clear hi); (try clear ho0)) | ((with_reducible refine gate_dst (N := 58) rfl ?_); (try (refine gate_guard (by rfl) ?_; dsimp only)); (refine gate_guard (by rfl) ?_; dsimp only); (with_reducible refine gate_callee (f := 18) rfl ?_); refine goesL_ (some 58) rfl rfl Try.func18 (by kernel_rfl) rfl #[.slice A1 l1.length c1, .slice A2 l2.length c2] rfl (by (try simp only [List.map_toArray, List.map_cons, List.map_nil]); first | done | rfl | (simp only [List.length_drop, List.length_take]; rfl)) ?_; (with_reducible refine (mul_Mul.calls k _ _ l1 _ _ l2 t264 _ ?side1 ?side2 ?side3 ?side4 A27.out).mono ?_); (case side1 => repeat (first | exact (Kd.V_reads' HO1.out).2.2 | (with_reducible refine Kd.C_alloc ?_ _) | (with_reducible refine Kd.C_drewN ?_ _) | (with_reducible refine Kd.C_drew ?_))); (case side2 => exact (Kd.V_reads' HO1.out).2.1); (case side3 => repeat (first | exact (Kd.V_reads' HO2.out).2.2 | (with_reducible refine Kd.C_alloc ?_ _) | (with_reducible refine Kd.C_drewN ?_ _) | (with_reducible refine Kd.C_drew ?_))); (case side4 => exact (Kd.V_reads' HO2.out).2.1); rintro e w59 ⟨v265, rfl, ho0, hb⟩; refine ⟨_, rfl, ?_⟩; have n0_ := Aside0.mk (Kd.V_elder' (by (with_reducible repeat (first | apply Kd.V_alloc | apply Kd.V_drewN | apply Kd.V_drew)); exact HO0.out) (Kd.R_base ho0) hb); have n1_ := Aside0.mk (Kd.V_elder' (by (with_reducible repeat (first | apply Kd.V_alloc | apply Kd.V_drewN | apply Kd.V_drew)); exact HO1.out) (Kd.R_base ho0) hb); have n2_ := Aside0.mk (Kd.V_elder' (by (with_reducible repeat (first | apply Kd.V_alloc | apply Kd.V_drewN | apply Kd.V_drew)); exact HO2.out) (Kd.R_base ho0) hb); have n3_ := Aside0.mk (Kd.N_elder' (by (with_reducible repeat (first | apply Kd.N_alloc | apply Kd.N_drewN | apply Kd.N_drew)); exact HO225.out) (Kd.R_base ho0) hb); have n4_ := Aside0.mk (Kd.R_elder' (by (with_reducible repeat (first | apply Kd.R_alloc | apply Kd.R_drewN | apply Kd.R_drew)); exact HO233.out) (Kd.R_base ho0) hb); have n5_ := Aside0.mk (Kd.R_elder' (by (with_reducible repeat (first | apply Kd.R_alloc | apply Kd.R_drewN | apply Kd.R_drew)); exact HO236.out) (Kd.R_base ho0) hb); have n6_ := Aside0.mk (Kd.R_elder' (by (with_reducible repeat (first | apply Kd.R_alloc | apply Kd.R_drewN | apply Kd.R_drew)); exact HO240.out) (Kd.R_base ho0) hb); have n7_ := Aside0.mk (Kd.R_elder' (by (with_reducible repeat (first | apply Kd.R_alloc | apply Kd.R_drewN | apply Kd.R_drew)); exact HO246.out) (Kd.R_base ho0) hb); have n8_ := Aside0.mk (Kd.R_elder' (by (with_reducible repeat (first | apply Kd.R_alloc | apply Kd.R_drewN | apply Kd.R_drew)); exact HO249.out) (Kd.R_base ho0) hb); have n9_ := Aside0.mk (Kd.R_elder' (by (with_reducible repeat (first | apply Kd.R_alloc | apply Kd.R_drewN | apply Kd.R_drew)); exact HO253.out) (Kd.R_base ho0) hb); have n10_ := Aside0.mk (Kd.R_elder' (by (with_reducible repeat (first | apply Kd.R_alloc | apply Kd.R_drewN | apply Kd.R_drew)); exact HO256.out) (Kd.R_base ho0) hb); have n11_ := Aside0.mk (Kd.R_elder' (by (with_reducible repeat (first | apply Kd.R_alloc | apply Kd.R_drewN | apply Kd.R_drew)); exact HO260.out) (Kd.R_base ho0) hb); have n12_ := Aside0.mk (Kd.R_elder' (by (with_reducible repeat (first | apply Kd.R_alloc | apply Kd.R_drewN | apply Kd.R_drew)); exact HO263.out) (Kd.R_base ho0) hb); have n13_ := Aside0.mk (Kd.R_lower (Kd.R_new' (Kd.R_new' (Kd.R_new' (Kd.R_new' (Kd.R_new' (Kd.R_new' (Kd.R_new' (Kd.R_new' (Kd.R_new' (Kd.R_newM (M := fun k_ => (w.heap.size ≤ k_)) ho0 (below_size (by repeat (first | (with_reducible first | exact HB.out | apply below_alloc | apply pw_below_drewN | apply below_drew1) | exact HB.out))) (fun k_ h_ => h_)) (Kd.R_lt (by (with_reducible repeat (first | apply Kd.R_alloc | apply Kd.R_drewN | apply Kd.R_drew)); exact HO233.out))) (Kd.R_lt (by (with_reducible repeat (first | apply Kd.R_alloc | apply Kd.R_drewN | apply Kd.R_drew)); exact HO236.out))) (Kd.R_lt (by (with_reducible repeat (first | apply Kd.R_alloc | apply Kd.R_drewN | apply Kd.R_drew)); exact HO240.out))) (Kd.R_lt (by (with_reducible repeat (first | apply Kd.R_alloc | apply Kd.R_drewN | apply Kd.R_drew)); exact HO246.out))) (Kd.R_lt (by (with_reducible repeat (first | apply Kd.R_alloc | apply Kd.R_drewN | apply Kd.R_drew)); exact HO249.out))) (Kd.R_lt (by (with_reducible repeat (first | apply Kd.R_alloc | apply Kd.R_drewN | apply Kd.R_drew)); exact HO253.out))) (Kd.R_lt (by (with_reducible repeat (first | apply Kd.R_alloc | apply Kd.R_drewN | apply Kd.R_drew)); exact HO256.out))) (Kd.R_lt (by (with_reducible repeat (first | apply Kd.R_alloc | apply Kd.R_drewN | apply Kd.R_drew)); exact HO260.out))) (Kd.R_lt (by (with_reducible repeat (first | apply Kd.R_alloc | apply Kd.R_drewN | apply Kd.R_drew)); exact HO263.out))) (below_size (by repeat (first | (with_reducible first | exact HB.out | apply below_alloc | apply pw_below_drewN | apply below_drew1) | exact HB.out)))); have n14_ := Aside0.mk (below_step (by repeat (first | (with_reducible first | exact HB.out | apply below_alloc | apply pw_below_drewN | apply below_drew1) | exact HB.out)) hb); clear HO0; clear HO1; clear HO2; clear HO225; clear HO233; clear HO236; clear HO240; clear HO246; clear HO249; clear HO253; clear HO256; clear HO260; clear HO263; clear HB; have HO0 := n0_; have HO1 := n1_; have HO2 := n2_; have HO225 := n3_; have HO233 := n4_; have HO236 := n5_; have HO240 := n6_; have HO246 := n7_; have HO249 := n8_; have HO253 := n9_; have HO256 := n10_; have HO260 := n11_; have HO263 := n12_; have HO266 := n13_; have HB := n14_; clear n0_ n1_ n2_ n3_ n4_ n5_ n6_ n7_ n8_ n9_ n10_ n11_ n12_ n13_ n14_; (try clear hb); (try clear hb2); (try clear hk); (try clear hi); (try clear ho0); obtain ⟨Ao60, co60, eo60⟩ := Kd.R_slice HO266.out; subst eo60) | ((with_reducible refine gate_dst (N := 59) rfl ?_); (try (refine gate_guard (by rfl) ?_; dsimp only)); (refine gate_guard (by rfl) ?_; dsimp only); (with_reducible refine gate_callee (f := 18) rfl ?_); refine goesL_ (some 59) rfl rfl Try.func18 (by kernel_rfl) rfl #[.slice A0 l0.length c0, .slice Ao60 t264.length co60] rfl (by (try simp only [List.map_toArray, List.map_cons, List.map_nil]); first | done | rfl | (simp only [List.length_drop, List.length_take]; rfl)) ?_; (with_reducible refine (mul_Mul.calls k _ _ l0 _ _ t264 t267 _ ?side1 ?side2 ?side3 ?side4 A28.out).mono ?_); (case side1 => repeat (first | exact (Kd.V_reads' HO0.out).2.2 | (with_reducible refine Kd.C_alloc ?_ _) | (with_reducible refine Kd.C_drewN ?_ _) | (with_reducible refine Kd.C_drew ?_))); (case side2 => exact (Kd.V_reads' HO0.out).2.1); (case side3 => repeat (first | exact (Kd.R_reads' HO266.out).2.2 | (with_reducible refine Kd.C_alloc ?_ _) | (with_reducible refine Kd.C_drewN ?_ _) | (with_reducible refine Kd.C_drew ?_))); (case side4 => exact (Kd.R_reads' HO266.out).2.1); rintro e w61 ⟨v268, rfl, ho0, hb⟩; refine ⟨_, rfl, ?_⟩; have n0_ := Aside0.mk (Kd.V_elder' (by (with_reducible repeat (first | apply Kd.V_alloc | apply Kd.V_drewN | apply Kd.V_drew)); exact HO0.out) (Kd.R_base ho0) hb); have n1_ := Aside0.mk (Kd.V_elder' (by (with_reducible repeat (first | apply Kd.V_alloc | apply Kd.V_drewN | apply Kd.V_drew)); exact HO1.out) (Kd.R_base ho0) hb); have n2_ := Aside0.mk (Kd.V_elder' (by (with_reducible repeat (first | apply Kd.V_alloc | apply Kd.V_drewN | apply Kd.V_drew)); exact HO2.out) (Kd.R_base ho0) hb); have n3_ := Aside0.mk (Kd.N_elder' (by (with_reducible repeat (first | apply Kd.N_alloc | apply Kd.N_drewN | apply Kd.N_drew)); exact HO225.out) (Kd.R_base ho0) hb); have n4_ := Aside0.mk (Kd.R_elder' (by (with_reducible repeat (first | apply Kd.R_alloc | apply Kd.R_drewN | apply Kd.R_drew)); exact HO233.out) (Kd.R_base ho0) hb); have n5_ := Aside0.mk (Kd.R_elder' (by (with_reducible repeat (first | apply Kd.R_alloc | apply Kd.R_drewN | apply Kd.R_drew)); exact HO236.out) (Kd.R_base ho0) hb); have n6_ := Aside0.mk (Kd.R_elder' (by (with_reducible repeat (first | apply Kd.R_alloc | apply Kd.R_drewN | apply Kd.R_drew)); exact HO240.out) (Kd.R_base ho0) hb); have n7_ := Aside0.mk (Kd.R_elder' (by (with_reducible repeat (first | apply Kd.R_alloc | apply Kd.R_drewN | apply Kd.R_drew)); exact HO246.out) (Kd.R_base ho0) hb); have n8_ := Aside0.mk (Kd.R_elder' (by (with_reducible repeat (first | apply Kd.R_alloc | apply Kd.R_drewN | apply Kd.R_drew)); exact HO249.out) (Kd.R_base ho0) hb); have n9_ := Aside0.mk (Kd.R_elder' (by (with_reducible repeat (first | apply Kd.R_alloc | apply Kd.R_drewN | apply Kd.R_drew)); exact HO253.out) (Kd.R_base ho0) hb); have n10_ := Aside0.mk (Kd.R_elder' (by (with_reducible repeat (first | apply Kd.R_alloc | apply Kd.R_drewN | apply Kd.R_drew)); exact HO256.out) (Kd.R_base ho0) hb); have n11_ := Aside0.mk (Kd.R_elder' (by (with_reducible repeat (first | apply Kd.R_alloc | apply Kd.R_drewN | apply Kd.R_drew)); exact HO260.out) (Kd.R_base ho0) hb); have n12_ := Aside0.mk (Kd.R_elder' (by (with_reducible repeat (first | apply Kd.R_alloc | apply Kd.R_drewN | apply Kd.R_drew)); exact HO263.out) (Kd.R_base ho0) hb); have n13_ := Aside0.mk (Kd.R_elder' (by (with_reducible repeat (first | apply Kd.R_alloc | apply Kd.R_drewN | apply Kd.R_drew)); exact HO266.out) (Kd.R_base ho0) hb); have n14_ := Aside0.mk (Kd.R_lower (Kd.R_new' (Kd.R_new' (Kd.R_new' (Kd.R_new' (Kd.R_new' (Kd.R_new' (Kd.R_new' (Kd.R_new' (Kd.R_new' (Kd.R_new' (Kd.R_newM (M := fun k_ => (w.heap.size ≤ k_)) ho0 (below_size (by repeat (first | (with_reducible first | exact HB.out | apply below_alloc | apply pw_below_drewN | apply below_drew1) | exact HB.out))) (fun k_ h_ => h_)) (Kd.R_lt (by (with_reducible repeat (first | apply Kd.R_alloc | apply Kd.R_drewN | apply Kd.R_drew)); exact HO233.out))) (Kd.R_lt (by (with_reducible repeat (first | apply Kd.R_alloc | apply Kd.R_drewN | apply Kd.R_drew)); exact HO236.out))) (Kd.R_lt (by (with_reducible repeat (first | apply Kd.R_alloc | apply Kd.R_drewN | apply Kd.R_drew)); exact HO240.out))) (Kd.R_lt (by (with_reducible repeat (first | apply Kd.R_alloc | apply Kd.R_drewN | apply Kd.R_drew)); exact HO246.out))) (Kd.R_lt (by (with_reducible repeat (first | apply Kd.R_alloc | apply Kd.R_drewN | apply Kd.R_drew)); exact HO249.out))) (Kd.R_lt (by (with_reducible repeat (first | apply Kd.R_alloc | apply Kd.R_drewN | apply Kd.R_drew)); exact HO253.out))) (Kd.R_lt (by (with_reducible repeat (first | apply Kd.R_alloc | apply Kd.R_drewN | apply Kd.R_drew)); exact HO256.out))) (Kd.R_lt (by (with_reducible repeat (first | apply Kd.R_alloc | apply Kd.R_drewN | apply Kd.R_drew)); exact HO260.out))) (Kd.R_lt (by (with_reducible repeat (first | apply Kd.R_alloc | apply Kd.R_drewN | apply Kd.R_drew)); exact HO263.out))) (Kd.R_lt (by (with_reducible repeat (first | apply Kd.R_alloc | apply Kd.R_drewN | apply Kd.R_drew)); exact HO266.out))) (below_size (by repeat (first | (with_reducible first | exact HB.out | apply below_alloc | apply pw_below_drewN | apply below_drew1) | exact HB.out)))); have n15_ := Aside0.mk (below_step (by repeat (first | (with_reducible first | exact HB.out | apply below_alloc | apply pw_below_drewN | apply below_drew1) | exact HB.out)) hb); clear HO0; clear HO1; clear HO2; clear HO225; clear HO233; clear HO236; clear HO240; clear HO246; clear HO249; clear HO253; clear HO256; clear HO260; clear HO263; clear HO266; clear HB; have HO0 := n0_; have HO1 := n1_; have HO2 := n2_; have HO225 := n3_; have HO233 := n4_; have HO236 := n5_; have HO240 := n6_; have HO246 := n7_; have HO249 := n8_; have HO253 := n9_; have HO256 := n10_; have HO260 := n11_; have HO263 := n12_; have HO266 := n13_; have HO269 := n14_; have HB := n15_; clear n0_ n1_ n2_ n3_ n4_ n5_ n6_ n7_ n8_ n9_ n10_ n11_ n12_ n13_ n14_ n15_; (try clear hb); (try clear hb2); (try clear hk); (try clear hi); (try clear ho0); obtain ⟨Ao62, co62, eo62⟩ := Kd.R_slice HO263.out; subst eo62; obtain ⟨Ao63, co63, eo63⟩ := Kd.R_slice HO269.out; subst eo63) | ((with_reducible refine gate_dst (N := 60) rfl ?_); (try (refine gate_guard (by rfl) ?_; dsimp only)); (refine gate_guard (by rfl) ?_; dsimp only); (with_reducible refine gate_callee (f := 17) rfl ?_); refine goesL_ (some 60) rfl rfl Try.func17 (by kernel_rfl) rfl #[.slice Ao62 t261.length co62, .slice Ao63 t267.length co63] rfl (by (try simp only [List.map_toArray, List.map_cons, List.map_nil]); first | done | rfl | (simp only [List.length_drop, List.length_take]; rfl)) ?_; (with_reducible refine (figureheadref01_Same.calls k _ _ t261 _ _ t267 true _ ?side1 ?side2 ?side3 ?side4 A29.out).mono ?_); (case side1 => repeat (first | exact (Kd.R_reads' HO263.out).2.2 | (with_reducible refine Kd.C_alloc ?_ _) | (with_reducible refine Kd.C_drewN ?_ _) | (with_reducible refine Kd.C_drew ?_))); (case side2 => exact (Kd.R_reads' HO263.out).2.1); (case side3 => repeat (first | exact (Kd.R_reads' HO269.out).2.2 | (with_reducible refine Kd.C_alloc ?_ _) | (with_reducible refine Kd.C_drewN ?_ _) | (with_reducible refine Kd.C_drew ?_))); (case side4 => exact (Kd.R_reads' HO269.out).2.1); rintro e w' ⟨rfl, ⟨nd, rfl⟩⟩; refine ⟨_, rfl, ?_⟩) | ((with_reducible refine gate_dst (N := 64) rfl ?_); (try (refine gate_guard (by rfl) ?_; dsimp only)); (refine gate_guard (by rfl) ?_; dsimp only); (with_reducible refine gate_callee (f := 18) rfl ?_); refine goesL_ (some 64) rfl rfl Try.func18 (by kernel_rfl) rfl #[.slice A0 l0.length c0, .slice none 0 0] rfl (by (try simp only [List.map_toArray, List.map_cons, List.map_nil]); first | done | rfl | (simp only [List.length_drop, List.length_take]; rfl)) ?_; (refine (mul_Mul.calls k _ _ l0 _ _ ([] : List Int) t271 _ ?side1 ?side2 ?side3 ?side4 A31.out).mono ?_); (case side1 => repeat (first | exact (Kd.V_reads' HO0.out).2.2 | (with_reducible refine Kd.C_alloc ?_ _) | (with_reducible refine Kd.C_drewN ?_ _) | (with_reducible refine Kd.C_drew ?_))); (case side2 => exact (Kd.V_reads' HO0.out).2.1); (case side3 => exact Kd.C_nil _ _); (case side4 => exact Nat.le_refl _); rintro e w64 ⟨v272, rfl, ho0, hb⟩; refine ⟨_, rfl, ?_⟩; have n0_ := Aside0.mk (Kd.V_elder' (by (with_reducible repeat (first | apply Kd.V_alloc | apply Kd.V_drewN | apply Kd.V_drew)); exact HO0.out) (Kd.R_base ho0) hb); have n1_ := Aside0.mk (Kd.V_elder' (by (with_reducible repeat (first | apply Kd.V_alloc | apply Kd.V_drewN | apply Kd.V_drew)); exact HO1.out) (Kd.R_base ho0) hb); have n2_ := Aside0.mk (Kd.V_elder' (by (with_reducible repeat (first | apply Kd.V_alloc | apply Kd.V_drewN | apply Kd.V_drew)); exact HO2.out) (Kd.R_base ho0) hb); have n3_ := Aside0.mk (Kd.N_elder' (by (with_reducible repeat (first | apply Kd.N_alloc | apply Kd.N_drewN | apply Kd.N_drew)); exact HO225.out) (Kd.R_base ho0) hb); have n4_ := Aside0.mk (Kd.R_elder' (by (with_reducible repeat (first | apply Kd.R_alloc | apply Kd.R_drewN | apply Kd.R_drew)); exact HO233.out) (Kd.R_base ho0) hb); have n5_ := Aside0.mk (Kd.R_elder' (by (with_reducible repeat (first | apply Kd.R_alloc | apply Kd.R_drewN | apply Kd.R_drew)); exact HO236.out) (Kd.R_base ho0) hb); have n6_ := Aside0.mk (Kd.R_elder' (by (with_reducible repeat (first | apply Kd.R_alloc | apply Kd.R_drewN | apply Kd.R_drew)); exact HO240.out) (Kd.R_base ho0) hb); have n7_ := Aside0.mk (Kd.R_elder' (by (with_reducible repeat (first | apply Kd.R_alloc | apply Kd.R_drewN | apply Kd.R_drew)); exact HO246.out) (Kd.R_base ho0) hb); have n8_ := Aside0.mk (Kd.R_elder' (by (with_reducible repeat (first | apply Kd.R_alloc | apply Kd.R_drewN | apply Kd.R_drew)); exact HO249.out) (Kd.R_base ho0) hb); have n9_ := Aside0.mk (Kd.R_elder' (by (with_reducible repeat (first | apply Kd.R_alloc | apply Kd.R_drewN | apply Kd.R_drew)); exact HO253.out) (Kd.R_base ho0) hb); have n10_ := Aside0.mk (Kd.R_elder' (by (with_reducible repeat (first | apply Kd.R_alloc | apply Kd.R_drewN | apply Kd.R_drew)); exact HO256.out) (Kd.R_base ho0) hb); have n11_ := Aside0.mk (Kd.R_elder' (by (with_reducible repeat (first | apply Kd.R_alloc | apply Kd.R_drewN | apply Kd.R_drew)); exact HO260.out) (Kd.R_base ho0) hb); have n12_ := Aside0.mk (Kd.R_elder' (by (with_reducible repeat (first | apply Kd.R_alloc | apply Kd.R_drewN | apply Kd.R_drew)); exact HO263.out) (Kd.R_base ho0) hb); have n13_ := Aside0.mk (Kd.R_elder' (by (with_reducible repeat (first | apply Kd.R_alloc | apply Kd.R_drewN | apply Kd.R_drew)); exact HO266.out) (Kd.R_base ho0) hb); have n14_ := Aside0.mk (Kd.R_elder' (by (with_reducible repeat (first | apply Kd.R_alloc | apply Kd.R_drewN | apply Kd.R_drew)); exact HO269.out) (Kd.R_base ho0) hb); have n15_ := Aside0.mk (Kd.R_lower (Kd.R_new' (Kd.R_new' (Kd.R_new' (Kd.R_new' (Kd.R_new' (Kd.R_new' (Kd.R_new' (Kd.R_new' (Kd.R_new' (Kd.R_new' (Kd.R_new' (Kd.R_newM (M := fun k_ => (w.heap.size ≤ k_)) ho0 (below_size (by repeat (first | (with_reducible first | exact HB.out | apply below_alloc | apply pw_below_drewN | apply below_drew1) | exact HB.out))) (fun k_ h_ => h_)) (Kd.R_lt (by (with_reducible repeat (first | apply Kd.R_alloc | apply Kd.R_drewN | apply Kd.R_drew)); exact HO233.out))) (Kd.R_lt (by (with_reducible repeat (first | apply Kd.R_alloc | apply Kd.R_drewN | apply Kd.R_drew)); exact HO236.out))) (Kd.R_lt (by (with_reducible repeat (first | apply Kd.R_alloc | apply Kd.R_drewN | apply Kd.R_drew)); exact HO240.out))) (Kd.R_lt (by (with_reducible repeat (first | apply Kd.R_alloc | apply Kd.R_drewN | apply Kd.R_drew)); exact HO246.out))) (Kd.R_lt (by (with_reducible repeat (first | apply Kd.R_alloc | apply Kd.R_drewN | apply Kd.R_drew)); exact HO249.out))) (Kd.R_lt (by (with_reducible repeat (first | apply Kd.R_alloc | apply Kd.R_drewN | apply Kd.R_drew)); exact HO253.out))) (Kd.R_lt (by (with_reducible repeat (first | apply Kd.R_alloc | apply Kd.R_drewN | apply Kd.R_drew)); exact HO256.out))) (Kd.R_lt (by (with_reducible repeat (first | apply Kd.R_alloc | apply Kd.R_drewN | apply Kd.R_drew)); exact HO260.out))) (Kd.R_lt (by (with_reducible repeat (first | apply Kd.R_alloc | apply Kd.R_drewN | apply Kd.R_drew)); exact HO263.out))) (Kd.R_lt (by (with_reducible repeat (first | apply Kd.R_alloc | apply Kd.R_drewN | apply Kd.R_drew)); exact HO266.out))) (Kd.R_lt (by (with_reducible repeat (first | apply Kd.R_alloc | apply Kd.R_drewN | apply Kd.R_drew)); exact HO269.out))) (below_size (by repeat (first | (with_reducible first | exact HB.out | apply below_alloc | apply pw_below_drewN | apply below_drew1) | exact HB.out)))); have n16_ := Aside0.mk (below_step (by repeat (first | (with_reducible first | exact HB.out | apply below_alloc | apply pw_below_drewN | apply below_drew1) | exact HB.out)) hb); clear HO0; clear HO1; clear HO2; clear HO225; clear HO233; clear HO236; clear HO240; clear HO246; clear HO249; clear HO253; clear HO256; clear HO260; clear HO263; clear HO266; clear HO269; clear HB; have HO0 := n0_; have HO1 := n1_; have HO2 := n2_; have HO225 := n3_; have HO233 := n4_; have HO236 := n5_; have HO240 := n6_; have HO246 := n7_; have HO249 := n8_; have HO253 := n9_; have HO256 := n10_; have HO260 := n11_; have HO263 := n12_; have HO266 := n13_; have HO269 := n14_; have HO273 := n15_; have HB := n16_; clear n0_ n1_ n2_ n3_ n4_ n5_ n6_ n7_ n8_ n9_ n10_ n11_ n12_ n13_ n14_ n15_ n16_; (try clear hb); (try clear hb2); (try clear hk); (try clear hi); (try clear ho0); obtain ⟨Ao65, co65, eo65⟩ := Kd.R_slice HO273.out; subst eo65))
            go_ret
            exact ⟨by first | rfl | (simp [errW_none, errW_some] <;> rfl) | (simp [*, errW_none, errW_some] <;> rfl), by repeat (first | (with_reducible first | exact HB.out | apply below_alloc | apply pw_below_drewN | apply below_drew1) | exact HB.out)⟩
          · replace c30 := Bool.eq_false_iff.mpr c30
            subst c30
            have H1 : (some false) = some r := by rw [if_neg (show ¬ (false = true) by decide)] at H; exact H
            clear H
            have H := H1
            clear H1
            exact absurd ((Option.some.inj H).trans HT.out) (by decide)
        · replace c24 := Bool.eq_false_iff.mpr c24
          subst c24
          have H1 : (some false) = some r := by rw [if_neg (show ¬ (false = true) by decide)] at H; exact H
          clear H
          have H := H1
          clear H1
          exact absurd ((Option.some.inj H).trans HT.out) (by decide)
      · replace c20 := Bool.eq_false_iff.mpr c20
        subst c20
        have H1 : (some false) = some r := by rw [if_neg (show ¬ (false = true) by decide)] at H; exact H
        clear H
        have H := H1
        clear H1
        exact absurd ((Option.some.inj H).trans HT.out) (by decide)
    · replace c16 := Bool.eq_false_iff.mpr c16
      subst c16
      have H1 : (some false) = some r := by rw [if_neg (show ¬ (false = true) by decide)] at H; exact H
      clear H
      have H := H1
      clear H1
      exact absurd ((Option.some.inj H).trans HT.out) (by decide)
  · replace c5 := Bool.eq_false_iff.mpr c5
    subst c5
    have H1 : ((figureheadlaw02_answers.f k).bind fun t227 => (some t227)) = some r := by rw [if_neg (show ¬ (false = true) by decide)] at H; exact H
    clear H
    have H := H1
    clear H1
    replace H := Option.bind_eq_some_iff.mp H
    obtain ⟨t227, A660, H⟩ := H
    replace H : (some t227) = some r := H
    have A66 := Aside0.mk A660
    clear A660
    obtain rfl := Option.some.inj H
    go_enter Try.func5, Try.ntmps5
    go_wp2_with (first | ((with_reducible refine gate_dst (N := 12) rfl ?_); (try (refine gate_guard (by rfl) ?_; dsimp only)); refine Kd.N_lit (Kd.slice 30 (Kd.int .u32)) _ 22 ?hg (N' := 12) ?hd (xs := ([l0, l1, l2] : List (List Int))) (inner := [.slice A0 l0.length c0, .slice A1 l1.length c1, .slice A2 l2.length c2]) (ok := (fun k_ => ((P0_ k_ ∨ P1_ k_ ∨ P2_ k_) ∨ w.heap.size ≤ k_))) (okp := (fun k_ => ((P0_ k_ ∨ P1_ k_ ∨ P2_ k_) ∨ w.heap.size ≤ k_))) ?hr ?hp (fun _ hk => hk) ((show ∀ k_, w.heap.size ≤ k_ → (fun k_ => ((P0_ k_ ∨ P1_ k_ ∨ P2_ k_) ∨ w.heap.size ≤ k_)) k_ from fun k_ hk => (.inr (Nat.le_trans (below_size (by repeat (first | (with_reducible first | exact HB.out | apply below_alloc | apply pw_below_drewN | apply below_drew1) | exact HB.out))) hk))) _ (Nat.le_refl _)) (Below.refl _ _) (Nat.le_refl _) (by simp) ?_; (case hd => rfl); (case hg => rfl); (case hr => first | (go_simp; done) | (go_simp; rfl)); (case hp => exact (Reps.one (show Kd.FK (Kd.slice 30 (Kd.int .u32)) _ _ l0 [.slice A0 l0.length c0] from (Kd.FK_slice_mk (Kd.V_reads' (Kd.V_mono (ok' := (fun k_ => ((P0_ k_ ∨ P1_ k_ ∨ P2_ k_) ∨ w.heap.size ≤ k_))) (HO0.out) (fun k_ hk => hk))).2.1 (Kd.V_F (Kd.V_mono (ok' := (fun k_ => ((P0_ k_ ∨ P1_ k_ ∨ P2_ k_) ∨ w.heap.size ≤ k_))) (HO0.out) (fun k_ hk => hk))))) (Reps.one (show Kd.FK (Kd.slice 30 (Kd.int .u32)) _ _ l1 [.slice A1 l1.length c1] from (Kd.FK_slice_mk (Kd.V_reads' (Kd.V_mono (ok' := (fun k_ => ((P0_ k_ ∨ P1_ k_ ∨ P2_ k_) ∨ w.heap.size ≤ k_))) (HO1.out) (fun k_ hk => hk))).2.1 (Kd.V_F (Kd.V_mono (ok' := (fun k_ => ((P0_ k_ ∨ P1_ k_ ∨ P2_ k_) ∨ w.heap.size ≤ k_))) (HO1.out) (fun k_ hk => hk))))) (Reps.one (show Kd.FK (Kd.slice 30 (Kd.int .u32)) _ _ l2 [.slice A2 l2.length c2] from (Kd.FK_slice_mk (Kd.V_reads' (Kd.V_mono (ok' := (fun k_ => ((P0_ k_ ∨ P1_ k_ ∨ P2_ k_) ∨ w.heap.size ≤ k_))) (HO2.out) (fun k_ hk => hk))).2.1 (Kd.V_F (Kd.V_mono (ok' := (fun k_ => ((P0_ k_ ∨ P1_ k_ ∨ P2_ k_) ∨ w.heap.size ≤ k_))) (HO2.out) (fun k_ hk => hk))))) (Reps.none _ _))))); intro v224 w67 ho68 hb hg_ hnew_; clear hg_ hnew_; (first | rw [← Ny223.out] at ho68 | (simp only [Int.reduceToNat] at ho68; rw [← Ny223.out] at ho68)); have n0_ := Aside0.mk (Kd.V_elder' (by (with_reducible repeat (first | apply Kd.V_alloc | apply Kd.V_drewN | apply Kd.V_drew)); exact HO0.out) (Kd.N_base ho68) hb); have n1_ := Aside0.mk (Kd.V_elder' (by (with_reducible repeat (first | apply Kd.V_alloc | apply Kd.V_drewN | apply Kd.V_drew)); exact HO1.out) (Kd.N_base ho68) hb); have n2_ := Aside0.mk (Kd.V_elder' (by (with_reducible repeat (first | apply Kd.V_alloc | apply Kd.V_drewN | apply Kd.V_drew)); exact HO2.out) (Kd.N_base ho68) hb); have n3_ := Aside0.mk (Kd.N_lower ho68 (below_size (by repeat (first | (with_reducible first | exact HB.out | apply below_alloc | apply pw_below_drewN | apply below_drew1) | exact HB.out)))); have n4_ := Aside0.mk (below_step (by repeat (first | (with_reducible first | exact HB.out | apply below_alloc | apply pw_below_drewN | apply below_drew1) | exact HB.out)) hb); clear HO0; clear HO1; clear HO2; clear HB; have HO0 := n0_; have HO1 := n1_; have HO2 := n2_; have HO225 := n3_; have HB := n4_; clear n0_ n1_ n2_ n3_ n4_; clear hb ho68; obtain ⟨Ao69, co69, eo69⟩ := Kd.N_slice HO225.out; subst eo69) | ((with_reducible refine gate_callee (f := 15) rfl ?_); refine goesL_ (some 13) rfl rfl Try.func15 (by kernel_rfl) rfl #[.slice Ao69 y223.length co69] rfl (by (try simp only [List.map_toArray, List.map_cons, List.map_nil]); first | done | rfl | (simp only [List.length_drop, List.length_take]; rfl)) ?_; (with_reducible refine (figureheadlaw02_good.calls k _ _ y223 false _ ?side1 ?side2 A4.out).mono ?_); (case side1 => repeat (first | exact (Kd.N_reads' HO225.out).2.2 | (with_reducible refine Kd.C_alloc ?_ _) | (with_reducible refine Kd.C_drewN ?_ _) | (with_reducible refine Kd.C_drew ?_))); (case side2 => exact (Kd.N_reads' HO225.out).2.1); rintro e w' ⟨rfl, ⟨nd, rfl⟩⟩; refine ⟨_, rfl, ?_⟩) | ((with_reducible refine gate_callee (f := 16) rfl ?_); refine goesL_ (some 15) rfl rfl Try.func16 (by kernel_rfl) rfl #[] rfl (by (try simp only [List.map_toArray, List.map_cons, List.map_nil]); first | done | rfl | (simp only [List.length_drop, List.length_take]; rfl)) ?_; (with_reducible refine (figureheadlaw02_answers.calls k  t227 _ ?side1 A66.out).mono ?_); (case side1 => exact ⟨by first | rfl | exact HT.out⟩); rintro e w70 ⟨rfl, hb⟩; refine ⟨_, rfl, ?_⟩; have n0_ := Aside0.mk (Kd.V_below (by (with_reducible repeat (first | apply Kd.V_alloc | apply Kd.V_drewN | apply Kd.V_drew)); exact HO0.out) hb); have n1_ := Aside0.mk (Kd.V_below (by (with_reducible repeat (first | apply Kd.V_alloc | apply Kd.V_drewN | apply Kd.V_drew)); exact HO1.out) hb); have n2_ := Aside0.mk (Kd.V_below (by (with_reducible repeat (first | apply Kd.V_alloc | apply Kd.V_drewN | apply Kd.V_drew)); exact HO2.out) hb); have n3_ := Aside0.mk (Kd.N_below (by (with_reducible repeat (first | apply Kd.N_alloc | apply Kd.N_drewN | apply Kd.N_drew)); exact HO225.out) hb); have n4_ := Aside0.mk (below_step (by repeat (first | (with_reducible first | exact HB.out | apply below_alloc | apply pw_below_drewN | apply below_drew1) | exact HB.out)) hb); clear HO0; clear HO1; clear HO2; clear HO225; clear HB; have HO0 := n0_; have HO1 := n1_; have HO2 := n2_; have HO225 := n3_; have HB := n4_; clear n0_ n1_ n2_ n3_ n4_; (try clear hb); (try clear hb2); (try clear hk); (try clear hi)))
    go_ret
    exact ⟨by first | rfl | (simp [errW_none, errW_some] <;> rfl) | (simp [*, errW_none, errW_some] <;> rfl), by repeat (first | (with_reducible first | exact HB.out | apply below_alloc | apply pw_below_drewN | apply below_drew1) | exact HB.out)⟩

end Go.Proofs.Ytkhmdpplpecgcaa.Px

namespace Go.Proofs.Ytkhmdpplpecgcaa.Px
open Fig Go.RowKit Go.Proofs.YtkhmdpplpecgcaaW.PrintWords Go.Proofs.YtkhmdpplpecgcaaW.PrintLast Go.Proofs.YtkhmdpplpecgcaaW.PrintMore
attribute [local go_sem] max2_int min2_int max_two min_two max_three min_three max_four min_four   -- for this text's walks alone

/-! plain facts: figureheadref01_Good -/
theorem Good_loop (l : List Int) (hl : l.length ≤ 4611686018427387904) (h0 : ∀ x ∈ l, 0 ≤ x) : ∀ (d n : Nat), l.length - n = d → n ≤ l.length → Ev (fun k => figureheadref01_Good.l0 k l (n : Int)) (goodL (l.drop n))
  | 0, n, hd, hn => by
    refine evDone (r' := true) (fun k => ?_) ?_
    · simp only [figureheadref01_Good.l0]; rw [if_neg (by omega)]
    · rw [List.drop_of_length_le (by omega)]; rfl
  | d + 1, n, hd, hn => by
    have hlt : n < l.length := by omega
    have hb := rd_get hlt
    have hc := List.drop_eq_getElem_cons hlt
    have hp := h0 _ (List.getElem_mem hlt)
    by_cases h9 : rd l (n : Int) > 999999999
    · refine evDone (r' := false) (fun k => ?_) ?_
      · simp only [figureheadref01_Good.l0]; rw [if_pos (by omega), if_pos (by omega), if_pos h9]
      · rw [hc]; symm; rw [Bool.eq_false_iff]; intro e; have := (goodL_cons.1 e).1; omega
    · refine Ev.step (f := fun k => figureheadref01_Good.l0 k l ((n + 1 : Nat) : Int)) (fun k => ?_) ?_
      · simp only [figureheadref01_Good.l0]; rw [if_pos (by omega), if_pos (by omega), if_neg h9, w64 (by omega) (by omega)]; rfl
      · have := Good_loop l hl h0 d (n + 1) (by omega) (by omega)
        rw [hc]
        have e : goodL (l[n] :: l.drop (n + 1)) = goodL (l.drop (n + 1)) := by
          rw [Bool.eq_iff_iff, goodL_cons]
          exact ⟨fun h => h.2, fun h => ⟨⟨hp, by omega⟩, h⟩⟩
        rw [e]; exact this
theorem Good_ev {l : List Int} (hl : l.length ≤ 4611686018427387904) (h0 : ∀ x ∈ l, 0 ≤ x) : Ev (fun k => figureheadref01_Good.f k l) (goodL l) := by
  have := Good_loop l hl h0 l.length 0 (by omega) (by omega)
  simpa [figureheadref01_Good.f] using this

end Go.Proofs.Ytkhmdpplpecgcaa.Px
