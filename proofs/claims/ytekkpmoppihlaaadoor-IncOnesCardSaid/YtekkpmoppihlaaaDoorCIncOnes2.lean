/- The functions that the law IncOnes reaches, told as plain functions, with what is proved of them, and the words they need (part 2). -/
import Derived.Test.YtekkpmoppihlaaaDoorCIncOnes0
import Derived.Test.YtekkpmoppihlaaaDoorCIncOnes1
set_option linter.unusedVariables false
set_option linter.unusedSimpArgs false
section
namespace Go.Proofs.YtekkpmoppihlaaaDoor.Px
open Fig Go.RowKit Go.Proofs.YtekkpmoppihlaaaDoorW.PrintWords Go.Proofs.YtekkpmoppihlaaaDoorW.PrintLast Go.Proofs.YtekkpmoppihlaaaDoorW.PrintMore
attribute [local go_sem] max2_int min2_int max_two min_two max_three min_three max_four min_four   -- for this text's walks alone
attribute [local go_sem] fieldA23_0 fieldA23_1 fieldA23_2
def div_guess.l0 : Nat → List Int → List Int → Int → Int → Option (Int × List Int)
  | 0, _, _, _, _ => none
  | k + 1, x0, x1, x6, x7 => if ((x7 - x6) % 4294967296) > 1 then ((mul_Small.f k x1 (((x6 + x7) % 4294967296) / 2) 0).bind fun t130 => ((nat_Cmp.f t130 x0).bind fun t133 => (if t133 ≤ 0 then (div_guess.l0 k x0 x1 (((x6 + x7) % 4294967296) / 2) x7) else (div_guess.l0 k x0 x1 x6 (((x6 + x7) % 4294967296) / 2))))) else ((mul_Small.f k x1 x6 0).bind fun t123 => ((nat_Sub.f x0 t123).bind fun bt126 => (some (x6, bt126.1))))
def div_guess.f (k : Nat) (l0 : List Int) (l1 : List Int) : Option (Int × List Int) := div_guess.l0 k l0 l1 0 1000000000
theorem div_guess.mono_l : ∀ k, (∀ y0 y1 y2 y3, LeO (div_guess.l0 k y0 y1 y2 y3) (div_guess.l0 (k + 1) y0 y1 y2 y3))
  | 0 => fun _ _ _ _ r h => by simp [div_guess.l0] at h
  | k + 1 => by
    have ih0 := div_guess.mono_l k
    · intro y0 y1 y2 y3
      unfold div_guess.l0
      repeat' first
      | (with_reducible exact ih0 _ _ _ _)
      | (with_reducible exact mul_Small.mono _ _ _ _)
      | (with_reducible exact LeO.refl _)
      | (with_reducible exact LeO.none _)
      | (with_reducible refine LeO.ite ?_ ?_)
      | (with_reducible refine LeO.bind ?_ (fun _ => ?_))
      | exact ih0 _ _ _ _
      | exact mul_Small.mono _ _ _ _
      | exact LeO.none _
      | refine LeO.ite ?_ ?_
      | refine LeO.bind ?_ (fun _ => ?_)
theorem div_guess.mono : ∀ a0 a1 k, LeO (div_guess.f k a0 a1) (div_guess.f (k + 1) a0 a1) := by
  intro a0 a1 k
  have ih0 := div_guess.mono_l k
  unfold div_guess.f
  repeat' first
      | (with_reducible exact ih0 _ _ _ _)
      | (with_reducible exact mul_Small.mono _ _ _ _)
      | (with_reducible exact LeO.refl _)
      | (with_reducible exact LeO.none _)
      | (with_reducible refine LeO.ite ?_ ?_)
      | (with_reducible refine LeO.bind ?_ (fun _ => ?_))
      | exact ih0 _ _ _ _
      | exact mul_Small.mono _ _ _ _
      | exact LeO.none _
      | refine LeO.ite ?_ ?_
      | refine LeO.bind ?_ (fun _ => ?_)
set_option maxHeartbeats 8000000 in
set_option maxRecDepth 100000 in
theorem div_guess.calls (k : Nat) (A0 : Option Addr) (c0 : Nat) (l0 : List Int) (A1 : Option Addr) (c1 : Nat) (l1 : List Int) (r1 : Int) (r2 : List Int) (w : World) (hr0 : Kd.C (Kd.int .u32) w A0 l0.length l0) (hc0 : l0.length ≤ c0) (hr1 : Kd.C (Kd.int .u32) w A1 l1.length l1) (hc1 : l1.length ≤ c1) (h : div_guess.f k l0 l1 = some (r1, r2)) :
    Calls Tryd.prog 46 #[.slice A0 l0.length c0, .slice A1 l1.length c1] w fun e w' => ∃ v1_ : Value, e = .returned (.tuple #[.int .u32 r1, v1_]) ∧ Kd.R (Kd.int .u32) 48 w' w.heap.size (fun _ => True) v1_ r2 ∧ Below w.heap.size w w' := by
  have HR0 := Aside0.mk hr0
  have HC0 := Aside0.mk hc0
  clear hr0 hc0
  have HR1 := Aside0.mk hr1
  have HC1 := Aside0.mk hc1
  clear hr1 hc1
  have HB := Aside0.mk (Below.refl w.heap.size w)
  have H : (div_guess.l0 k l0 l1 0 1000000000) = some (r1, r2) := h
  clear h
  have H' := Aside0.mk H
  clear H
  go_enter Tryd.func46, Tryd.ntmps46
  go_wp2
  go_loopg [6, 7] k (fun kq v6 v7 w' => ∃ (x6_1 : Int) (x7_1 : Int), v6 = .int .u32 x6_1 ∧ v7 = .int .u32 x7_1 ∧ Aside0 (div_guess.l0 kq l0 l1 x6_1 x7_1 = some (r1, r2)) ∧ Aside0 (kq ≤ k) ∧ Aside0 (Below w.heap.size w w'))
  case atStart => exact ⟨(0), (1000000000), (by first | rfl | (simp; done) | (simp [*]; done) | (simp [*, Fig.bne_nil]; done)), (by first | rfl | (simp; done) | (simp [*]; done) | (simp [*, Fig.bne_nil]; done)), H', ⟨Nat.le_refl _⟩, ⟨by repeat (first | (with_reducible first | exact HB.out | apply below_alloc | apply pw_below_drewN | apply below_drew1) | exact HB.out)⟩⟩
  case round =>
    clear H'
    try clear c1
    try clear p2
    obtain ⟨x6_1, x7_1, rfl, rfl, HA, HK1, HB⟩ := hrel
    cases gk with
    | zero => exact absurd HA.out (by simp [div_guess.l0])
    | succ k1 =>
      have H := HA.out
      clear HA
      simp only [div_guess.l0] at H
      by_cases c3 : ((x7_1 - x6_1) % 4294967296) > 1
      · rw [if_pos c3] at H
        have c3b0 : decide (1 < ((x7_1 - x6_1) % 4294967296)) = true := decide_eq_true c3
        clear c3
        replace H := Option.bind_eq_some_iff.mp H
        obtain ⟨t130, A40, H⟩ := H
        replace H : ((nat_Cmp.f t130 l0).bind fun t133 => (if t133 ≤ 0 then (div_guess.l0 k1 l0 l1 (((x6_1 + x7_1) % 4294967296) / 2) x7_1) else (div_guess.l0 k1 l0 l1 x6_1 (((x6_1 + x7_1) % 4294967296) / 2)))) = some (r1, r2) := H
        have A4 := Aside0.mk A40
        clear A40
        replace H := Option.bind_eq_some_iff.mp H
        obtain ⟨t133, A50, H⟩ := H
        replace H : (if t133 ≤ 0 then (div_guess.l0 k1 l0 l1 (((x6_1 + x7_1) % 4294967296) / 2) x7_1) else (div_guess.l0 k1 l0 l1 x6_1 (((x6_1 + x7_1) % 4294967296) / 2))) = some (r1, r2) := H
        have A5 := Aside0.mk A50
        clear A50
        by_cases c6 : t133 ≤ 0
        · rw [if_pos c6] at H
          have c6b0 : decide (t133 ≤ 0) = true := decide_eq_true c6
          clear c6
          have H' := Aside0.mk H
          clear H
          go_wp2_with (first | ((with_reducible refine gate_callee (f := 45) rfl ?_); refine goesL_ (some 21) rfl rfl Tryd.func45 (by kernel_rfl) rfl #[.slice A1 l1.length c1, .int .u32 (((x6_1 + x7_1) % 4294967296) / 2), .int .u32 0] rfl (by (try simp only [List.map_toArray]); (try simp only [List.map_cons]); (try simp only [List.map_nil]); first | done | rfl | (simp only [List.length_drop, List.length_take]; rfl)) ?_; (with_reducible refine (mul_Small.calls k1 _ _ l1 (((x6_1 + x7_1) % 4294967296) / 2) 0 t130 _ ?side1 ?side2 A4.out).mono ?_); (case side1 => repeat (first | exact (Kd.C_below HR1.out HB.out) | (with_reducible refine Kd.C_alloc ?_ _) | (with_reducible refine Kd.C_drewN ?_ _) | (with_reducible refine Kd.C_drew ?_))); (case side2 => exact HC1.out); rintro e w7 ⟨v131, rfl, ho0, hb⟩; refine ⟨_, rfl, ?_⟩; have n0_ := Aside0.mk (Kd.R_lower ho0 (below_size (by repeat (first | (with_reducible first | exact HB.out | apply below_alloc | apply pw_below_drewN | apply below_drew1) | exact HB.out)))); have n1_ := Aside0.mk (below_step (by repeat (first | (with_reducible first | exact HB.out | apply below_alloc | apply pw_below_drewN | apply below_drew1) | exact HB.out)) hb); clear HB; have HO132 := n0_; have HB := n1_; clear n0_ n1_; (try clear hb); (try clear hb2); (try clear hk); (try clear hi); (try clear ho0); obtain ⟨Ao8, co8, eo8⟩ := Kd.R_slice HO132.out; subst eo8) | ((with_reducible refine gate_callee (f := 25) rfl ?_); refine goesL_ (some 23) rfl rfl Tryd.func25 (by kernel_rfl) rfl #[.slice Ao8 t130.length co8, .slice A0 l0.length c0] rfl (by (try simp only [List.map_toArray]); (try simp only [List.map_cons]); (try simp only [List.map_nil]); first | done | rfl | (simp only [List.length_drop, List.length_take]; rfl)) ?_; (with_reducible refine (nat_Cmp.calls _ _ t130 _ _ l0 t133 _ ?side1 ?side2 ?side3 ?side4 A5.out).mono ?_); (case side1 => repeat (first | exact (Kd.R_reads' HO132.out).2.2 | (with_reducible refine Kd.C_alloc ?_ _) | (with_reducible refine Kd.C_drewN ?_ _) | (with_reducible refine Kd.C_drew ?_))); (case side2 => exact (Kd.R_reads' HO132.out).2.1); (case side3 => repeat (first | exact (Kd.C_below HR0.out HB.out) | (with_reducible refine Kd.C_alloc ?_ _) | (with_reducible refine Kd.C_drewN ?_ _) | (with_reducible refine Kd.C_drew ?_))); (case side4 => exact HC0.out); rintro e w' ⟨rfl, ⟨nd, rfl⟩⟩; refine ⟨_, rfl, ?_⟩))
          go_roundg k1
          case measure => have := HK1.out; omega
          case rel => exact ⟨(((x6_1 + x7_1) % 4294967296) / 2), (x7_1), (by first | rfl | (simp; done) | (simp [*]; done) | (simp [*, Fig.bne_nil]; done)), (by first | rfl | (simp; done) | (simp [*]; done) | (simp [*, Fig.bne_nil]; done)), H', ⟨by have := HK1.out; omega⟩, ⟨by repeat (first | (with_reducible first | exact HB.out | apply below_alloc | apply pw_below_drewN | apply below_drew1) | exact HB.out)⟩⟩
        · rw [if_neg c6] at H
          have c6b0 : decide (t133 ≤ 0) = false := decide_eq_false c6
          clear c6
          have H' := Aside0.mk H
          clear H
          go_wp2_with (first | ((with_reducible refine gate_callee (f := 45) rfl ?_); refine goesL_ (some 21) rfl rfl Tryd.func45 (by kernel_rfl) rfl #[.slice A1 l1.length c1, .int .u32 (((x6_1 + x7_1) % 4294967296) / 2), .int .u32 0] rfl (by (try simp only [List.map_toArray]); (try simp only [List.map_cons]); (try simp only [List.map_nil]); first | done | rfl | (simp only [List.length_drop, List.length_take]; rfl)) ?_; (with_reducible refine (mul_Small.calls k1 _ _ l1 (((x6_1 + x7_1) % 4294967296) / 2) 0 t130 _ ?side1 ?side2 A4.out).mono ?_); (case side1 => repeat (first | exact (Kd.C_below HR1.out HB.out) | (with_reducible refine Kd.C_alloc ?_ _) | (with_reducible refine Kd.C_drewN ?_ _) | (with_reducible refine Kd.C_drew ?_))); (case side2 => exact HC1.out); rintro e w9 ⟨v131, rfl, ho0, hb⟩; refine ⟨_, rfl, ?_⟩; have n0_ := Aside0.mk (Kd.R_lower ho0 (below_size (by repeat (first | (with_reducible first | exact HB.out | apply below_alloc | apply pw_below_drewN | apply below_drew1) | exact HB.out)))); have n1_ := Aside0.mk (below_step (by repeat (first | (with_reducible first | exact HB.out | apply below_alloc | apply pw_below_drewN | apply below_drew1) | exact HB.out)) hb); clear HB; have HO132 := n0_; have HB := n1_; clear n0_ n1_; (try clear hb); (try clear hb2); (try clear hk); (try clear hi); (try clear ho0); obtain ⟨Ao10, co10, eo10⟩ := Kd.R_slice HO132.out; subst eo10) | ((with_reducible refine gate_callee (f := 25) rfl ?_); refine goesL_ (some 23) rfl rfl Tryd.func25 (by kernel_rfl) rfl #[.slice Ao10 t130.length co10, .slice A0 l0.length c0] rfl (by (try simp only [List.map_toArray]); (try simp only [List.map_cons]); (try simp only [List.map_nil]); first | done | rfl | (simp only [List.length_drop, List.length_take]; rfl)) ?_; (with_reducible refine (nat_Cmp.calls _ _ t130 _ _ l0 t133 _ ?side1 ?side2 ?side3 ?side4 A5.out).mono ?_); (case side1 => repeat (first | exact (Kd.R_reads' HO132.out).2.2 | (with_reducible refine Kd.C_alloc ?_ _) | (with_reducible refine Kd.C_drewN ?_ _) | (with_reducible refine Kd.C_drew ?_))); (case side2 => exact (Kd.R_reads' HO132.out).2.1); (case side3 => repeat (first | exact (Kd.C_below HR0.out HB.out) | (with_reducible refine Kd.C_alloc ?_ _) | (with_reducible refine Kd.C_drewN ?_ _) | (with_reducible refine Kd.C_drew ?_))); (case side4 => exact HC0.out); rintro e w' ⟨rfl, ⟨nd, rfl⟩⟩; refine ⟨_, rfl, ?_⟩))
          go_roundg k1
          case measure => have := HK1.out; omega
          case rel => exact ⟨(x6_1), (((x6_1 + x7_1) % 4294967296) / 2), (by first | rfl | (simp; done) | (simp [*]; done) | (simp [*, Fig.bne_nil]; done)), (by first | rfl | (simp; done) | (simp [*]; done) | (simp [*, Fig.bne_nil]; done)), H', ⟨by have := HK1.out; omega⟩, ⟨by repeat (first | (with_reducible first | exact HB.out | apply below_alloc | apply pw_below_drewN | apply below_drew1) | exact HB.out)⟩⟩
      · rw [if_neg c3] at H
        have c3b0 : decide (1 < ((x7_1 - x6_1) % 4294967296)) = false := decide_eq_false c3
        clear c3
        replace H := Option.bind_eq_some_iff.mp H
        obtain ⟨t123, A110, H⟩ := H
        replace H : ((nat_Sub.f l0 t123).bind fun bt126 => (some (x6_1, bt126.1))) = some (r1, r2) := H
        have A11 := Aside0.mk A110
        clear A110
        replace H := Option.bind_eq_some_iff.mp H
        obtain ⟨⟨t126, t127⟩, A120, H⟩ := H
        replace H : (some (x6_1, t126)) = some (r1, r2) := H
        have A12 := Aside0.mk A120
        clear A120
        simp only [Option.some.injEq, Prod.mk.injEq] at H
        obtain ⟨rfl, rfl⟩ := H
        go_wp2_with (first | ((with_reducible refine gate_callee (f := 45) rfl ?_); refine goesL_ (some 31) rfl rfl Tryd.func45 (by kernel_rfl) rfl #[.slice A1 l1.length c1, .int .u32 x6_1, .int .u32 0] rfl (by (try simp only [List.map_toArray]); (try simp only [List.map_cons]); (try simp only [List.map_nil]); first | done | rfl | (simp only [List.length_drop, List.length_take]; rfl)) ?_; (with_reducible refine (mul_Small.calls k1 _ _ l1 x6_1 0 t123 _ ?side1 ?side2 A11.out).mono ?_); (case side1 => repeat (first | exact (Kd.C_below HR1.out HB.out) | (with_reducible refine Kd.C_alloc ?_ _) | (with_reducible refine Kd.C_drewN ?_ _) | (with_reducible refine Kd.C_drew ?_))); (case side2 => exact HC1.out); rintro e w13 ⟨v124, rfl, ho0, hb⟩; refine ⟨_, rfl, ?_⟩; have n0_ := Aside0.mk (Kd.R_lower ho0 (below_size (by repeat (first | (with_reducible first | exact HB.out | apply below_alloc | apply pw_below_drewN | apply below_drew1) | exact HB.out)))); have n1_ := Aside0.mk (below_step (by repeat (first | (with_reducible first | exact HB.out | apply below_alloc | apply pw_below_drewN | apply below_drew1) | exact HB.out)) hb); clear HB; have HO125 := n0_; have HB := n1_; clear n0_ n1_; (try clear hb); (try clear hb2); (try clear hk); (try clear hi); (try clear ho0); obtain ⟨Ao14, co14, eo14⟩ := Kd.R_slice HO125.out; subst eo14) | ((with_reducible refine gate_callee (f := 60) rfl ?_); refine goesL_ (some 32) rfl rfl Tryd.func60 (by kernel_rfl) rfl #[.slice A0 l0.length c0, .slice Ao14 t123.length co14] rfl (by (try simp only [List.map_toArray]); (try simp only [List.map_cons]); (try simp only [List.map_nil]); first | done | rfl | (simp only [List.length_drop, List.length_take]; rfl)) ?_; (with_reducible refine (nat_Sub.calls _ _ l0 _ _ t123 t126 t127 _ ?side1 ?side2 ?side3 ?side4 A12.out).mono ?_); (case side1 => repeat (first | exact (Kd.C_below HR0.out HB.out) | (with_reducible refine Kd.C_alloc ?_ _) | (with_reducible refine Kd.C_drewN ?_ _) | (with_reducible refine Kd.C_drew ?_))); (case side2 => exact HC0.out); (case side3 => repeat (first | exact (Kd.R_reads' HO125.out).2.2 | (with_reducible refine Kd.C_alloc ?_ _) | (with_reducible refine Kd.C_drewN ?_ _) | (with_reducible refine Kd.C_drew ?_))); (case side4 => exact (Kd.R_reads' HO125.out).2.1); rintro e w15 ⟨v128, rfl, ho0, hb⟩; refine ⟨_, rfl, ?_⟩; have n0_ := Aside0.mk (Kd.R_elder' (by (with_reducible repeat (first | apply Kd.R_alloc | apply Kd.R_drewN | apply Kd.R_drew)); exact HO125.out) (Kd.R_base ho0) hb); have n1_ := Aside0.mk (Kd.R_lower (Kd.R_new' ho0 (Kd.R_lt (by (with_reducible repeat (first | apply Kd.R_alloc | apply Kd.R_drewN | apply Kd.R_drew)); exact HO125.out))) (below_size (by repeat (first | (with_reducible first | exact HB.out | apply below_alloc | apply pw_below_drewN | apply below_drew1) | exact HB.out)))); have n2_ := Aside0.mk (below_step (by repeat (first | (with_reducible first | exact HB.out | apply below_alloc | apply pw_below_drewN | apply below_drew1) | exact HB.out)) hb); clear HO125; clear HB; have HO125 := n0_; have HO129 := n1_; have HB := n2_; clear n0_ n1_ n2_; (try clear hb); (try clear hb2); (try clear hk); (try clear hi); (try clear ho0)))
        go_ret2
        exact ⟨_, by first | rfl | (simp [errW_none, errW_some] <;> rfl) | (simp [*, errW_none, errW_some] <;> rfl), by (with_reducible repeat (first | apply Kd.R_alloc | apply Kd.R_drewN | apply Kd.R_drew)); exact Kd.R_mono HO129.out (fun _ hk => trivial), by repeat (first | (with_reducible first | exact HB.out | apply below_alloc | apply pw_below_drewN | apply below_drew1) | exact HB.out)⟩
end Go.Proofs.YtekkpmoppihlaaaDoor.Px
end
section
namespace Go.Proofs.YtekkpmoppihlaaaDoor.Px
open Fig Go.RowKit Go.Proofs.YtekkpmoppihlaaaDoorW.PrintWords Go.Proofs.YtekkpmoppihlaaaDoorW.PrintLast Go.Proofs.YtekkpmoppihlaaaDoorW.PrintMore
attribute [local go_sem] max2_int min2_int max_two min_two max_three min_three max_four min_four   -- for this text's walks alone
attribute [local go_sem] fieldA23_0 fieldA23_1 fieldA23_2
def div_DivMod.l0 : Nat → List Int → List Int → List Int → List Int → Int → Option (List Int × List Int × Bool)
  | 0, _, _, _, _, _ => none
  | k + 1, x0, x1, x4, x5, x7 => if x7 ≥ 0 then (if 0 ≤ x7 then (if x7 < (x0.length : Int) then ((some (([rd x0 x7] : List Int) : List Int)).bind fun y141 => (if y141.length + x5.length < 35184372088832 then ((nat_Trim.f (y141 ++ x5)).bind fun t147 => ((div_guess.f k t147 x1).bind fun bt150 => (if x7 < (x4.length : Int) then (div_DivMod.l0 k x0 x1 (x4.set (x7 : Int).toNat bt150.1) bt150.2 (wrap64 (x7 - 1))) else (none)))) else (none))) else (none)) else (none)) else ((nat_Trim.f x4).bind fun t155 => ((nat_Trim.f x5).bind fun t158 => (some (t155, t158, true))))
def div_DivMod.f (k : Nat) (l0 : List Int) (l1 : List Int) : Option (List Int × List Int × Bool) := (nat_Trim.f l1).bind fun t134 => (if (t134.length : Int) = 0 then (some (([] : List Int), ([] : List Int), false)) else (if 0 ≤ (l0.length : Int) then (if ((l0.length : Int) : Int).toNat ≤ 70368744177664 then (div_DivMod.l0 k l0 t134 (List.replicate ((l0.length : Int) : Int).toNat 0) ([] : List Int) (wrap64 ((l0.length : Int) - 1))) else (none)) else (none)))
theorem div_DivMod.mono_l : ∀ k, (∀ y0 y1 y2 y3 y4, LeO (div_DivMod.l0 k y0 y1 y2 y3 y4) (div_DivMod.l0 (k + 1) y0 y1 y2 y3 y4))
  | 0 => fun _ _ _ _ _ r h => by simp [div_DivMod.l0] at h
  | k + 1 => by
    have ih0 := div_DivMod.mono_l k
    · intro y0 y1 y2 y3 y4
      unfold div_DivMod.l0
      repeat' first
      | (with_reducible exact ih0 _ _ _ _ _)
      | (with_reducible exact div_guess.mono _ _ _)
      | (with_reducible exact LeO.refl _)
      | (with_reducible exact LeO.none _)
      | (with_reducible refine LeO.ite ?_ ?_)
      | (with_reducible refine LeO.bind ?_ (fun _ => ?_))
      | exact ih0 _ _ _ _ _
      | exact div_guess.mono _ _ _
      | exact LeO.none _
      | refine LeO.ite ?_ ?_
      | refine LeO.bind ?_ (fun _ => ?_)
theorem div_DivMod.mono : ∀ a0 a1 k, LeO (div_DivMod.f k a0 a1) (div_DivMod.f (k + 1) a0 a1) := by
  intro a0 a1 k
  have ih0 := div_DivMod.mono_l k
  unfold div_DivMod.f
  repeat' first
      | (with_reducible exact ih0 _ _ _ _ _)
      | (with_reducible exact div_guess.mono _ _ _)
      | (with_reducible exact LeO.refl _)
      | (with_reducible exact LeO.none _)
      | (with_reducible refine LeO.ite ?_ ?_)
      | (with_reducible refine LeO.bind ?_ (fun _ => ?_))
      | exact ih0 _ _ _ _ _
      | exact div_guess.mono _ _ _
      | exact LeO.none _
      | refine LeO.ite ?_ ?_
      | refine LeO.bind ?_ (fun _ => ?_)
set_option maxHeartbeats 8000000 in
set_option maxRecDepth 100000 in
theorem div_DivMod.calls (k : Nat) (A0 : Option Addr) (c0 : Nat) (l0 : List Int) (A1 : Option Addr) (c1 : Nat) (l1 : List Int) (r1 : List Int) (r2 : List Int) (r3 : Bool) (w : World) (hr0 : Kd.C (Kd.int .u32) w A0 l0.length l0) (hc0 : l0.length ≤ c0) (hr1 : Kd.C (Kd.int .u32) w A1 l1.length l1) (hc1 : l1.length ≤ c1) (h : div_DivMod.f k l0 l1 = some (r1, r2, r3)) :
    Calls Tryd.prog 21 #[.slice A0 l0.length c0, .slice A1 l1.length c1] w fun e w' => ∃ v0_ v1_ : Value, e = .returned (.tuple #[v0_, v1_, .bool r3]) ∧ Kd.R (Kd.int .u32) 48 w' w.heap.size (fun k_ => some k_ ≠ (v1_ : Value).ownBlock) v0_ r1 ∧ Kd.R (Kd.int .u32) 48 w' w.heap.size (fun k_ => some k_ ≠ (v0_ : Value).ownBlock) v1_ r2 ∧ Below w.heap.size w w' := by
  have HR0 := Aside0.mk hr0
  have HC0 := Aside0.mk hc0
  clear hr0 hc0
  have HR1 := Aside0.mk hr1
  have HC1 := Aside0.mk hc1
  clear hr1 hc1
  have HB := Aside0.mk (Below.refl w.heap.size w)
  have H : ((nat_Trim.f l1).bind fun t134 => (if (t134.length : Int) = 0 then (some (([] : List Int), ([] : List Int), false)) else (if 0 ≤ (l0.length : Int) then (if ((l0.length : Int) : Int).toNat ≤ 70368744177664 then (div_DivMod.l0 k l0 t134 (List.replicate ((l0.length : Int) : Int).toNat 0) ([] : List Int) (wrap64 ((l0.length : Int) - 1))) else (none)) else (none)))) = some (r1, r2, r3) := h
  clear h
  replace H := Option.bind_eq_some_iff.mp H
  obtain ⟨t134, A30, H⟩ := H
  replace H : (if (t134.length : Int) = 0 then (some (([] : List Int), ([] : List Int), false)) else (if 0 ≤ (l0.length : Int) then (if ((l0.length : Int) : Int).toNat ≤ 70368744177664 then (div_DivMod.l0 k l0 t134 (List.replicate ((l0.length : Int) : Int).toNat 0) ([] : List Int) (wrap64 ((l0.length : Int) - 1))) else (none)) else (none))) = some (r1, r2, r3) := H
  have A3 := Aside0.mk A30
  clear A30
  by_cases c4 : (t134.length : Int) = 0
  · rw [if_pos c4] at H
    have c4b0 : ((t134.length : Int) == 0) = true := beq_iff_eq.mpr c4
    have c4b1 : ((t134.length : Int) != 0) = false := bne_eq_false_iff_eq.mpr c4
    clear c4
    simp only [Option.some.injEq, Prod.mk.injEq] at H
    obtain ⟨rfl, rfl, rfl⟩ := H
    go_enter Tryd.func21, Tryd.ntmps21
    go_wp2_with (first | ((with_reducible refine gate_callee (f := 44) rfl ?_); refine goesL_ (some 9) rfl rfl Tryd.func44 (by kernel_rfl) rfl #[.slice A1 l1.length c1] rfl (by (try simp only [List.map_toArray]); (try simp only [List.map_cons]); (try simp only [List.map_nil]); first | done | rfl | (simp only [List.length_drop, List.length_take]; rfl)) ?_; (with_reducible refine (nat_Trim.calls _ _ l1 t134 _ ?side1 ?side2 A3.out).mono ?_); (case side1 => repeat (first | exact HR1.out | (with_reducible refine Kd.C_alloc ?_ _) | (with_reducible refine Kd.C_drewN ?_ _) | (with_reducible refine Kd.C_drew ?_))); (case side2 => exact HC1.out); rintro e w5 ⟨v135, rfl, ho0, hb⟩; refine ⟨_, rfl, ?_⟩; have n0_ := Aside0.mk (Kd.R_lower ho0 (below_size (by repeat (first | (with_reducible first | exact HB.out | apply below_alloc | apply pw_below_drewN | apply below_drew1) | exact HB.out)))); have n1_ := Aside0.mk (below_step (by repeat (first | (with_reducible first | exact HB.out | apply below_alloc | apply pw_below_drewN | apply below_drew1) | exact HB.out)) hb); clear HB; have HO136 := n0_; have HB := n1_; clear n0_ n1_; (try clear hb); (try clear hb2); (try clear hk); (try clear hi); (try clear ho0); obtain ⟨Ao6, co6, eo6⟩ := Kd.R_slice HO136.out; subst eo6))
    go_ret3
    exact ⟨_, _, by first | rfl | (simp [errW_none, errW_some] <;> rfl) | (simp [*, errW_none, errW_some] <;> rfl), by first | exact Kd.R_nil _ _ _ _ _ | exact Kd.N_nil _ _ _ _ _ | exact Kd.V_nil _ _ _ _ _ | exact Kd.Q_nil _ _ _ _ _ | exact Kd.S_nil _ _ _ _ _, by first | exact Kd.R_nil _ _ _ _ _ | exact Kd.N_nil _ _ _ _ _ | exact Kd.V_nil _ _ _ _ _ | exact Kd.Q_nil _ _ _ _ _ | exact Kd.S_nil _ _ _ _ _, by repeat (first | (with_reducible first | exact HB.out | apply below_alloc | apply pw_below_drewN | apply below_drew1) | exact HB.out)⟩
  · rw [if_neg c4] at H
    have c4b0 : ((t134.length : Int) == 0) = false := beq_eq_false_iff_ne.mpr c4
    have c4b1 : ((t134.length : Int) != 0) = true := bne_iff_ne.mpr c4
    have c4b2 : ¬ (t134 = []) := fun h_ => c4 (by rw [h_]; rfl)
    by_cases c7 : 0 ≤ (l0.length : Int)
    · rw [if_pos c7] at H
      have c7b0 := eq_true c7
      have c7b1 : decide (0 ≤ (l0.length : Int)) = true := decide_eq_true c7
      clear c7
      by_cases c8 : ((l0.length : Int) : Int).toNat ≤ 70368744177664
      · rw [if_pos c8] at H
        have c8b0 := eq_true c8
        have c8b1 : decide (((l0.length : Int) : Int).toNat ≤ 70368744177664) = true := decide_eq_true c8
        clear c8
        obtain ⟨y137, hy137⟩ : ∃ y_ : List Int, y_ = (List.replicate ((l0.length : Int) : Int).toNat 0) := ⟨_, rfl⟩
        replace H : (div_DivMod.l0 k l0 t134 y137 ([] : List Int) (wrap64 ((l0.length : Int) - 1))) = some (r1, r2, r3) := by first | (rw [hy137]; with_reducible exact H) | (have H2_ := (Option.bind_some _ _).symm.trans H; rw [hy137]; with_reducible exact H2_) | (have H2_ := (Option.bind_some _ _).symm.trans H; with_reducible exact H2_) | with_reducible exact H | (rw [hy137]; exact H) | exact H
        have Ny137 := Aside0.mk hy137
        clear hy137
        have H' := Aside0.mk H
        clear H
        go_enter Tryd.func21, Tryd.ntmps21
        go_wp2_with (first | ((with_reducible refine gate_callee (f := 44) rfl ?_); refine goesL_ (some 9) rfl rfl Tryd.func44 (by kernel_rfl) rfl #[.slice A1 l1.length c1] rfl (by (try simp only [List.map_toArray]); (try simp only [List.map_cons]); (try simp only [List.map_nil]); first | done | rfl | (simp only [List.length_drop, List.length_take]; rfl)) ?_; (with_reducible refine (nat_Trim.calls _ _ l1 t134 _ ?side1 ?side2 A3.out).mono ?_); (case side1 => repeat (first | exact HR1.out | (with_reducible refine Kd.C_alloc ?_ _) | (with_reducible refine Kd.C_drewN ?_ _) | (with_reducible refine Kd.C_drew ?_))); (case side2 => exact HC1.out); rintro e w9 ⟨v135, rfl, ho0, hb⟩; refine ⟨_, rfl, ?_⟩; have n0_ := Aside0.mk (Kd.R_lower ho0 (below_size (by repeat (first | (with_reducible first | exact HB.out | apply below_alloc | apply pw_below_drewN | apply below_drew1) | exact HB.out)))); have n1_ := Aside0.mk (below_step (by repeat (first | (with_reducible first | exact HB.out | apply below_alloc | apply pw_below_drewN | apply below_drew1) | exact HB.out)) hb); clear HB; have HO136 := n0_; have HB := n1_; clear n0_ n1_; (try clear hb); (try clear hb2); (try clear hk); (try clear hi); (try clear ho0); obtain ⟨Ao10, co10, eo10⟩ := Kd.R_slice HO136.out; subst eo10) | ((with_reducible refine gate_dst (N := 15) rfl ?_); refine Kd.R_make (Kd.int .u32) _ 48 rfl (N := 15) rfl 39 _ _ rfl (l0.length : Int) rfl rfl Tryd.underlying39 (.int .u32 0) 4 info48 rfl (by decide) (by omega) 0 (ok := fun _ => True) (okp := fun _ => True) rfl (fun _ hk => hk) trivial (of_decide_eq_true (by first | (with_reducible assumption) | assumption)) (Nat.le_trans (Nat.mul_le_mul_right _ (of_decide_eq_true (by first | (with_reducible assumption) | assumption) : (l0.length : Int).toNat ≤ 70368744177664)) (by omega)) (Below.refl _ _) (Nat.le_refl _) ?_; intro v138 w11 ho12 hb hg_ hnew_; clear hg_ hnew_; (first | rw [← Ny137.out] at ho12 | (simp only [Int.reduceToNat] at ho12; rw [← Ny137.out] at ho12)); have n0_ := Aside0.mk (Kd.R_elder' (by (with_reducible repeat (first | apply Kd.R_alloc | apply Kd.R_drewN | apply Kd.R_drew)); exact HO136.out) (Kd.R_base ho12) hb); have n1_ := Aside0.mk (Kd.R_lower (Kd.R_new' ho12 (Kd.R_lt (by (with_reducible repeat (first | apply Kd.R_alloc | apply Kd.R_drewN | apply Kd.R_drew)); exact HO136.out))) (below_size (by repeat (first | (with_reducible first | exact HB.out | apply below_alloc | apply pw_below_drewN | apply below_drew1) | exact HB.out)))); have n2_ := Aside0.mk (below_step (by repeat (first | (with_reducible first | exact HB.out | apply below_alloc | apply pw_below_drewN | apply below_drew1) | exact HB.out)) hb); clear HO136; clear HB; have HO136 := n0_; have HO139 := n1_; have HB := n2_; clear n0_ n1_ n2_; clear hb ho12))
        go_loopg [5, 7] k (fun kq v5 v7 w' => ∃ (x4_1 : List Int) (x5_1 : List Int) (x7_1 : Int), v7 = .int .i64 x7_1 ∧ Aside0 (div_DivMod.l0 kq l0 t134 x4_1 x5_1 x7_1 = some (r1, r2, r3)) ∧ Aside0 (kq ≤ k) ∧ Aside0 (Kd.R (Kd.int .u32) 48 w' w.heap.size (fun k_ => some k_ ≠ (v138 : Value).ownBlock ∧ some k_ ≠ (v5 : Value).ownBlock) (.slice Ao10 t134.length co10) t134) ∧ Aside0 (Kd.R (Kd.int .u32) 48 w' w.heap.size (fun k_ => some k_ ≠ ((.slice Ao10 t134.length co10) : Value).ownBlock ∧ some k_ ≠ (v5 : Value).ownBlock) v138 x4_1) ∧ Aside0 (Kd.R (Kd.int .u32) 48 w' w.heap.size (fun k_ => some k_ ≠ ((.slice Ao10 t134.length co10) : Value).ownBlock ∧ some k_ ≠ (v138 : Value).ownBlock) v5 x5_1) ∧ Aside0 (Below w.heap.size w w'))
        case atStart => exact ⟨(y137), (([] : List Int)), (wrap64 ((l0.length : Int) - 1)), (by first | rfl | (simp; done) | (simp [*]; done) | (simp [*, Fig.bne_nil]; done)), H', ⟨Nat.le_refl _⟩, ⟨by (with_reducible repeat (first | apply Kd.R_alloc | apply Kd.R_drewN | apply Kd.R_drew)); exact Kd.R_mono HO136.out (fun _ hk => ⟨hk.2, (by simp [Value.ownBlock])⟩)⟩, ⟨by (with_reducible repeat (first | apply Kd.R_alloc | apply Kd.R_drewN | apply Kd.R_drew)); exact Kd.R_mono HO139.out (fun _ hk => ⟨hk.2, (by simp [Value.ownBlock])⟩)⟩, ⟨by first | exact Kd.R_nil _ _ _ _ _ | exact Kd.N_nil _ _ _ _ _ | exact Kd.V_nil _ _ _ _ _ | exact Kd.Q_nil _ _ _ _ _ | exact Kd.S_nil _ _ _ _ _⟩, ⟨by repeat (first | (with_reducible first | exact HB.out | apply below_alloc | apply pw_below_drewN | apply below_drew1) | exact HB.out)⟩⟩
        case round =>
          clear H'
          try clear c1
          try clear c2
          try clear p2
          try clear c4
          try clear c4b0
          try clear c4b1
          try clear c4b2
          try clear p6
          try clear c7
          try clear c7b0
          try clear c7b1
          try clear c8
          try clear c8b0
          try clear c8b1
          obtain ⟨x4_1, x5_1, x7_1, rfl, HA, HK1, HO_1, HO_4, HO_5, HB⟩ := hrel
          cases gk with
          | zero => exact absurd HA.out (by simp [div_DivMod.l0])
          | succ k1 =>
            have H := HA.out
            clear HA
            simp only [div_DivMod.l0] at H
            by_cases c13 : x7_1 ≥ 0
            · rw [if_pos c13] at H
              have c13b0 : decide (0 ≤ x7_1) = true := decide_eq_true c13
              clear c13
              by_cases c14 : 0 ≤ x7_1
              · rw [if_pos c14] at H
                have c14b0 : decide (0 ≤ x7_1) = true := decide_eq_true c14
                clear c14
                by_cases c15 : x7_1 < (l0.length : Int)
                · rw [if_pos c15] at H
                  have c15b0 : decide (x7_1 < (l0.length : Int)) = true := decide_eq_true c15
                  clear c15
                  obtain ⟨y141, hy141⟩ : ∃ y_ : List Int, y_ = (([rd l0 x7_1] : List Int)) := ⟨_, rfl⟩
                  replace H : (if y141.length + x5_1.length < 35184372088832 then ((nat_Trim.f (y141 ++ x5_1)).bind fun t147 => ((div_guess.f k1 t147 t134).bind fun bt150 => (if x7_1 < (x4_1.length : Int) then (div_DivMod.l0 k1 l0 t134 (x4_1.set (x7_1 : Int).toNat bt150.1) bt150.2 (wrap64 (x7_1 - 1))) else (none)))) else (none)) = some (r1, r2, r3) := by first | (rw [hy141]; with_reducible exact H) | (have H2_ := (Option.bind_some _ _).symm.trans H; rw [hy141]; with_reducible exact H2_) | (have H2_ := (Option.bind_some _ _).symm.trans H; with_reducible exact H2_) | with_reducible exact H | (rw [hy141]; exact H) | exact H
                  have Ny141 := Aside0.mk hy141
                  clear hy141
                  by_cases c16 : y141.length + x5_1.length < 35184372088832
                  · rw [if_pos c16] at H
                    have LMc16 := Aside0.mk c16
                    clear c16
                    obtain ⟨y144, hy144⟩ : ∃ y_ : List Int, y_ = (y141 ++ x5_1) := ⟨_, rfl⟩
                    replace H : ((nat_Trim.f y144).bind fun t147 => ((div_guess.f k1 t147 t134).bind fun bt150 => (if x7_1 < (x4_1.length : Int) then (div_DivMod.l0 k1 l0 t134 (x4_1.set (x7_1 : Int).toNat bt150.1) bt150.2 (wrap64 (x7_1 - 1))) else (none)))) = some (r1, r2, r3) := by first | (rw [hy144]; with_reducible exact H) | (have H2_ := (Option.bind_some _ _).symm.trans H; rw [hy144]; with_reducible exact H2_) | (have H2_ := (Option.bind_some _ _).symm.trans H; with_reducible exact H2_) | with_reducible exact H | (rw [hy144]; exact H) | exact H
                    have Ny144 := Aside0.mk hy144
                    clear hy144
                    replace H := Option.bind_eq_some_iff.mp H
                    obtain ⟨t147, A170, H⟩ := H
                    replace H : ((div_guess.f k1 t147 t134).bind fun bt150 => (if x7_1 < (x4_1.length : Int) then (div_DivMod.l0 k1 l0 t134 (x4_1.set (x7_1 : Int).toNat bt150.1) bt150.2 (wrap64 (x7_1 - 1))) else (none))) = some (r1, r2, r3) := H
                    have A17 := Aside0.mk A170
                    clear A170
                    replace H := Option.bind_eq_some_iff.mp H
                    obtain ⟨⟨t150, t151⟩, A180, H⟩ := H
                    replace H : (if x7_1 < (x4_1.length : Int) then (div_DivMod.l0 k1 l0 t134 (x4_1.set (x7_1 : Int).toNat t150) t151 (wrap64 (x7_1 - 1))) else (none)) = some (r1, r2, r3) := H
                    have A18 := Aside0.mk A180
                    clear A180
                    by_cases c19 : x7_1 < (x4_1.length : Int)
                    · rw [if_pos c19] at H
                      have c19b0 : decide (x7_1 < (x4_1.length : Int)) = true := decide_eq_true c19
                      clear c19
                      obtain ⟨y154, hy154⟩ : ∃ y_ : List Int, y_ = (x4_1.set (x7_1 : Int).toNat t150) := ⟨_, rfl⟩
                      replace H : (div_DivMod.l0 k1 l0 t134 y154 t151 (wrap64 (x7_1 - 1))) = some (r1, r2, r3) := by first | (rw [hy154]; with_reducible exact H) | (have H2_ := (Option.bind_some _ _).symm.trans H; rw [hy154]; with_reducible exact H2_) | (have H2_ := (Option.bind_some _ _).symm.trans H; with_reducible exact H2_) | with_reducible exact H | (rw [hy154]; exact H) | exact H
                      have Ny154 := Aside0.mk hy154
                      clear hy154
                      have H' := Aside0.mk H
                      clear H
                      have p140 : 0 ≤ (x7_1 : Int) := of_decide_eq_true (by first | (with_reducible assumption) | assumption)
                      have q140 : x7_1 < (l0.length : Int) := of_decide_eq_true (by first | (with_reducible assumption) | assumption)
                      obtain ⟨ad140, e140, hx140_0⟩ := Kd.at_int HR0.out x7_1 p140 q140
                      cases e140
                      replace hx140_0 := (HB.out.cell (World.block_lt_of_cell? w _ hx140_0)).trans hx140_0
                      replace p140 := eq_true p140
                      replace q140 := eq_true q140
                      go_wp2_with (first | ((with_reducible refine gate_dst (N := 27) rfl ?_); refine Kd.R_lit (Kd.int .u32) _ 48 ?hg (N := 27) ?hd (xs := ([rd l0 x7_1] : List Int)) (inner := [.int .u32 (rd l0 x7_1)]) (ok := fun _ => True) (okp := fun _ => True) ?hr ?hp (fun _ hk => hk) trivial (Below.refl _ _) (Nat.le_refl _) (by simp) ?_; (case hd => rfl); (case hg => rfl); (case hr => first | (go_simp; done) | (go_simp; rfl)); (case hp => exact (Reps.one (show Kd.M (Kd.int .u32) _ _ _ (rd l0 x7_1) [.int .u32 (rd l0 x7_1)] from rfl) (Reps.none _ _))); intro v142 w21 ho22 hb hg_ hnew_; clear hg_ hnew_; (first | rw [← Ny141.out] at ho22 | (simp only [Int.reduceToNat] at ho22; rw [← Ny141.out] at ho22)); have n0_ := Aside0.mk (Kd.R_elder' (by (with_reducible repeat (first | apply Kd.R_alloc | apply Kd.R_drewN | apply Kd.R_drew)); exact HO_1.out) (Kd.R_base ho22) hb); have n1_ := Aside0.mk (Kd.R_elder' (by (with_reducible repeat (first | apply Kd.R_alloc | apply Kd.R_drewN | apply Kd.R_drew)); exact HO_4.out) (Kd.R_base ho22) hb); have n2_ := Aside0.mk (Kd.R_elder' (by (with_reducible repeat (first | apply Kd.R_alloc | apply Kd.R_drewN | apply Kd.R_drew)); exact HO_5.out) (Kd.R_base ho22) hb); have n3_ := Aside0.mk (Kd.R_lower (Kd.R_new' (Kd.R_new' (Kd.R_new' ho22 (Kd.R_lt (by (with_reducible repeat (first | apply Kd.R_alloc | apply Kd.R_drewN | apply Kd.R_drew)); exact HO_1.out))) (Kd.R_lt (by (with_reducible repeat (first | apply Kd.R_alloc | apply Kd.R_drewN | apply Kd.R_drew)); exact HO_4.out))) (Kd.R_lt (by (with_reducible repeat (first | apply Kd.R_alloc | apply Kd.R_drewN | apply Kd.R_drew)); exact HO_5.out))) (below_size (by repeat (first | (with_reducible first | exact HB.out | apply below_alloc | apply pw_below_drewN | apply below_drew1) | exact HB.out)))); have n4_ := Aside0.mk (below_step (by repeat (first | (with_reducible first | exact HB.out | apply below_alloc | apply pw_below_drewN | apply below_drew1) | exact HB.out)) hb); clear HO_1; clear HO_4; clear HO_5; clear HB; have HO_1 := n0_; have HO_4 := n1_; have HO_5 := n2_; have HO143 := n3_; have HB := n4_; clear n0_ n1_ n2_ n3_ n4_; clear hb ho22; obtain ⟨Ao24, co24, eo24⟩ := Kd.R_slice HO_5.out; subst eo24) | ((with_reducible refine gate_builtin (b := .append) (xs := #[.tmp 27, .tmp 28]) rfl ?_); at_builtin; refine Kd.R_append_rows (Kd.int .u32) (w0 := w) w.heap.size rfl (.tmp 27) (.tmp 28) 39 48 (.int .u32 0) 4 rfl Tryd.underlying39 info48 rfl (by decide) (by omega) v142 y141 x5_1 _ _ _ (fun k_ => some k_ ≠ (.slice Ao10 t134.length co10 : Value).ownBlock ∧ some k_ ≠ (v138 : Value).ownBlock ∧ some k_ ≠ (.slice Ao24 x5_1.length co24 : Value).ownBlock) (fun _ => False) rfl rfl ?aO ?aR (fun _ _ h => h) (fun _ h => h.elim) ?aF ?aB ?aS ?aL ?_; (case aR => repeat (first | exact (Kd.R_reads' HO_5.out).2.2 | (with_reducible refine Kd.C_alloc ?_ _) | (with_reducible refine Kd.C_drewN ?_ _) | (with_reducible refine Kd.C_drew ?_))); (case aB => exact (by repeat (first | (with_reducible first | exact HB.out | apply below_alloc | apply pw_below_drewN | apply below_drew1) | exact HB.out))); (case aF => exact (fun k_ hk => ⟨Kd.fresh' (Kd.R_lt (by (with_reducible repeat (first | apply Kd.R_alloc | apply Kd.R_drewN | apply Kd.R_drew)); exact HO_1.out)) k_ hk, Kd.fresh' (Kd.R_lt (by (with_reducible repeat (first | apply Kd.R_alloc | apply Kd.R_drewN | apply Kd.R_drew)); exact HO_4.out)) k_ hk, Kd.fresh' (Kd.R_lt (by (with_reducible repeat (first | apply Kd.R_alloc | apply Kd.R_drewN | apply Kd.R_drew)); exact HO_5.out)) k_ hk⟩)); (case aO => exact (by (with_reducible repeat (first | apply Kd.R_alloc | apply Kd.R_drewN | apply Kd.R_drew)); exact Kd.R_mono HO143.out (fun _ hk => ⟨hk.1.1.2, ⟨hk.1.2, hk.2⟩⟩))); (case aS => exact (below_size (by repeat (first | (with_reducible first | exact HB.out | apply below_alloc | apply pw_below_drewN | apply below_drew1) | exact HB.out)))); (case aL => have := LMc16.out; omega); intro v145 w23 ho hb hg hat; rw [← Ny144.out] at ho; have n0_ := Aside0.mk (Kd.R_after (ok := (fun k_ => some k_ ≠ (v138 : Value).ownBlock ∧ some k_ ≠ (.slice Ao24 x5_1.length co24 : Value).ownBlock)) (by (with_reducible repeat (first | apply Kd.R_alloc | apply Kd.R_drewN | apply Kd.R_drew)); exact HO_1.out) hg hat); have n1_ := Aside0.mk (Kd.R_after (ok := (fun k_ => some k_ ≠ (.slice Ao10 t134.length co10 : Value).ownBlock ∧ some k_ ≠ (.slice Ao24 x5_1.length co24 : Value).ownBlock)) (by (with_reducible repeat (first | apply Kd.R_alloc | apply Kd.R_drewN | apply Kd.R_drew)); exact HO_4.out) hg hat); have n2_ := Aside0.mk (Kd.R_after (ok := (fun k_ => some k_ ≠ (.slice Ao10 t134.length co10 : Value).ownBlock ∧ some k_ ≠ (v138 : Value).ownBlock)) (by (with_reducible repeat (first | apply Kd.R_alloc | apply Kd.R_drewN | apply Kd.R_drew)); exact HO_5.out) hg hat); have n3_ := Aside0.mk (hb); have n4_ := Aside0.mk (ho); clear HO_1; clear HO_4; clear HO_5; clear HB; clear HO143; have HO_1 := n0_; have HO_4 := n1_; have HO_5 := n2_; have HB := n3_; have HO146 := n4_; clear n0_ n1_ n2_ n3_ n4_; clear ho hb hg hat; obtain ⟨Ao25, co25, eo25⟩ := Kd.R_slice HO146.out; subst eo25) | ((with_reducible refine gate_callee (f := 44) rfl ?_); refine goesL_ (some 30) rfl rfl Tryd.func44 (by kernel_rfl) rfl #[.slice Ao25 y144.length co25] rfl (by (try simp only [List.map_toArray]); (try simp only [List.map_cons]); (try simp only [List.map_nil]); first | done | rfl | (simp only [List.length_drop, List.length_take]; rfl)) ?_; (with_reducible refine (nat_Trim.calls _ _ y144 t147 _ ?side1 ?side2 A17.out).mono ?_); (case side1 => repeat (first | exact (Kd.R_reads' HO146.out).2.2 | (with_reducible refine Kd.C_alloc ?_ _) | (with_reducible refine Kd.C_drewN ?_ _) | (with_reducible refine Kd.C_drew ?_))); (case side2 => exact (Kd.R_reads' HO146.out).2.1); rintro e w26 ⟨v148, rfl, ho0, hb⟩; refine ⟨_, rfl, ?_⟩; have n0_ := Aside0.mk (Kd.R_elder' (by (with_reducible repeat (first | apply Kd.R_alloc | apply Kd.R_drewN | apply Kd.R_drew)); exact HO_1.out) (Kd.R_base ho0) hb); have n1_ := Aside0.mk (Kd.R_elder' (by (with_reducible repeat (first | apply Kd.R_alloc | apply Kd.R_drewN | apply Kd.R_drew)); exact HO_4.out) (Kd.R_base ho0) hb); have n2_ := Aside0.mk (Kd.R_elder' (by (with_reducible repeat (first | apply Kd.R_alloc | apply Kd.R_drewN | apply Kd.R_drew)); exact HO_5.out) (Kd.R_base ho0) hb); have n3_ := Aside0.mk (Kd.R_elder' (by (with_reducible repeat (first | apply Kd.R_alloc | apply Kd.R_drewN | apply Kd.R_drew)); exact HO146.out) (Kd.R_base ho0) hb); have n4_ := Aside0.mk (Kd.R_lower (Kd.R_new' (Kd.R_new' (Kd.R_new' (Kd.R_new' ho0 (Kd.R_lt (by (with_reducible repeat (first | apply Kd.R_alloc | apply Kd.R_drewN | apply Kd.R_drew)); exact HO_1.out))) (Kd.R_lt (by (with_reducible repeat (first | apply Kd.R_alloc | apply Kd.R_drewN | apply Kd.R_drew)); exact HO_4.out))) (Kd.R_lt (by (with_reducible repeat (first | apply Kd.R_alloc | apply Kd.R_drewN | apply Kd.R_drew)); exact HO_5.out))) (Kd.R_lt (by (with_reducible repeat (first | apply Kd.R_alloc | apply Kd.R_drewN | apply Kd.R_drew)); exact HO146.out))) (below_size (by repeat (first | (with_reducible first | exact HB.out | apply below_alloc | apply pw_below_drewN | apply below_drew1) | exact HB.out)))); have n5_ := Aside0.mk (below_step (by repeat (first | (with_reducible first | exact HB.out | apply below_alloc | apply pw_below_drewN | apply below_drew1) | exact HB.out)) hb); clear HO_1; clear HO_4; clear HO_5; clear HO146; clear HB; have HO_1 := n0_; have HO_4 := n1_; have HO_5 := n2_; have HO146 := n3_; have HO149 := n4_; have HB := n5_; clear n0_ n1_ n2_ n3_ n4_ n5_; (try clear hb); (try clear hb2); (try clear hk); (try clear hi); (try clear ho0); obtain ⟨Ao27, co27, eo27⟩ := Kd.R_slice HO149.out; subst eo27) | ((with_reducible refine gate_callee (f := 46) rfl ?_); refine goesL_ (some 36) rfl rfl Tryd.func46 (by kernel_rfl) rfl #[.slice Ao27 t147.length co27, .slice Ao10 t134.length co10] rfl (by (try simp only [List.map_toArray]); (try simp only [List.map_cons]); (try simp only [List.map_nil]); first | done | rfl | (simp only [List.length_drop, List.length_take]; rfl)) ?_; (with_reducible refine (div_guess.calls k1 _ _ t147 _ _ t134 t150 t151 _ ?side1 ?side2 ?side3 ?side4 A18.out).mono ?_); (case side1 => repeat (first | exact (Kd.R_reads' HO149.out).2.2 | (with_reducible refine Kd.C_alloc ?_ _) | (with_reducible refine Kd.C_drewN ?_ _) | (with_reducible refine Kd.C_drew ?_))); (case side2 => exact (Kd.R_reads' HO149.out).2.1); (case side3 => repeat (first | exact (Kd.R_reads' HO_1.out).2.2 | (with_reducible refine Kd.C_alloc ?_ _) | (with_reducible refine Kd.C_drewN ?_ _) | (with_reducible refine Kd.C_drew ?_))); (case side4 => exact (Kd.R_reads' HO_1.out).2.1); rintro e w28 ⟨v152, rfl, ho0, hb⟩; refine ⟨_, rfl, ?_⟩; have n0_ := Aside0.mk (Kd.R_elder' (by (with_reducible repeat (first | apply Kd.R_alloc | apply Kd.R_drewN | apply Kd.R_drew)); exact HO_1.out) (Kd.R_base ho0) hb); have n1_ := Aside0.mk (Kd.R_elder' (by (with_reducible repeat (first | apply Kd.R_alloc | apply Kd.R_drewN | apply Kd.R_drew)); exact HO_4.out) (Kd.R_base ho0) hb); have n2_ := Aside0.mk (Kd.R_elder' (by (with_reducible repeat (first | apply Kd.R_alloc | apply Kd.R_drewN | apply Kd.R_drew)); exact HO_5.out) (Kd.R_base ho0) hb); have n3_ := Aside0.mk (Kd.R_elder' (by (with_reducible repeat (first | apply Kd.R_alloc | apply Kd.R_drewN | apply Kd.R_drew)); exact HO146.out) (Kd.R_base ho0) hb); have n4_ := Aside0.mk (Kd.R_elder' (by (with_reducible repeat (first | apply Kd.R_alloc | apply Kd.R_drewN | apply Kd.R_drew)); exact HO149.out) (Kd.R_base ho0) hb); have n5_ := Aside0.mk (Kd.R_lower (Kd.R_new' (Kd.R_new' (Kd.R_new' (Kd.R_new' (Kd.R_new' ho0 (Kd.R_lt (by (with_reducible repeat (first | apply Kd.R_alloc | apply Kd.R_drewN | apply Kd.R_drew)); exact HO_1.out))) (Kd.R_lt (by (with_reducible repeat (first | apply Kd.R_alloc | apply Kd.R_drewN | apply Kd.R_drew)); exact HO_4.out))) (Kd.R_lt (by (with_reducible repeat (first | apply Kd.R_alloc | apply Kd.R_drewN | apply Kd.R_drew)); exact HO_5.out))) (Kd.R_lt (by (with_reducible repeat (first | apply Kd.R_alloc | apply Kd.R_drewN | apply Kd.R_drew)); exact HO146.out))) (Kd.R_lt (by (with_reducible repeat (first | apply Kd.R_alloc | apply Kd.R_drewN | apply Kd.R_drew)); exact HO149.out))) (below_size (by repeat (first | (with_reducible first | exact HB.out | apply below_alloc | apply pw_below_drewN | apply below_drew1) | exact HB.out)))); have n6_ := Aside0.mk (below_step (by repeat (first | (with_reducible first | exact HB.out | apply below_alloc | apply pw_below_drewN | apply below_drew1) | exact HB.out)) hb); clear HO_1; clear HO_4; clear HO_5; clear HO146; clear HO149; clear HB; have HO_1 := n0_; have HO_4 := n1_; have HO_5 := n2_; have HO146 := n3_; have HO149 := n4_; have HO153 := n5_; have HB := n6_; clear n0_ n1_ n2_ n3_ n4_ n5_ n6_; (try clear hb); (try clear hb2); (try clear hk); (try clear hi); (try clear ho0); have p20 : 0 ≤ (x7_1 : Int) := of_decide_eq_true (by first | (with_reducible assumption) | assumption); have q20 : (x7_1 : Int) < ((x4_1.length : Int) : Int) := of_decide_eq_true (by first | (with_reducible assumption) | assumption); obtain ⟨go20, co20, eo20, gb20, gl20, cl20, HG20⟩ := Kd.R_form HO_4.out (by omega); (first | cases eo20 | (injection eo20 with ea_ en_ ec_; (first | subst ea_ | (injection ea_ with ea_; subst ea_)); subst ec_; clear en_)); have GB20 := Aside0.mk gb20; have GG20 := Aside0.mk HG20; clear gb20 gl20 HG20; obtain ⟨hx20_0, hf20_0⟩ := Kd.R_celln 0 HO_4.out (x7_1 : Int) p20 q20; replace p20 := eq_true p20; replace q20 := eq_true q20; have n_ := Aside0.mk (Kd.R_mono (ok' := (fun k_ => some k_ ≠ (.slice Ao10 t134.length co10 : Value).ownBlock ∧ some k_ ≠ (.slice Ao24 x5_1.length co24 : Value).ownBlock ∧ some k_ ≠ (.slice Ao25 y144.length co25 : Value).ownBlock ∧ some k_ ≠ (.slice Ao27 t147.length co27 : Value).ownBlock ∧ some k_ ≠ (v152 : Value).ownBlock)) HO_4.out (fun k_ hk => ⟨hk.1.1.1.1, ⟨hk.1.1.1.2, ⟨hk.1.1.2, ⟨hk.1.2, hk.2⟩⟩⟩⟩)); clear HO_4; have HO_4 := n_; clear n_; obtain ⟨hy29_, hz29_⟩ := Kd.R_celln 0 HO_4.out (x7_1 : Int) (of_decide_eq_true (by first | (with_reducible assumption) | assumption)) (of_decide_eq_true (by first | (with_reducible assumption) | assumption)); have HP29 := Kd.R_putg HO_4.out (x7_1 : Int) t150) | ((with_reducible refine gate_store (t := 48) (p := 39) rfl ?_); refine store_event (t := 48) (p := 39) (v := ?vo_w30) (w1 := (w28.setCell ⟨go20, (x7_1 : Int).toNat, none⟩ (.int .u32 t150))) ?hg ?ho ?hn ?hr ?_; (case ho => rfl); (case hg => rfl); (case hn => rfl); (case hr => first | (go_simp; done) | (go_simp; rfl)); intro w30 hw; have hg : w28.grownBy w30 (some go20) := (by rw [hw]; exact HP29.2); have hp_ : Kd.R (Kd.int .u32) 48 w30 w.heap.size (fun k_ => some k_ ≠ (.slice Ao10 t134.length co10 : Value).ownBlock ∧ some k_ ≠ (.slice Ao24 x5_1.length co24 : Value).ownBlock ∧ some k_ ≠ (.slice Ao25 y144.length co25 : Value).ownBlock ∧ some k_ ≠ (.slice Ao27 t147.length co27 : Value).ownBlock ∧ some k_ ≠ (v152 : Value).ownBlock) (.slice (some ⟨go20, 0, none⟩) x4_1.length co20) y154 := (by rw [hw, Ny154.out]; exact HP29.1); clear HP29; have n0_ := Aside0.mk (Kd.R_after (v := (.slice (some ⟨go20, 0, none⟩) x4_1.length co20)) (v1 := (.slice (some ⟨go20, 0, none⟩) x4_1.length co20)) (ok := (fun k_ => some k_ ≠ (.slice Ao24 x5_1.length co24 : Value).ownBlock ∧ some k_ ≠ (.slice Ao25 y144.length co25 : Value).ownBlock ∧ some k_ ≠ (.slice Ao27 t147.length co27 : Value).ownBlock ∧ some k_ ≠ (v152 : Value).ownBlock)) (by (with_reducible repeat (first | apply Kd.R_alloc | apply Kd.R_drewN | apply Kd.R_drew)); exact Kd.R_mono HO_1.out (fun _ hk => ⟨⟨hk.1.1.1.2, ⟨hk.1.1.2, ⟨hk.1.2, hk.2⟩⟩⟩, hk.1.1.1.1⟩)) hg (.inl rfl)); have n1_ := Aside0.mk (hp_); have n2_ := Aside0.mk (Kd.R_after (v := (.slice (some ⟨go20, 0, none⟩) x4_1.length co20)) (v1 := (.slice (some ⟨go20, 0, none⟩) x4_1.length co20)) (ok := (fun k_ => some k_ ≠ (.slice Ao10 t134.length co10 : Value).ownBlock ∧ some k_ ≠ (.slice Ao25 y144.length co25 : Value).ownBlock ∧ some k_ ≠ (.slice Ao27 t147.length co27 : Value).ownBlock ∧ some k_ ≠ (v152 : Value).ownBlock)) (by (with_reducible repeat (first | apply Kd.R_alloc | apply Kd.R_drewN | apply Kd.R_drew)); exact Kd.R_mono HO_5.out (fun _ hk => ⟨⟨hk.1.1.1.1, ⟨hk.1.1.2, ⟨hk.1.2, hk.2⟩⟩⟩, hk.1.1.1.2⟩)) hg (.inl rfl)); have n3_ := Aside0.mk (Kd.R_after (v := (.slice (some ⟨go20, 0, none⟩) x4_1.length co20)) (v1 := (.slice (some ⟨go20, 0, none⟩) x4_1.length co20)) (ok := (fun k_ => some k_ ≠ (.slice Ao10 t134.length co10 : Value).ownBlock ∧ some k_ ≠ (.slice Ao24 x5_1.length co24 : Value).ownBlock ∧ some k_ ≠ (.slice Ao27 t147.length co27 : Value).ownBlock ∧ some k_ ≠ (v152 : Value).ownBlock)) (by (with_reducible repeat (first | apply Kd.R_alloc | apply Kd.R_drewN | apply Kd.R_drew)); exact Kd.R_mono HO146.out (fun _ hk => ⟨⟨hk.1.1.1, ⟨hk.1.1.2.2, ⟨hk.1.2, hk.2⟩⟩⟩, hk.1.1.2.1⟩)) hg (.inl rfl)); have n4_ := Aside0.mk (Kd.R_after (v := (.slice (some ⟨go20, 0, none⟩) x4_1.length co20)) (v1 := (.slice (some ⟨go20, 0, none⟩) x4_1.length co20)) (ok := (fun k_ => some k_ ≠ (.slice Ao10 t134.length co10 : Value).ownBlock ∧ some k_ ≠ (.slice Ao24 x5_1.length co24 : Value).ownBlock ∧ some k_ ≠ (.slice Ao25 y144.length co25 : Value).ownBlock ∧ some k_ ≠ (v152 : Value).ownBlock)) (by (with_reducible repeat (first | apply Kd.R_alloc | apply Kd.R_drewN | apply Kd.R_drew)); exact Kd.R_mono HO149.out (fun _ hk => ⟨⟨hk.1.1.1.1.2, ⟨hk.1.1.2, ⟨hk.1.2, hk.2⟩⟩⟩, hk.1.1.1.2⟩)) hg (.inl rfl)); have n5_ := Aside0.mk (Kd.R_after (v := (.slice (some ⟨go20, 0, none⟩) x4_1.length co20)) (v1 := (.slice (some ⟨go20, 0, none⟩) x4_1.length co20)) (ok := (fun k_ => some k_ ≠ (.slice Ao10 t134.length co10 : Value).ownBlock ∧ some k_ ≠ (.slice Ao24 x5_1.length co24 : Value).ownBlock ∧ some k_ ≠ (.slice Ao25 y144.length co25 : Value).ownBlock ∧ some k_ ≠ (.slice Ao27 t147.length co27 : Value).ownBlock)) (by (with_reducible repeat (first | apply Kd.R_alloc | apply Kd.R_drewN | apply Kd.R_drew)); exact Kd.R_mono HO153.out (fun _ hk => ⟨⟨hk.1.1.1.1.2, ⟨hk.1.1.2, ⟨hk.1.2, hk.2⟩⟩⟩, hk.1.1.1.2⟩)) hg (.inl rfl)); have n6_ := Aside0.mk ((by rw [hw]; exact below_set (HB.out) GB20.out : Below w.heap.size w w30)); clear HO_1; clear HO_4; clear HO_5; clear HO146; clear HO149; clear HO153; clear HB; have HO_1 := n0_; have HO_4 := n1_; have HO_5 := n2_; have HO146 := n3_; have HO149 := n4_; have HO153 := n5_; have HB := n6_; clear n0_ n1_ n2_ n3_ n4_ n5_ n6_; clear hg hw hp_))
                      go_roundg k1
                      case measure => have := HK1.out; omega
                      case rel => exact ⟨(y154), (t151), (wrap64 (x7_1 - 1)), (by first | rfl | (simp; done) | (simp [*]; done) | (simp [*, Fig.bne_nil]; done)), H', ⟨by have := HK1.out; omega⟩, ⟨by (with_reducible repeat (first | apply Kd.R_alloc | apply Kd.R_drewN | apply Kd.R_drew)); exact Kd.R_mono HO_1.out (fun _ hk => ⟨hk.2, hk.1.2.2.2⟩)⟩, ⟨by (with_reducible repeat (first | apply Kd.R_alloc | apply Kd.R_drewN | apply Kd.R_drew)); exact Kd.R_mono HO_4.out (fun _ hk => ⟨hk.1, hk.2.2.2.2⟩)⟩, ⟨by (with_reducible repeat (first | apply Kd.R_alloc | apply Kd.R_drewN | apply Kd.R_drew)); exact Kd.R_mono HO153.out (fun _ hk => ⟨hk.1.1, hk.2⟩)⟩, ⟨by repeat (first | (with_reducible first | exact HB.out | apply below_alloc | apply pw_below_drewN | apply below_drew1) | exact HB.out)⟩⟩
                    · rw [if_neg c19] at H
                      exact absurd H (by simp)
                  · rw [if_neg c16] at H
                    exact absurd H (by simp)
                · rw [if_neg c15] at H
                  exact absurd H (by simp)
              · rw [if_neg c14] at H
                exact absurd H (by simp)
            · rw [if_neg c13] at H
              have c13b0 : decide (0 ≤ x7_1) = false := decide_eq_false c13
              clear c13
              replace H := Option.bind_eq_some_iff.mp H
              obtain ⟨t155, A310, H⟩ := H
              replace H : ((nat_Trim.f x5_1).bind fun t158 => (some (t155, t158, true))) = some (r1, r2, r3) := H
              have A31 := Aside0.mk A310
              clear A310
              replace H := Option.bind_eq_some_iff.mp H
              obtain ⟨t158, A320, H⟩ := H
              replace H : (some (t155, t158, true)) = some (r1, r2, r3) := H
              have A32 := Aside0.mk A320
              clear A320
              simp only [Option.some.injEq, Prod.mk.injEq] at H
              obtain ⟨rfl, rfl, rfl⟩ := H
              obtain ⟨Ao33, co33, eo33⟩ := Kd.R_slice HO_4.out
              subst eo33
              go_wp2_with (first | ((with_reducible refine gate_callee (f := 44) rfl ?_); refine goesL_ (some 41) rfl rfl Tryd.func44 (by kernel_rfl) rfl #[.slice Ao33 x4_1.length co33] rfl (by (try simp only [List.map_toArray]); (try simp only [List.map_cons]); (try simp only [List.map_nil]); first | done | rfl | (simp only [List.length_drop, List.length_take]; rfl)) ?_; (with_reducible refine (nat_Trim.calls _ _ x4_1 t155 _ ?side1 ?side2 A31.out).mono ?_); (case side1 => repeat (first | exact (Kd.R_reads' HO_4.out).2.2 | (with_reducible refine Kd.C_alloc ?_ _) | (with_reducible refine Kd.C_drewN ?_ _) | (with_reducible refine Kd.C_drew ?_))); (case side2 => exact (Kd.R_reads' HO_4.out).2.1); rintro e w34 ⟨v156, rfl, ho0, hb⟩; refine ⟨_, rfl, ?_⟩; have n0_ := Aside0.mk (Kd.R_elder' (by (with_reducible repeat (first | apply Kd.R_alloc | apply Kd.R_drewN | apply Kd.R_drew)); exact HO_1.out) (Kd.R_base ho0) hb); have n1_ := Aside0.mk (Kd.R_elder' (by (with_reducible repeat (first | apply Kd.R_alloc | apply Kd.R_drewN | apply Kd.R_drew)); exact HO_4.out) (Kd.R_base ho0) hb); have n2_ := Aside0.mk (Kd.R_elder' (by (with_reducible repeat (first | apply Kd.R_alloc | apply Kd.R_drewN | apply Kd.R_drew)); exact HO_5.out) (Kd.R_base ho0) hb); have n3_ := Aside0.mk (Kd.R_lower (Kd.R_new' (Kd.R_new' (Kd.R_new' ho0 (Kd.R_lt (by (with_reducible repeat (first | apply Kd.R_alloc | apply Kd.R_drewN | apply Kd.R_drew)); exact HO_1.out))) (Kd.R_lt (by (with_reducible repeat (first | apply Kd.R_alloc | apply Kd.R_drewN | apply Kd.R_drew)); exact HO_4.out))) (Kd.R_lt (by (with_reducible repeat (first | apply Kd.R_alloc | apply Kd.R_drewN | apply Kd.R_drew)); exact HO_5.out))) (below_size (by repeat (first | (with_reducible first | exact HB.out | apply below_alloc | apply pw_below_drewN | apply below_drew1) | exact HB.out)))); have n4_ := Aside0.mk (below_step (by repeat (first | (with_reducible first | exact HB.out | apply below_alloc | apply pw_below_drewN | apply below_drew1) | exact HB.out)) hb); clear HO_1; clear HO_4; clear HO_5; clear HB; have HO_1 := n0_; have HO_4 := n1_; have HO_5 := n2_; have HO157 := n3_; have HB := n4_; clear n0_ n1_ n2_ n3_ n4_; (try clear hb); (try clear hb2); (try clear hk); (try clear hi); (try clear ho0); obtain ⟨Ao35, co35, eo35⟩ := Kd.R_slice HO_5.out; subst eo35) | ((with_reducible refine gate_callee (f := 44) rfl ?_); refine goesL_ (some 43) rfl rfl Tryd.func44 (by kernel_rfl) rfl #[.slice Ao35 x5_1.length co35] rfl (by (try simp only [List.map_toArray]); (try simp only [List.map_cons]); (try simp only [List.map_nil]); first | done | rfl | (simp only [List.length_drop, List.length_take]; rfl)) ?_; (with_reducible refine (nat_Trim.calls _ _ x5_1 t158 _ ?side1 ?side2 A32.out).mono ?_); (case side1 => repeat (first | exact (Kd.R_reads' HO_5.out).2.2 | (with_reducible refine Kd.C_alloc ?_ _) | (with_reducible refine Kd.C_drewN ?_ _) | (with_reducible refine Kd.C_drew ?_))); (case side2 => exact (Kd.R_reads' HO_5.out).2.1); rintro e w36 ⟨v159, rfl, ho0, hb⟩; refine ⟨_, rfl, ?_⟩; have n0_ := Aside0.mk (Kd.R_elder' (by (with_reducible repeat (first | apply Kd.R_alloc | apply Kd.R_drewN | apply Kd.R_drew)); exact HO_1.out) (Kd.R_base ho0) hb); have n1_ := Aside0.mk (Kd.R_elder' (by (with_reducible repeat (first | apply Kd.R_alloc | apply Kd.R_drewN | apply Kd.R_drew)); exact HO_4.out) (Kd.R_base ho0) hb); have n2_ := Aside0.mk (Kd.R_elder' (by (with_reducible repeat (first | apply Kd.R_alloc | apply Kd.R_drewN | apply Kd.R_drew)); exact HO_5.out) (Kd.R_base ho0) hb); have n3_ := Aside0.mk (Kd.R_elder' (by (with_reducible repeat (first | apply Kd.R_alloc | apply Kd.R_drewN | apply Kd.R_drew)); exact HO157.out) (Kd.R_base ho0) hb); have n4_ := Aside0.mk (Kd.R_lower (Kd.R_new' (Kd.R_new' (Kd.R_new' (Kd.R_new' ho0 (Kd.R_lt (by (with_reducible repeat (first | apply Kd.R_alloc | apply Kd.R_drewN | apply Kd.R_drew)); exact HO_1.out))) (Kd.R_lt (by (with_reducible repeat (first | apply Kd.R_alloc | apply Kd.R_drewN | apply Kd.R_drew)); exact HO_4.out))) (Kd.R_lt (by (with_reducible repeat (first | apply Kd.R_alloc | apply Kd.R_drewN | apply Kd.R_drew)); exact HO_5.out))) (Kd.R_lt (by (with_reducible repeat (first | apply Kd.R_alloc | apply Kd.R_drewN | apply Kd.R_drew)); exact HO157.out))) (below_size (by repeat (first | (with_reducible first | exact HB.out | apply below_alloc | apply pw_below_drewN | apply below_drew1) | exact HB.out)))); have n5_ := Aside0.mk (below_step (by repeat (first | (with_reducible first | exact HB.out | apply below_alloc | apply pw_below_drewN | apply below_drew1) | exact HB.out)) hb); clear HO_1; clear HO_4; clear HO_5; clear HO157; clear HB; have HO_1 := n0_; have HO_4 := n1_; have HO_5 := n2_; have HO157 := n3_; have HO160 := n4_; have HB := n5_; clear n0_ n1_ n2_ n3_ n4_ n5_; (try clear hb); (try clear hb2); (try clear hk); (try clear hi); (try clear ho0)))
              go_ret3
              exact ⟨_, _, by first | rfl | (simp [errW_none, errW_some] <;> rfl) | (simp [*, errW_none, errW_some] <;> rfl), by (with_reducible repeat (first | apply Kd.R_alloc | apply Kd.R_drewN | apply Kd.R_drew)); exact Kd.R_mono HO157.out (fun _ hk => hk.2), by (with_reducible repeat (first | apply Kd.R_alloc | apply Kd.R_drewN | apply Kd.R_drew)); exact Kd.R_mono HO160.out (fun _ hk => hk.2), by repeat (first | (with_reducible first | exact HB.out | apply below_alloc | apply pw_below_drewN | apply below_drew1) | exact HB.out)⟩
      · rw [if_neg c8] at H
        exact absurd H (by simp)
    · rw [if_neg c7] at H
      exact absurd H (by simp)
end Go.Proofs.YtekkpmoppihlaaaDoor.Px
end
section
namespace Go.Proofs.YtekkpmoppihlaaaDoor.Px
open Fig Go.RowKit Go.Proofs.YtekkpmoppihlaaaDoorW.PrintWords Go.Proofs.YtekkpmoppihlaaaDoorW.PrintLast Go.Proofs.YtekkpmoppihlaaaDoorW.PrintMore
attribute [local go_sem] max2_int min2_int max_two min_two max_three min_three max_four min_four   -- for this text's walks alone
attribute [local go_sem] fieldA23_0 fieldA23_1 fieldA23_2
def dec_Coef.f (a0_0 : Bool) (a0_1 : ByteArray) (a0_2 : Int) : Option (List Int) := (ten_Number.f a0_1).bind fun bt162 => (some bt162.1)
set_option maxHeartbeats 8000000 in
set_option maxRecDepth 100000 in
theorem dec_Coef.calls (a0_0 : Bool) (a0_1 : ByteArray) (a0_2 : Int) (r : List Int) (w : World) (h : dec_Coef.f a0_0 a0_1 a0_2 = some r) :
    Calls Tryd.prog 22 #[.agg #[.bool a0_0, .string a0_1, .int .i64 a0_2]] w fun e w' => ∃ v0_ : Value, e = .returned (v0_) ∧ Kd.R (Kd.int .u32) 48 w' w.heap.size (fun _ => True) v0_ r ∧ Below w.heap.size w w' := by
  have hu23 := Tryd.underlying23
  have HB := Aside0.mk (Below.refl w.heap.size w)
  have H : ((ten_Number.f a0_1).bind fun bt162 => (some bt162.1)) = some r := h
  clear h
  replace H := Option.bind_eq_some_iff.mp H
  obtain ⟨⟨t162, t163⟩, A20, H⟩ := H
  replace H : (some t162) = some r := H
  have A2 := Aside0.mk A20
  clear A20
  obtain rfl := Option.some.inj H
  go_enter Tryd.func22, Tryd.ntmps22
  go_wp2_with (first | ((with_reducible refine gate_dst (N := 1) rfl ?_); refine box_event ?hg (N := 1) ?hd (cs := #[.bool a0_0, .string a0_1, .int .i64 a0_2]) (t := 23) ?hr ?_; (case hd => rfl); (case hg => rfl); (case hr => first | (go_simp; done) | (go_simp; rfl)); intro gb161 hg w3 hbox hb; have n0_ := Aside0.mk (below_step (by repeat (first | (with_reducible first | exact HB.out | apply below_alloc | apply pw_below_drewN | apply below_drew1) | exact HB.out)) hb); have n1_ := Aside0.mk (hbox); have n2_ := Aside0.mk ((by rw [hg]; exact (below_size (by repeat (first | (with_reducible first | exact HB.out | apply below_alloc | apply pw_below_drewN | apply below_drew1) | exact HB.out))) : w.heap.size ≤ gb161)); have n3_ := Aside0.mk ((by rw [hg]; exact (below_size (by repeat (first | (with_reducible first | exact HB.out | apply below_alloc | apply pw_below_drewN | apply below_drew1) | exact HB.out))) : w.heap.size ≤ gb161)); clear HB; have HB := n0_; have BK161 := n1_; have GW161 := n2_; have GE161 := n3_; clear n0_ n1_ n2_ n3_; clear hb hbox hg; have hcz4_0 : w3.cell? ⟨gb161, 0, none⟩ = some (.bool a0_0) := (blk_cell BK161.out 0).trans rfl; have hcz4_1 : w3.cell? ⟨gb161, 1, none⟩ = some (.string a0_1) := (blk_cell BK161.out 1).trans rfl; have hcz4_2 : w3.cell? ⟨gb161, 2, none⟩ = some (.int .i64 a0_2) := (blk_cell BK161.out 2).trans rfl; have hfz4_0 := blk_frozen BK161.out 0; have hfz4_1 := blk_frozen BK161.out 1; have hfz4_2 := blk_frozen BK161.out 2) | ((with_reducible refine gate_callee (f := 18) rfl ?_); refine goesL_ (some 8) rfl rfl Tryd.func18 (by kernel_rfl) rfl #[.string a0_1] rfl (by (try simp only [List.map_toArray]); (try simp only [List.map_cons]); (try simp only [List.map_nil]); first | done | rfl | (simp only [List.length_drop, List.length_take]; rfl)) ?_; (with_reducible refine (ten_Number.calls a0_1 t162 t163 _ A2.out).mono ?_); rintro e w5 ⟨v164, rfl, ho0, hb⟩; refine ⟨_, rfl, ?_⟩; have n0_ := Aside0.mk (Kd.R_lower ho0 (below_size (by repeat (first | (with_reducible first | exact HB.out | apply below_alloc | apply pw_below_drewN | apply below_drew1 | refine below_set ?_ GE161.out) | exact HB.out)))); have n1_ := Aside0.mk (blk_below (g := gb161) (o := .cells #[.bool a0_0, .string a0_1, .int .i64 a0_2] 23 (0, 0)) (by (with_reducible repeat (first | refine blk_drewN ?_ _ | refine blk_drew ?_ | refine blk_alloc ?_ _)); exact BK161.out) hb); have n2_ := Aside0.mk (below_step (by repeat (first | (with_reducible first | exact HB.out | apply below_alloc | apply pw_below_drewN | apply below_drew1 | refine below_set ?_ GE161.out) | exact HB.out)) hb); clear BK161; clear HB; have HO165 := n0_; have BK161 := n1_; have HB := n2_; clear n0_ n1_ n2_; (try clear hb); (try clear hb2); (try clear hk); (try clear hi); (try clear ho0)))
  go_ret
  exact ⟨_, by first | rfl | (simp [errW_none, errW_some] <;> rfl) | (simp [*, errW_none, errW_some] <;> rfl), by (with_reducible repeat (first | apply Kd.R_alloc | apply Kd.R_drewN | apply Kd.R_drew)); exact HO165.out, by repeat (first | (with_reducible first | exact HB.out | apply below_alloc | apply pw_below_drewN | apply below_drew1 | refine below_set ?_ GE161.out) | exact HB.out)⟩
end Go.Proofs.YtekkpmoppihlaaaDoor.Px
end
section
namespace Go.Proofs.YtekkpmoppihlaaaDoor.Px
open Fig Go.RowKit Go.Proofs.YtekkpmoppihlaaaDoorW.PrintWords Go.Proofs.YtekkpmoppihlaaaDoorW.PrintLast Go.Proofs.YtekkpmoppihlaaaDoorW.PrintMore
attribute [local go_sem] max2_int min2_int max_two min_two max_three min_three max_four min_four   -- for this text's walks alone
attribute [local go_sem] fieldA23_0 fieldA23_1 fieldA23_2
set_option maxRecDepth 100000
def strings_TrimLeft.f (a0 a1 : ByteArray) : Option ByteArray := if a1.data.toList = [48] then some (stripB a0) else none
theorem one_nought {a1 : ByteArray} (h : a1.data.toList = [48]) : a1 = ⟨#[48]⟩ := B_ext h
theorem strings_TrimLeft.calls (a0 a1 r : ByteArray) (w : World) (h : strings_TrimLeft.f a0 a1 = some r) :
    Calls Tryd.prog 47 #[.string a0, .string a1] w fun e w' => e = .returned (.string r) ∧ Below w.heap.size w w' := by
  unfold strings_TrimLeft.f at h
  by_cases hc : a1.data.toList = [48]
  · rw [if_pos hc] at h
    obtain rfl := Option.some.inj h
    obtain rfl := one_nought hc
    exact (Tryd.strings_TrimLeft_one a0 48 (by decide) w).mono fun e w' ⟨h1, h2⟩ => ⟨h1, h2 ▸ Below.refl _ _⟩
  · rw [if_neg hc] at h; cases h
end Go.Proofs.YtekkpmoppihlaaaDoor.Px
end
section
namespace Go.Proofs.YtekkpmoppihlaaaDoor.Px
open Fig Go.RowKit Go.Proofs.YtekkpmoppihlaaaDoorW.PrintWords Go.Proofs.YtekkpmoppihlaaaDoorW.PrintLast Go.Proofs.YtekkpmoppihlaaaDoorW.PrintMore
attribute [local go_sem] max2_int min2_int max_two min_two max_three min_three max_four min_four   -- for this text's walks alone
attribute [local go_sem] fieldA23_0 fieldA23_1 fieldA23_2
set_option maxRecDepth 100000
def strings_TrimRight.f (a0 a1 : ByteArray) : Option ByteArray := if a1.data.toList = [48] ∧ a0.size ≤ 9223372036854775807 then some ⟨(Lib.trimRightB a0.data.toList 48).toArray⟩ else none
theorem one_nought' {a1 : ByteArray} (h : a1.data.toList = [48]) : a1 = ⟨#[48]⟩ := B_ext h
theorem strings_TrimRight.calls (a0 a1 r : ByteArray) (w : World) (h : strings_TrimRight.f a0 a1 = some r) :
    Calls Tryd.prog 48 #[.string a0, .string a1] w fun e w' => e = .returned (.string r) ∧ Below w.heap.size w w' := by
  unfold strings_TrimRight.f at h
  by_cases hc : a1.data.toList = [48] ∧ a0.size ≤ 9223372036854775807
  · rw [if_pos hc] at h
    obtain rfl := Option.some.inj h
    obtain rfl := one_nought' hc.1
    exact (Tryd.strings_TrimRight_one a0 48 (by decide) w hc.2).mono fun e w' ⟨h1, h2⟩ => ⟨h1, h2 ▸ Below.refl _ _⟩
  · rw [if_neg hc] at h; cases h
end Go.Proofs.YtekkpmoppihlaaaDoor.Px
end
section
namespace Go.Proofs.YtekkpmoppihlaaaDoor.Px
open Fig Go.RowKit Go.Proofs.YtekkpmoppihlaaaDoorW.PrintWords Go.Proofs.YtekkpmoppihlaaaDoorW.PrintLast Go.Proofs.YtekkpmoppihlaaaDoorW.PrintMore
attribute [local go_sem] max2_int min2_int max_two min_two max_three min_three max_four min_four   -- for this text's walks alone
attribute [local go_sem] fieldA23_0 fieldA23_1 fieldA23_2
def dec_Norm.f (a0_0 : Bool) (a0_1 : ByteArray) (a0_2 : Int) : Option (Bool × ByteArray × Int) := (strings_TrimLeft.f a0_1 (⟨#[48]⟩ : ByteArray)).bind fun t168 => (if t168.toList = ([] : List UInt8) then (some (a0_0, (⟨#[48]⟩ : ByteArray), 0)) else ((strings_TrimRight.f t168 (⟨#[48]⟩ : ByteArray)).bind fun t169 => (some (a0_0, t169, wrap64 ((wrap64 (a0_2 + (t168.size : Int))) - (t169.size : Int))))))
set_option maxHeartbeats 8000000 in
set_option maxRecDepth 100000 in
theorem dec_Norm.calls (a0_0 : Bool) (a0_1 : ByteArray) (a0_2 : Int) (r1 : Bool) (r2 : ByteArray) (r3 : Int) (w : World) (h : dec_Norm.f a0_0 a0_1 a0_2 = some (r1, r2, r3)) :
    Calls Tryd.prog 23 #[.agg #[.bool a0_0, .string a0_1, .int .i64 a0_2]] w fun e w' => e = .returned (.agg #[.bool r1, .string r2, .int .i64 r3]) ∧ Below w.heap.size w w' := by
  have hu23 := Tryd.underlying23
  have HB := Aside0.mk (Below.refl w.heap.size w)
  have H : ((strings_TrimLeft.f a0_1 (⟨#[48]⟩ : ByteArray)).bind fun t168 => (if t168.toList = ([] : List UInt8) then (some (a0_0, (⟨#[48]⟩ : ByteArray), 0)) else ((strings_TrimRight.f t168 (⟨#[48]⟩ : ByteArray)).bind fun t169 => (some (a0_0, t169, wrap64 ((wrap64 (a0_2 + (t168.size : Int))) - (t169.size : Int))))))) = some (r1, r2, r3) := h
  clear h
  replace H := Option.bind_eq_some_iff.mp H
  obtain ⟨t168, A20, H⟩ := H
  replace H : (if t168.toList = ([] : List UInt8) then (some (a0_0, (⟨#[48]⟩ : ByteArray), 0)) else ((strings_TrimRight.f t168 (⟨#[48]⟩ : ByteArray)).bind fun t169 => (some (a0_0, t169, wrap64 ((wrap64 (a0_2 + (t168.size : Int))) - (t169.size : Int)))))) = some (r1, r2, r3) := H
  have A2 := Aside0.mk A20
  clear A20
  by_cases c3 : t168.toList = ([] : List UInt8)
  · rw [if_pos c3] at H
    have c3b0 : (t168.toList == ([] : List UInt8)) = true := beq_iff_eq.mpr c3
    have c3b1 : (t168.toList != ([] : List UInt8)) = false := bne_eq_false_iff_eq.mpr c3
    clear c3
    simp only [Option.some.injEq, Prod.mk.injEq] at H
    obtain ⟨rfl, rfl, rfl⟩ := H
    go_enter Tryd.func23, Tryd.ntmps23
    go_wp2_with (first | ((with_reducible refine gate_dst (N := 1) rfl ?_); refine box_event ?hg (N := 1) ?hd (cs := #[.bool a0_0, .string a0_1, .int .i64 a0_2]) (t := 23) ?hr ?_; (case hd => rfl); (case hg => rfl); (case hr => first | (go_simp; done) | (go_simp; rfl)); intro gb166 hg w4 hbox hb; have n0_ := Aside0.mk (below_step (by repeat (first | (with_reducible first | exact HB.out | apply below_alloc | apply pw_below_drewN | apply below_drew1) | exact HB.out)) hb); have n1_ := Aside0.mk (hbox); have n2_ := Aside0.mk ((by rw [hg]; exact (below_size (by repeat (first | (with_reducible first | exact HB.out | apply below_alloc | apply pw_below_drewN | apply below_drew1) | exact HB.out))) : w.heap.size ≤ gb166)); have n3_ := Aside0.mk ((by rw [hg]; exact (below_size (by repeat (first | (with_reducible first | exact HB.out | apply below_alloc | apply pw_below_drewN | apply below_drew1) | exact HB.out))) : w.heap.size ≤ gb166)); clear HB; have HB := n0_; have BK166 := n1_; have GW166 := n2_; have GE166 := n3_; clear n0_ n1_ n2_ n3_; clear hb hbox hg) | ((with_reducible refine gate_dst (N := 2) rfl ?_); refine box_event ?hg (N := 2) ?hd (cs := #[.bool false, .string (⟨#[]⟩ : ByteArray), .int .i64 0]) (t := 23) ?hr ?_; (case hd => rfl); (case hg => rfl); (case hr => first | (go_simp; done) | (go_simp; rfl)); intro gb167 hg w5 hbox hb; have n0_ := Aside0.mk (blk_below (g := gb166) (o := .cells #[.bool a0_0, .string a0_1, .int .i64 a0_2] 23 (0, 0)) (by (with_reducible repeat (first | refine blk_drewN ?_ _ | refine blk_drew ?_ | refine blk_alloc ?_ _)); exact BK166.out) hb); have n1_ := Aside0.mk (below_step (by repeat (first | (with_reducible first | exact HB.out | apply below_alloc | apply pw_below_drewN | apply below_drew1 | refine below_set ?_ GE166.out) | exact HB.out)) hb); have n2_ := Aside0.mk (hbox); have n3_ := Aside0.mk ((by rw [hg]; exact (below_size (by repeat (first | (with_reducible first | exact HB.out | apply below_alloc | apply pw_below_drewN | apply below_drew1 | refine below_set ?_ GE166.out) | exact HB.out))) : w.heap.size ≤ gb167)); have n4_ := Aside0.mk ((by rw [hg]; exact (below_size (by repeat (first | (with_reducible first | exact HB.out | apply below_alloc | apply pw_below_drewN | apply below_drew1 | refine below_set ?_ GE166.out) | exact HB.out))) : w.heap.size ≤ gb167)); have n5_ := Aside0.mk ((by rw [hg]; exact Nat.ne_of_lt (blk_lt (g := gb166) (o := .cells #[.bool a0_0, .string a0_1, .int .i64 a0_2] 23 (0, 0)) (by (with_reducible repeat (first | refine blk_drewN ?_ _ | refine blk_drew ?_ | refine blk_alloc ?_ _)); exact BK166.out)) : gb166 ≠ gb167)); have n6_ := Aside0.mk ((by rw [hg]; exact Nat.ne_of_gt (blk_lt (g := gb166) (o := .cells #[.bool a0_0, .string a0_1, .int .i64 a0_2] 23 (0, 0)) (by (with_reducible repeat (first | refine blk_drewN ?_ _ | refine blk_drew ?_ | refine blk_alloc ?_ _)); exact BK166.out)) : gb167 ≠ gb166)); clear BK166; clear HB; have BK166 := n0_; have HB := n1_; have BK167 := n2_; have GW167 := n3_; have GE167 := n4_; have NB166_167 := n5_; have NB167_166 := n6_; clear n0_ n1_ n2_ n3_ n4_ n5_ n6_; clear hb hbox hg; have hnb6 := NB166_167.out; have hnc6 := NB167_166.out; have hcz7_0 : w5.cell? ⟨gb166, 0, none⟩ = some (.bool a0_0) := (blk_cell BK166.out 0).trans rfl; have hcz7_1 : w5.cell? ⟨gb166, 1, none⟩ = some (.string a0_1) := (blk_cell BK166.out 1).trans rfl; have hcz7_2 : w5.cell? ⟨gb166, 2, none⟩ = some (.int .i64 a0_2) := (blk_cell BK166.out 2).trans rfl; have hfz7_0 := blk_frozen BK166.out 0; have hfz7_1 := blk_frozen BK166.out 1; have hfz7_2 := blk_frozen BK166.out 2) | ((with_reducible refine gate_callee (f := 47) rfl ?_); refine goesL_ (some 7) rfl rfl Tryd.func47 (by kernel_rfl) rfl #[.string a0_1, .string (⟨#[48]⟩ : ByteArray)] rfl (by (try simp only [List.map_toArray]); (try simp only [List.map_cons]); (try simp only [List.map_nil]); first | done | rfl | (simp only [List.length_drop, List.length_take]; rfl)) ?_; (with_reducible refine (strings_TrimLeft.calls a0_1 (⟨#[48]⟩ : ByteArray) t168 _ A2.out).mono ?_); rintro e w8 ⟨rfl, hb⟩; refine ⟨_, rfl, ?_⟩; have n0_ := Aside0.mk (blk_below (g := gb166) (o := .cells #[.bool a0_0, .string a0_1, .int .i64 a0_2] 23 (0, 0)) (by (with_reducible repeat (first | refine blk_drewN ?_ _ | refine blk_drew ?_ | refine blk_alloc ?_ _)); exact BK166.out) hb); have n1_ := Aside0.mk (blk_below (g := gb167) (o := .cells #[.bool false, .string (⟨#[]⟩ : ByteArray), .int .i64 0] 23 (0, 0)) (by (with_reducible repeat (first | refine blk_drewN ?_ _ | refine blk_drew ?_ | refine blk_alloc ?_ _)); exact BK167.out) hb); have n2_ := Aside0.mk (below_step (by repeat (first | (with_reducible first | exact HB.out | apply below_alloc | apply pw_below_drewN | apply below_drew1 | refine below_set ?_ GE166.out | refine below_set ?_ GE167.out) | exact HB.out)) hb); clear BK166; clear BK167; clear HB; have BK166 := n0_; have BK167 := n1_; have HB := n2_; clear n0_ n1_ n2_; (try clear hb); (try clear hb2); (try clear hk); (try clear hi); have hcz9_0 : w8.cell? ⟨gb166, 0, none⟩ = some (.bool a0_0) := (blk_cell BK166.out 0).trans rfl; have hcz9_1 : w8.cell? ⟨gb166, 1, none⟩ = some (.string a0_1) := (blk_cell BK166.out 1).trans rfl; have hcz9_2 : w8.cell? ⟨gb166, 2, none⟩ = some (.int .i64 a0_2) := (blk_cell BK166.out 2).trans rfl; have hfz9_0 := blk_frozen BK166.out 0; have hfz9_1 := blk_frozen BK166.out 1; have hfz9_2 := blk_frozen BK166.out 2; have hcz10_0 : w8.cell? ⟨gb167, 0, none⟩ = some (.bool false) := (blk_cell BK167.out 0).trans rfl; have hcz10_1 : w8.cell? ⟨gb167, 1, none⟩ = some (.string (⟨#[]⟩ : ByteArray)) := (blk_cell BK167.out 1).trans rfl; have hcz10_2 : w8.cell? ⟨gb167, 2, none⟩ = some (.int .i64 0) := (blk_cell BK167.out 2).trans rfl; have hfz10_0 := blk_frozen BK167.out 0; have hfz10_1 := blk_frozen BK167.out 1; have hfz10_2 := blk_frozen BK167.out 2))
    refine bodyPost_ret (results_cell_row rfl _ _ gb167 23 #[.bool a0_0, .string (⟨#[48]⟩ : ByteArray), .int .i64 0] (0, 0) _ rfl (by (with_reducible repeat (first | refine blk_drewN ?_ _ | refine blk_drew ?_ | refine blk_alloc ?_ _)); refine blk_put (cs := #[.bool a0_0, .string (⟨#[48]⟩ : ByteArray), .int .i64 0]) ?_ 2 _ rfl; (with_reducible repeat (first | refine blk_drewN ?_ _ | refine blk_drew ?_ | refine blk_alloc ?_ _)); refine blk_put (cs := #[.bool a0_0, .string (⟨#[]⟩ : ByteArray), .int .i64 0]) ?_ 1 _ rfl; (with_reducible repeat (first | refine blk_drewN ?_ _ | refine blk_drew ?_ | refine blk_alloc ?_ _)); refine blk_put (cs := #[.bool false, .string (⟨#[]⟩ : ByteArray), .int .i64 0]) ?_ 0 _ rfl; (with_reducible repeat (first | refine blk_drewN ?_ _ | refine blk_drew ?_ | refine blk_alloc ?_ _)); exact BK167.out) Tryd.underlying23 rfl (by kernel_rfl)) rfl ?_
    exact ⟨by first | rfl | (simp [errW_none, errW_some] <;> rfl) | (simp [*, errW_none, errW_some] <;> rfl), by repeat (first | (with_reducible first | exact HB.out | apply below_alloc | apply pw_below_drewN | apply below_drew1 | refine below_set ?_ GE166.out | refine below_set ?_ GE167.out) | exact HB.out)⟩
  · rw [if_neg c3] at H
    have c3b0 : (t168.toList == ([] : List UInt8)) = false := beq_eq_false_iff_ne.mpr c3
    have c3b1 : (t168.toList != ([] : List UInt8)) = true := bne_iff_ne.mpr c3
    replace H := Option.bind_eq_some_iff.mp H
    obtain ⟨t169, A110, H⟩ := H
    replace H : (some (a0_0, t169, wrap64 ((wrap64 (a0_2 + (t168.size : Int))) - (t169.size : Int)))) = some (r1, r2, r3) := H
    have A11 := Aside0.mk A110
    clear A110
    simp only [Option.some.injEq, Prod.mk.injEq] at H
    obtain ⟨rfl, rfl, rfl⟩ := H
    go_enter Tryd.func23, Tryd.ntmps23
    go_wp2_with (first | ((with_reducible refine gate_dst (N := 1) rfl ?_); refine box_event ?hg (N := 1) ?hd (cs := #[.bool a0_0, .string a0_1, .int .i64 a0_2]) (t := 23) ?hr ?_; (case hd => rfl); (case hg => rfl); (case hr => first | (go_simp; done) | (go_simp; rfl)); intro gb166 hg w12 hbox hb; have n0_ := Aside0.mk (below_step (by repeat (first | (with_reducible first | exact HB.out | apply below_alloc | apply pw_below_drewN | apply below_drew1) | exact HB.out)) hb); have n1_ := Aside0.mk (hbox); have n2_ := Aside0.mk ((by rw [hg]; exact (below_size (by repeat (first | (with_reducible first | exact HB.out | apply below_alloc | apply pw_below_drewN | apply below_drew1) | exact HB.out))) : w.heap.size ≤ gb166)); have n3_ := Aside0.mk ((by rw [hg]; exact (below_size (by repeat (first | (with_reducible first | exact HB.out | apply below_alloc | apply pw_below_drewN | apply below_drew1) | exact HB.out))) : w.heap.size ≤ gb166)); clear HB; have HB := n0_; have BK166 := n1_; have GW166 := n2_; have GE166 := n3_; clear n0_ n1_ n2_ n3_; clear hb hbox hg) | ((with_reducible refine gate_dst (N := 2) rfl ?_); refine box_event ?hg (N := 2) ?hd (cs := #[.bool false, .string (⟨#[]⟩ : ByteArray), .int .i64 0]) (t := 23) ?hr ?_; (case hd => rfl); (case hg => rfl); (case hr => first | (go_simp; done) | (go_simp; rfl)); intro gb167 hg w13 hbox hb; have n0_ := Aside0.mk (blk_below (g := gb166) (o := .cells #[.bool a0_0, .string a0_1, .int .i64 a0_2] 23 (0, 0)) (by (with_reducible repeat (first | refine blk_drewN ?_ _ | refine blk_drew ?_ | refine blk_alloc ?_ _)); exact BK166.out) hb); have n1_ := Aside0.mk (below_step (by repeat (first | (with_reducible first | exact HB.out | apply below_alloc | apply pw_below_drewN | apply below_drew1 | refine below_set ?_ GE166.out) | exact HB.out)) hb); have n2_ := Aside0.mk (hbox); have n3_ := Aside0.mk ((by rw [hg]; exact (below_size (by repeat (first | (with_reducible first | exact HB.out | apply below_alloc | apply pw_below_drewN | apply below_drew1 | refine below_set ?_ GE166.out) | exact HB.out))) : w.heap.size ≤ gb167)); have n4_ := Aside0.mk ((by rw [hg]; exact (below_size (by repeat (first | (with_reducible first | exact HB.out | apply below_alloc | apply pw_below_drewN | apply below_drew1 | refine below_set ?_ GE166.out) | exact HB.out))) : w.heap.size ≤ gb167)); have n5_ := Aside0.mk ((by rw [hg]; exact Nat.ne_of_lt (blk_lt (g := gb166) (o := .cells #[.bool a0_0, .string a0_1, .int .i64 a0_2] 23 (0, 0)) (by (with_reducible repeat (first | refine blk_drewN ?_ _ | refine blk_drew ?_ | refine blk_alloc ?_ _)); exact BK166.out)) : gb166 ≠ gb167)); have n6_ := Aside0.mk ((by rw [hg]; exact Nat.ne_of_gt (blk_lt (g := gb166) (o := .cells #[.bool a0_0, .string a0_1, .int .i64 a0_2] 23 (0, 0)) (by (with_reducible repeat (first | refine blk_drewN ?_ _ | refine blk_drew ?_ | refine blk_alloc ?_ _)); exact BK166.out)) : gb167 ≠ gb166)); clear BK166; clear HB; have BK166 := n0_; have HB := n1_; have BK167 := n2_; have GW167 := n3_; have GE167 := n4_; have NB166_167 := n5_; have NB167_166 := n6_; clear n0_ n1_ n2_ n3_ n4_ n5_ n6_; clear hb hbox hg; have hnb14 := NB166_167.out; have hnc14 := NB167_166.out; have hcz15_0 : w13.cell? ⟨gb166, 0, none⟩ = some (.bool a0_0) := (blk_cell BK166.out 0).trans rfl; have hcz15_1 : w13.cell? ⟨gb166, 1, none⟩ = some (.string a0_1) := (blk_cell BK166.out 1).trans rfl; have hcz15_2 : w13.cell? ⟨gb166, 2, none⟩ = some (.int .i64 a0_2) := (blk_cell BK166.out 2).trans rfl; have hfz15_0 := blk_frozen BK166.out 0; have hfz15_1 := blk_frozen BK166.out 1; have hfz15_2 := blk_frozen BK166.out 2) | ((with_reducible refine gate_callee (f := 47) rfl ?_); refine goesL_ (some 7) rfl rfl Tryd.func47 (by kernel_rfl) rfl #[.string a0_1, .string (⟨#[48]⟩ : ByteArray)] rfl (by (try simp only [List.map_toArray]); (try simp only [List.map_cons]); (try simp only [List.map_nil]); first | done | rfl | (simp only [List.length_drop, List.length_take]; rfl)) ?_; (with_reducible refine (strings_TrimLeft.calls a0_1 (⟨#[48]⟩ : ByteArray) t168 _ A2.out).mono ?_); rintro e w16 ⟨rfl, hb⟩; refine ⟨_, rfl, ?_⟩; have n0_ := Aside0.mk (blk_below (g := gb166) (o := .cells #[.bool a0_0, .string a0_1, .int .i64 a0_2] 23 (0, 0)) (by (with_reducible repeat (first | refine blk_drewN ?_ _ | refine blk_drew ?_ | refine blk_alloc ?_ _)); exact BK166.out) hb); have n1_ := Aside0.mk (blk_below (g := gb167) (o := .cells #[.bool false, .string (⟨#[]⟩ : ByteArray), .int .i64 0] 23 (0, 0)) (by (with_reducible repeat (first | refine blk_drewN ?_ _ | refine blk_drew ?_ | refine blk_alloc ?_ _)); exact BK167.out) hb); have n2_ := Aside0.mk (below_step (by repeat (first | (with_reducible first | exact HB.out | apply below_alloc | apply pw_below_drewN | apply below_drew1 | refine below_set ?_ GE166.out | refine below_set ?_ GE167.out) | exact HB.out)) hb); clear BK166; clear BK167; clear HB; have BK166 := n0_; have BK167 := n1_; have HB := n2_; clear n0_ n1_ n2_; (try clear hb); (try clear hb2); (try clear hk); (try clear hi)) | ((with_reducible refine gate_callee (f := 48) rfl ?_); refine goesL_ (some 14) rfl rfl Tryd.func48 (by kernel_rfl) rfl #[.string t168, .string (⟨#[48]⟩ : ByteArray)] rfl (by (try simp only [List.map_toArray]); (try simp only [List.map_cons]); (try simp only [List.map_nil]); first | done | rfl | (simp only [List.length_drop, List.length_take]; rfl)) ?_; (with_reducible refine (strings_TrimRight.calls t168 (⟨#[48]⟩ : ByteArray) t169 _ A11.out).mono ?_); rintro e w17 ⟨rfl, hb⟩; refine ⟨_, rfl, ?_⟩; have n0_ := Aside0.mk (blk_below (g := gb166) (o := .cells #[.bool a0_0, .string a0_1, .int .i64 a0_2] 23 (0, 0)) (by (with_reducible repeat (first | refine blk_drewN ?_ _ | refine blk_drew ?_ | refine blk_alloc ?_ _)); exact BK166.out) hb); have n1_ := Aside0.mk (blk_below (g := gb167) (o := .cells #[.bool false, .string (⟨#[]⟩ : ByteArray), .int .i64 0] 23 (0, 0)) (by (with_reducible repeat (first | refine blk_drewN ?_ _ | refine blk_drew ?_ | refine blk_alloc ?_ _)); exact BK167.out) hb); have n2_ := Aside0.mk (below_step (by repeat (first | (with_reducible first | exact HB.out | apply below_alloc | apply pw_below_drewN | apply below_drew1 | refine below_set ?_ GE166.out | refine below_set ?_ GE167.out) | exact HB.out)) hb); clear BK166; clear BK167; clear HB; have BK166 := n0_; have BK167 := n1_; have HB := n2_; clear n0_ n1_ n2_; (try clear hb); (try clear hb2); (try clear hk); (try clear hi); have hcz18_0 : w17.cell? ⟨gb166, 0, none⟩ = some (.bool a0_0) := (blk_cell BK166.out 0).trans rfl; have hcz18_1 : w17.cell? ⟨gb166, 1, none⟩ = some (.string a0_1) := (blk_cell BK166.out 1).trans rfl; have hcz18_2 : w17.cell? ⟨gb166, 2, none⟩ = some (.int .i64 a0_2) := (blk_cell BK166.out 2).trans rfl; have hfz18_0 := blk_frozen BK166.out 0; have hfz18_1 := blk_frozen BK166.out 1; have hfz18_2 := blk_frozen BK166.out 2; have hcz19_0 : w17.cell? ⟨gb167, 0, none⟩ = some (.bool false) := (blk_cell BK167.out 0).trans rfl; have hcz19_1 : w17.cell? ⟨gb167, 1, none⟩ = some (.string (⟨#[]⟩ : ByteArray)) := (blk_cell BK167.out 1).trans rfl; have hcz19_2 : w17.cell? ⟨gb167, 2, none⟩ = some (.int .i64 0) := (blk_cell BK167.out 2).trans rfl; have hfz19_0 := blk_frozen BK167.out 0; have hfz19_1 := blk_frozen BK167.out 1; have hfz19_2 := blk_frozen BK167.out 2))
    refine bodyPost_ret (results_cell_row rfl _ _ gb167 23 #[.bool a0_0, .string t169, .int .i64 (wrap64 ((wrap64 (a0_2 + (t168.size : Int))) - (t169.size : Int)))] (0, 0) _ rfl (by (with_reducible repeat (first | refine blk_drewN ?_ _ | refine blk_drew ?_ | refine blk_alloc ?_ _)); refine blk_put (cs := #[.bool a0_0, .string t169, .int .i64 0]) ?_ 2 _ rfl; (with_reducible repeat (first | refine blk_drewN ?_ _ | refine blk_drew ?_ | refine blk_alloc ?_ _)); refine blk_put (cs := #[.bool a0_0, .string (⟨#[]⟩ : ByteArray), .int .i64 0]) ?_ 1 _ rfl; (with_reducible repeat (first | refine blk_drewN ?_ _ | refine blk_drew ?_ | refine blk_alloc ?_ _)); refine blk_put (cs := #[.bool false, .string (⟨#[]⟩ : ByteArray), .int .i64 0]) ?_ 0 _ rfl; (with_reducible repeat (first | refine blk_drewN ?_ _ | refine blk_drew ?_ | refine blk_alloc ?_ _)); exact BK167.out) Tryd.underlying23 rfl (by kernel_rfl)) rfl ?_
    exact ⟨by first | rfl | (simp [errW_none, errW_some] <;> rfl) | (simp [*, errW_none, errW_some] <;> rfl), by repeat (first | (with_reducible first | exact HB.out | apply below_alloc | apply pw_below_drewN | apply below_drew1 | refine below_set ?_ GE166.out | refine below_set ?_ GE167.out) | exact HB.out)⟩
end Go.Proofs.YtekkpmoppihlaaaDoor.Px
end
section
namespace Go.Proofs.YtekkpmoppihlaaaDoor.Px
open Fig Go.RowKit Go.Proofs.YtekkpmoppihlaaaDoorW.PrintWords Go.Proofs.YtekkpmoppihlaaaDoorW.PrintLast Go.Proofs.YtekkpmoppihlaaaDoorW.PrintMore
attribute [local go_sem] max2_int min2_int max_two min_two max_three min_three max_four min_four   -- for this text's walks alone
attribute [local go_sem] fieldA23_0 fieldA23_1 fieldA23_2
set_option maxRecDepth 100000
def awayB (m : Int) (neg odd : Bool) (half : Int) : Bool :=
  if m = 0 then !neg else if m = 1 then neg else if m = 2 then true else if m = 3 then false else if m = 4 then decide (0 < half) || (half == 0 && odd) else if m = 5 then decide (0 ≤ half) else if m = 6 then decide (0 < half) else false
def mode_Away.f (m : Int) (neg odd : Bool) (half : Int) : Option Bool := some (awayB m neg odd half)
set_option maxHeartbeats 4000000 in
theorem mode_Away.calls (m : Int) (neg odd : Bool) (half : Int) (r : Bool) (w : World) (hG : Fig.Glob w) (h : mode_Away.f m neg odd half = some r) :
    Calls Tryd.prog 24 #[.int .i64 m, .bool neg, .bool odd, .int .i64 half] w fun e w' => e = .returned (.bool r) ∧ Drawn0 w w' := by
  obtain rfl := Option.some.inj h
  clear h
  have h0 := hG.ways 0 _ rfl
  have h1 := hG.ways 1 _ rfl
  have h2 := hG.ways 2 _ rfl
  have h3 := hG.ways 3 _ rfl
  have h4 := hG.ways 4 _ rfl
  have h5 := hG.ways 5 _ rfl
  have h6 := hG.ways 6 _ rfl
  have h7 := hG.ways 7 _ rfl
  clear hG
  by_cases hm : 0 ≤ m ∧ m < 8
  · obtain ⟨k, rfl⟩ : ∃ k : Nat, m = k := ⟨m.toNat, by omega⟩
    have hk : k < 8 := by omega
    clear hm
    match k, hk with
    | 0, _ =>
      clear h1 h2 h3 h4 h5 h6 h7
      go_enter Tryd.func24, Tryd.ntmps24
      go_wp2
      go_ret
      exact ⟨by simp [awayB], Drawn0.refl _⟩
    | 1, _ =>
      clear h0 h2 h3 h4 h5 h6 h7
      go_enter Tryd.func24, Tryd.ntmps24
      go_wp2
      go_ret
      exact ⟨by simp [awayB], Drawn0.refl _⟩
    | 2, _ =>
      clear h0 h1 h3 h4 h5 h6 h7
      go_enter Tryd.func24, Tryd.ntmps24
      go_wp2
      go_ret
      exact ⟨by simp [awayB], Drawn0.refl _⟩
    | 3, _ =>
      clear h0 h1 h2 h4 h5 h6 h7
      go_enter Tryd.func24, Tryd.ntmps24
      go_wp2
      go_ret
      exact ⟨by simp [awayB], Drawn0.refl _⟩
    | 4, _ =>
      clear h0 h1 h2 h3 h5 h6 h7
      by_cases hp : 0 < half
      · have d1 : decide (0 < half) = true := decide_eq_true hp
        go_enter Tryd.func24, Tryd.ntmps24
        go_wp2
        go_ret
        exact ⟨by simp [awayB, hp], Drawn0.refl _⟩
      · have d1 : decide (0 < half) = false := decide_eq_false hp
        by_cases hz : half = 0
        · have d2 : (half == 0) = true := by simp [hz]
          go_enter Tryd.func24, Tryd.ntmps24
          go_wp2
          go_ret
          exact ⟨by simp [awayB, hz], Drawn0.refl _⟩
        · have d2 : (half == 0) = false := by simp [hz]
          go_enter Tryd.func24, Tryd.ntmps24
          go_wp2
          go_ret
          exact ⟨by simp [awayB, hp, hz], Drawn0.refl _⟩
    | 5, _ =>
      clear h0 h1 h2 h3 h4 h6 h7
      go_enter Tryd.func24, Tryd.ntmps24
      go_wp2
      go_ret
      exact ⟨by simp [awayB], Drawn0.refl _⟩
    | 6, _ =>
      clear h0 h1 h2 h3 h4 h5 h7
      go_enter Tryd.func24, Tryd.ntmps24
      go_wp2
      go_ret
      exact ⟨by simp [awayB], Drawn0.refl _⟩
    | 7, _ =>
      clear h0 h1 h2 h3 h4 h5 h6
      go_enter Tryd.func24, Tryd.ntmps24
      go_wp2
      go_ret
      exact ⟨by simp [awayB], Drawn0.refl _⟩
    | n + 8, hk => exact absurd hk (by omega)
  · clear h0 h1 h2 h3 h4 h5 h6 h7
    have hz : awayB m neg odd half = false := by unfold awayB; repeat (rw [if_neg (by omega)])
    rw [hz]
    by_cases h0 : 0 ≤ m
    · have d1 : decide (0 ≤ m) = true := decide_eq_true h0
      have d2 : decide (m < 8) = false := decide_eq_false (by omega)
      go_enter Tryd.func24, Tryd.ntmps24
      go_wp2
      go_ret
      exact ⟨rfl, Drawn0.refl _⟩
    · have d1 : decide (0 ≤ m) = false := decide_eq_false h0
      go_enter Tryd.func24, Tryd.ntmps24
      go_wp2
      go_ret
      exact ⟨rfl, Drawn0.refl _⟩
end Go.Proofs.YtekkpmoppihlaaaDoor.Px
end
section
namespace Go.Proofs.YtekkpmoppihlaaaDoor.Px
open Fig Go.RowKit Go.Proofs.YtekkpmoppihlaaaDoorW.PrintWords Go.Proofs.YtekkpmoppihlaaaDoorW.PrintLast Go.Proofs.YtekkpmoppihlaaaDoorW.PrintMore
attribute [local go_sem] max2_int min2_int max_two min_two max_three min_three max_four min_four   -- for this text's walks alone
attribute [local go_sem] fieldA23_0 fieldA23_1 fieldA23_2
set_option maxRecDepth 100000
theorem add_digit (v a b P p cy q : Nat) (h : v + P * cy = a + b) : v + P * ((p + cy + q) % 1000000000) + P * 1000000000 * ((p + cy + q) / 1000000000) = a + P * p + (b + P * q) := by
  have e := congrArg (P * ·) (Nat.div_add_mod (p + cy + q) 1000000000)
  simp only [Nat.mul_add] at e
  rw [Nat.mul_assoc]; omega
theorem add_digit0 (v a b P p cy : Nat) (h : v + P * cy = a + b) : v + P * ((p + cy) % 1000000000) + P * 1000000000 * ((p + cy) / 1000000000) = a + P * p + b := by
  have := add_digit v a b P p cy 0 h
  simpa using this
def nat_Add.f (l0 : List Int) (l1 : List Int) : Option (List Int) := addF l0 l1
set_option maxHeartbeats 1000000 in
theorem nat_Add.calls (A0 : Option Addr) (c0 : Nat) (l0 : List Int) (A1 : Option Addr) (c1 : Nat) (l1 : List Int) (r : List Int) (w : World) (hr0 : Kd.C (Kd.int .u32) w A0 l0.length l0) (hc0 : l0.length ≤ c0) (hr1 : Kd.C (Kd.int .u32) w A1 l1.length l1) (hc1 : l1.length ≤ c1) (h : nat_Add.f l0 l1 = some r) :
    Calls Tryd.prog 26 #[.slice A0 l0.length c0, .slice A1 l1.length c1] w fun e w' => ∃ v0_ : Value, e = .returned (v0_) ∧ Kd.R (Kd.int .u32) 48 w' w.heap.size (fun _ => True) v0_ r ∧ Below w.heap.size w w' := by
  unfold nat_Add.f addF at h
  by_cases hg : goodL l0 = true ∧ goodL l1 = true ∧ l0.length ≤ 1000000000000 ∧ l1.length ≤ 1000000000000
  · rw [if_pos hg] at h
    obtain rfl := Option.some.inj h
    obtain ⟨g0, g1, z0, z1⟩ := hg
    have G0 := Aside0.mk g0
    have G1 := Aside0.mk g1
    have HR0 := Aside0.mk hr0
    have HR1 := Aside0.mk hr1
    have HC0 := Aside0.mk hc0
    have HC1 := Aside0.mk hc1
    clear g0 g1 hr0 hr1 hc0 hc1 h
    by_cases hsw : l0.length < l1.length
    · have ds : decide (l0.length < l1.length) = true := decide_eq_true hsw
      have HZ := Aside0.mk (show l0.length ≤ 1000000000000 ∧ l1.length ≤ 1000000000000 ∧ l0.length ≤ l1.length by omega)
      clear hsw
      go_enter Tryd.func26, Tryd.ntmps26
      go_wp2_with (first | ((with_reducible refine gate_dst (N := 20) rfl ?_); refine R_make_cap (k := .u32) w.heap.size 48 rfl 39 _ _ rfl (l1.length + 1) rfl (by first | rfl | simp) Tryd.underlying39 (.int .u32 0) 4 info48 (fun _ => True) trivial (by omega) (by omega) (w0 := w) (by first | exact Below.refl _ _ | exact pw_below_drewN (Below.refl _ _) _) (by first | exact Nat.le_refl _ | simp) ?_; intro v20 w20 ho20 hb20; have HO := Aside0.mk ho20; have HB := Aside0.mk hb20; clear ho20 hb20))
      go_loopg [5, 6, 23] l1.length (fun j v5 v6 v23 w' => ∃ (n cy : Nat) (o : List Int), v23 = .int .i64 (n : Int) ∧ v6 = .int .u32 (cy : Int) ∧ Aside0 (n + j = l1.length) ∧ Aside0 (cy ≤ 1 ∧ goodL o = true ∧ o.length = n ∧ valL o + 1000000000 ^ n * cy = valL (l1.take n) + valL (l0.take n)) ∧ Aside0 (Kd.R (Kd.int .u32) 48 w' w.heap.size (fun _ => True) v5 o) ∧ Aside0 (Below w.heap.size w w'))
      case atStart => exact ⟨0, 0, [], rfl, rfl, ⟨by omega⟩, ⟨by omega, rfl, rfl, by simp [valL]⟩, HO, HB⟩
      case round =>
        clear HO HB
        obtain ⟨n, cy, o, rfl, rfl, HN, HI, HO, HB⟩ := hrel
        cases gk with
        | zero =>
          have hn := HN.out
          have hd : decide (n < l1.length) = false := decide_eq_false (by omega)
          have HV := Aside0.mk (show goodL (o ++ [(cy : Int)]) = true ∧ (o ++ [(cy : Int)]).length ≤ 20000000000000 ∧ valL (o ++ [(cy : Int)]) = valL l0 + valL l1 by
            obtain ⟨i1, i2, i3, i4⟩ := HI.out
            have hz := HZ.out
            refine ⟨goodL_append.2 ⟨i2, goodL_cons.2 ⟨by omega, rfl⟩⟩, by simp; omega, ?_⟩
            rw [valL_snoc, Int.toNat_natCast, i3, i4, List.take_of_length_le (by omega), List.take_of_length_le (by omega)]; exact Nat.add_comm _ _)
          have HL := Aside0.mk (show (o.length + 1) * 4 ≤ 140737488355328 by
            have := HI.out
            have hz := HZ.out
            omega)
          obtain ⟨y, hy⟩ : ∃ y, y = o ++ [(cy : Int)] := ⟨_, rfl⟩
          rw [← hy] at HV
          have NY := Aside0.mk hy
          clear hn hy
          go_wp2_with (first
            | ((with_reducible refine gate_builtin (b := .append) (xs := #[.tmp 49, .tmp 51]) rfl ?_); at_builtin; refine Kd.R_append (Kd.int .u32) (w0 := w) w.heap.size rfl (.tmp 49) (.tmp 51) 39 48 (.int .u32 0) 4 rfl Tryd.underlying39 info48 rfl (by decide) (by omega) _ o (cy : Int) [.int .u32 (cy : Int)] (fun _ => True) (fun _ => False) rfl rfl ?aP (fun _ hk => hk.elim) ?aF ?aO ?aB ?aS ?aL ?_; (case aP => exact rfl); (case aB => exact (by repeat (first | (with_reducible first | exact HB.out | apply below_alloc | apply pw_below_drewN | apply below_drew1) | exact HB.out))); (case aF => exact (fun _ _ => trivial)); (case aO => exact (by (with_reducible repeat (first | apply Kd.R_alloc | apply Kd.R_drewN | apply Kd.R_drew)); exact HO.out)); (case aS => exact (below_size (by repeat (first | (with_reducible first | exact HB.out | apply below_alloc | apply pw_below_drewN | apply below_drew1) | exact HB.out)))); (case aL => exact HL.out); intro v49 w11 ho hb hg hat; rw [← NY.out] at ho; have n0_ := Aside0.mk hb; have n1_ := Aside0.mk ho; clear HB; clear HO; have HB := n0_; have HO := n1_; clear n0_ n1_; clear ho hb hg hat; obtain ⟨A9, c9, rfl⟩ := Kd.R_slice HO.out)
            | (go_at_call 44; (with_reducible refine (nat_Trim.calls A9 c9 y (limbs (valL l0 + valL l1)) _ ?side1 ?side2 ?side3).mono ?_); (case side1 => exact (Kd.R_reads' HO.out).2.2); (case side2 => exact (Kd.R_reads' HO.out).2.1); (case side3 => rw [← HV.out.2.2]; exact trimF_eq HV.out.1 HV.out.2.1); rintro e w12 ⟨v0, rfl, ho, hb⟩; have n0_ := Aside0.mk (Kd.R_lower ho (below_size (by repeat (first | (with_reducible first | exact HB.out | apply below_alloc | apply pw_below_drewN | apply below_drew1) | exact HB.out)))); have n1_ := Aside0.mk (below_step (by repeat (first | (with_reducible first | exact HB.out | apply below_alloc | apply pw_below_drewN | apply below_drew1) | exact HB.out)) hb); clear ho hb HB HO; have HB := n1_; have HO := n0_; clear n0_ n1_))
          go_ret
          exact ⟨_, rfl, HO.out, HB.out⟩
        | succ j =>
          have hn := HN.out
          have hnl : n < l1.length := by omega
          have hd : decide (n < l1.length) = true := decide_eq_true hnl
          obtain ⟨ad, ea, hc⟩ := Kd.at_int HR1.out (n : Int) (by omega) (by omega)
          cases ea
          rw [Int.toNat_natCast] at hc
          replace hc := (HB.out.cell (World.block_lt_of_cell? w _ hc)).trans hc
          obtain ⟨p, hp⟩ : ∃ p : Nat, rd l1 (n : Int) = (p : Int) := ⟨(rd l1 (n : Int)).toNat, by have := goodL_iff.1 G1.out _ (List.getElem_mem hnl); rw [rd_get hnl]; omega⟩
          have hp9 : p < 1000000000 := by have := goodL_iff.1 G1.out _ (List.getElem_mem hnl); rw [rd_get hnl] at hp; omega
          rw [hp] at hc
          have HNL := Aside0.mk hnl
          have HP := Aside0.mk (show (l1[n]'HNL.out).toNat = p by rw [rd_get hnl] at hp; rw [hp]; rfl)
          have HS := Aside0.mk (Fig.valL_take_succ HNL.out)
          have hcy : cy ≤ 1 := HI.out.1
          have HL := Aside0.mk (show (o.length + 1) * 4 ≤ 140737488355328 by
            have := HI.out
            have hz := HZ.out
            omega)
          have qn := eq_true hnl
          clear hp hn hnl
          by_cases hm : n < l0.length
          · have hdm : decide (n < l0.length) = true := decide_eq_true hm
            obtain ⟨ad2, ea2, hc2⟩ := Kd.at_int HR0.out (n : Int) (by omega) (by omega)
            cases ea2
            rw [Int.toNat_natCast] at hc2
            replace hc2 := (HB.out.cell (World.block_lt_of_cell? w _ hc2)).trans hc2
            obtain ⟨q, hq⟩ : ∃ q : Nat, rd l0 (n : Int) = (q : Int) := ⟨(rd l0 (n : Int)).toNat, by have := goodL_iff.1 G0.out _ (List.getElem_mem hm); rw [rd_get hm]; omega⟩
            have hq9 : q < 1000000000 := by have := goodL_iff.1 G0.out _ (List.getElem_mem hm); rw [rd_get hm] at hq; omega
            rw [hq] at hc2
            have HM := Aside0.mk hm
            have HQ := Aside0.mk (show (l0[n]'HM.out).toNat = q by rw [rd_get hm] at hq; rw [hq]; rfl)
            have HS2 := Aside0.mk (Fig.valL_take_succ HM.out)
            have qm := eq_true hm
            clear hq hm
            go_wp2_with (first
              | ((with_reducible refine gate_builtin (b := .append) (xs := #[.tmp 43, .tmp 46]) rfl ?_); at_builtin; refine Kd.R_append (Kd.int .u32) (w0 := w) w.heap.size rfl (.tmp 43) (.tmp 46) 39 48 (.int .u32 0) 4 rfl Tryd.underlying39 info48 rfl (by decide) (by omega) _ o (((p + cy + q) % 1000000000 : Nat) : Int) [.int .u32 (((p + cy + q) % 1000000000 : Nat) : Int)] (fun _ => True) (fun _ => False) rfl rfl ?aP (fun _ hk => hk.elim) ?aF ?aO ?aB ?aS ?aL ?_; (case aP => exact rfl); (case aB => exact (by repeat (first | (with_reducible first | exact HB.out | apply below_alloc | apply pw_below_drewN | apply below_drew1) | exact HB.out))); (case aF => exact (fun _ _ => trivial)); (case aO => exact (by (with_reducible repeat (first | apply Kd.R_alloc | apply Kd.R_drewN | apply Kd.R_drew)); exact HO.out)); (case aS => exact (below_size (by repeat (first | (with_reducible first | exact HB.out | apply below_alloc | apply pw_below_drewN | apply below_drew1) | exact HB.out)))); (case aL => exact HL.out); intro v49 w11 ho hb hg hat; have n0_ := Aside0.mk hb; have n1_ := Aside0.mk ho; clear HB; clear HO; have HB := n0_; have HO := n1_; clear n0_ n1_; clear ho hb hg hat))
            go_roundg j
            case measure => omega
            case rel =>
              exact ⟨n + 1, (p + cy + q) / 1000000000, _, by rw [succ64 n (by have := HN.out; have := HZ.out; omega)], by first | rfl | go_num, ⟨by have := HN.out; omega⟩, ⟨by
                obtain ⟨i1, i2, i3, i4⟩ := HI.out
                refine ⟨by omega, goodL_append.2 ⟨i2, goodL_cons.2 ⟨by omega, rfl⟩⟩, by simp [i3], ?_⟩
                rw [valL_snoc, Int.toNat_natCast, i3, Nat.pow_succ, HS.out, HS2.out, HP.out, HQ.out]
                exact add_digit _ _ _ _ _ _ _ i4⟩, HO, HB⟩
          · have hdm : decide (n < l0.length) = false := decide_eq_false hm
            have HM := Aside0.mk hm
            clear hm
            go_wp2_with (first
              | ((with_reducible refine gate_builtin (b := .append) (xs := #[.tmp 43, .tmp 46]) rfl ?_); at_builtin; refine Kd.R_append (Kd.int .u32) (w0 := w) w.heap.size rfl (.tmp 43) (.tmp 46) 39 48 (.int .u32 0) 4 rfl Tryd.underlying39 info48 rfl (by decide) (by omega) _ o (((p + cy) % 1000000000 : Nat) : Int) [.int .u32 (((p + cy) % 1000000000 : Nat) : Int)] (fun _ => True) (fun _ => False) rfl rfl ?aP (fun _ hk => hk.elim) ?aF ?aO ?aB ?aS ?aL ?_; (case aP => exact rfl); (case aB => exact (by repeat (first | (with_reducible first | exact HB.out | apply below_alloc | apply pw_below_drewN | apply below_drew1) | exact HB.out))); (case aF => exact (fun _ _ => trivial)); (case aO => exact (by (with_reducible repeat (first | apply Kd.R_alloc | apply Kd.R_drewN | apply Kd.R_drew)); exact HO.out)); (case aS => exact (below_size (by repeat (first | (with_reducible first | exact HB.out | apply below_alloc | apply pw_below_drewN | apply below_drew1) | exact HB.out)))); (case aL => exact HL.out); intro v49 w11 ho hb hg hat; have n0_ := Aside0.mk hb; have n1_ := Aside0.mk ho; clear HB; clear HO; have HB := n0_; have HO := n1_; clear n0_ n1_; clear ho hb hg hat))
            go_roundg j
            case measure => omega
            case rel =>
              exact ⟨n + 1, (p + cy) / 1000000000, _, by rw [succ64 n (by have := HN.out; have := HZ.out; omega)], by first | rfl | go_num, ⟨by have := HN.out; omega⟩, ⟨by
                obtain ⟨i1, i2, i3, i4⟩ := HI.out
                refine ⟨by omega, goodL_append.2 ⟨i2, goodL_cons.2 ⟨by omega, rfl⟩⟩, by simp [i3], ?_⟩
                have hm := HM.out
                have e1 : l0.take (n + 1) = l0.take n := by rw [List.take_of_length_le (by omega), List.take_of_length_le (by omega)]
                rw [valL_snoc, Int.toNat_natCast, i3, Nat.pow_succ, HS.out, HP.out, e1]
                exact add_digit0 _ _ _ _ _ _ i4⟩, HO, HB⟩
    · have ds : decide (l0.length < l1.length) = false := decide_eq_false hsw
      have HZ := Aside0.mk (show l0.length ≤ 1000000000000 ∧ l1.length ≤ 1000000000000 ∧ l1.length ≤ l0.length by omega)
      clear hsw
      go_enter Tryd.func26, Tryd.ntmps26
      go_wp2_with (first | ((with_reducible refine gate_dst (N := 20) rfl ?_); refine R_make_cap (k := .u32) w.heap.size 48 rfl 39 _ _ rfl (l0.length + 1) rfl (by first | rfl | simp) Tryd.underlying39 (.int .u32 0) 4 info48 (fun _ => True) trivial (by omega) (by omega) (w0 := w) (by first | exact Below.refl _ _ | exact pw_below_drewN (Below.refl _ _) _) (by first | exact Nat.le_refl _ | simp) ?_; intro v20 w20 ho20 hb20; have HO := Aside0.mk ho20; have HB := Aside0.mk hb20; clear ho20 hb20))
      go_loopg [5, 6, 23] l0.length (fun j v5 v6 v23 w' => ∃ (n cy : Nat) (o : List Int), v23 = .int .i64 (n : Int) ∧ v6 = .int .u32 (cy : Int) ∧ Aside0 (n + j = l0.length) ∧ Aside0 (cy ≤ 1 ∧ goodL o = true ∧ o.length = n ∧ valL o + 1000000000 ^ n * cy = valL (l0.take n) + valL (l1.take n)) ∧ Aside0 (Kd.R (Kd.int .u32) 48 w' w.heap.size (fun _ => True) v5 o) ∧ Aside0 (Below w.heap.size w w'))
      case atStart => exact ⟨0, 0, [], rfl, rfl, ⟨by omega⟩, ⟨by omega, rfl, rfl, by simp [valL]⟩, HO, HB⟩
      case round =>
        clear HO HB
        obtain ⟨n, cy, o, rfl, rfl, HN, HI, HO, HB⟩ := hrel
        cases gk with
        | zero =>
          have hn := HN.out
          have hd : decide (n < l0.length) = false := decide_eq_false (by omega)
          have HV := Aside0.mk (show goodL (o ++ [(cy : Int)]) = true ∧ (o ++ [(cy : Int)]).length ≤ 20000000000000 ∧ valL (o ++ [(cy : Int)]) = valL l0 + valL l1 by
            obtain ⟨i1, i2, i3, i4⟩ := HI.out
            have hz := HZ.out
            refine ⟨goodL_append.2 ⟨i2, goodL_cons.2 ⟨by omega, rfl⟩⟩, by simp; omega, ?_⟩
            rw [valL_snoc, Int.toNat_natCast, i3, i4, List.take_of_length_le (by omega), List.take_of_length_le (by omega)])
          have HL := Aside0.mk (show (o.length + 1) * 4 ≤ 140737488355328 by
            have := HI.out
            have hz := HZ.out
            omega)
          obtain ⟨y, hy⟩ : ∃ y, y = o ++ [(cy : Int)] := ⟨_, rfl⟩
          rw [← hy] at HV
          have NY := Aside0.mk hy
          clear hn hy
          go_wp2_with (first
            | ((with_reducible refine gate_builtin (b := .append) (xs := #[.tmp 49, .tmp 51]) rfl ?_); at_builtin; refine Kd.R_append (Kd.int .u32) (w0 := w) w.heap.size rfl (.tmp 49) (.tmp 51) 39 48 (.int .u32 0) 4 rfl Tryd.underlying39 info48 rfl (by decide) (by omega) _ o (cy : Int) [.int .u32 (cy : Int)] (fun _ => True) (fun _ => False) rfl rfl ?aP (fun _ hk => hk.elim) ?aF ?aO ?aB ?aS ?aL ?_; (case aP => exact rfl); (case aB => exact (by repeat (first | (with_reducible first | exact HB.out | apply below_alloc | apply pw_below_drewN | apply below_drew1) | exact HB.out))); (case aF => exact (fun _ _ => trivial)); (case aO => exact (by (with_reducible repeat (first | apply Kd.R_alloc | apply Kd.R_drewN | apply Kd.R_drew)); exact HO.out)); (case aS => exact (below_size (by repeat (first | (with_reducible first | exact HB.out | apply below_alloc | apply pw_below_drewN | apply below_drew1) | exact HB.out)))); (case aL => exact HL.out); intro v49 w11 ho hb hg hat; rw [← NY.out] at ho; have n0_ := Aside0.mk hb; have n1_ := Aside0.mk ho; clear HB; clear HO; have HB := n0_; have HO := n1_; clear n0_ n1_; clear ho hb hg hat; obtain ⟨A9, c9, rfl⟩ := Kd.R_slice HO.out)
            | (go_at_call 44; (with_reducible refine (nat_Trim.calls A9 c9 y (limbs (valL l0 + valL l1)) _ ?side1 ?side2 ?side3).mono ?_); (case side1 => exact (Kd.R_reads' HO.out).2.2); (case side2 => exact (Kd.R_reads' HO.out).2.1); (case side3 => rw [← HV.out.2.2]; exact trimF_eq HV.out.1 HV.out.2.1); rintro e w12 ⟨v0, rfl, ho, hb⟩; have n0_ := Aside0.mk (Kd.R_lower ho (below_size (by repeat (first | (with_reducible first | exact HB.out | apply below_alloc | apply pw_below_drewN | apply below_drew1) | exact HB.out)))); have n1_ := Aside0.mk (below_step (by repeat (first | (with_reducible first | exact HB.out | apply below_alloc | apply pw_below_drewN | apply below_drew1) | exact HB.out)) hb); clear ho hb HB HO; have HB := n1_; have HO := n0_; clear n0_ n1_))
          go_ret
          exact ⟨_, rfl, HO.out, HB.out⟩
        | succ j =>
          have hn := HN.out
          have hnl : n < l0.length := by omega
          have hd : decide (n < l0.length) = true := decide_eq_true hnl
          obtain ⟨ad, ea, hc⟩ := Kd.at_int HR0.out (n : Int) (by omega) (by omega)
          cases ea
          rw [Int.toNat_natCast] at hc
          replace hc := (HB.out.cell (World.block_lt_of_cell? w _ hc)).trans hc
          obtain ⟨p, hp⟩ : ∃ p : Nat, rd l0 (n : Int) = (p : Int) := ⟨(rd l0 (n : Int)).toNat, by have := goodL_iff.1 G0.out _ (List.getElem_mem hnl); rw [rd_get hnl]; omega⟩
          have hp9 : p < 1000000000 := by have := goodL_iff.1 G0.out _ (List.getElem_mem hnl); rw [rd_get hnl] at hp; omega
          rw [hp] at hc
          have HNL := Aside0.mk hnl
          have HP := Aside0.mk (show (l0[n]'HNL.out).toNat = p by rw [rd_get hnl] at hp; rw [hp]; rfl)
          have HS := Aside0.mk (Fig.valL_take_succ HNL.out)
          have hcy : cy ≤ 1 := HI.out.1
          have HL := Aside0.mk (show (o.length + 1) * 4 ≤ 140737488355328 by
            have := HI.out
            have hz := HZ.out
            omega)
          have qn := eq_true hnl
          clear hp hn hnl
          by_cases hm : n < l1.length
          · have hdm : decide (n < l1.length) = true := decide_eq_true hm
            obtain ⟨ad2, ea2, hc2⟩ := Kd.at_int HR1.out (n : Int) (by omega) (by omega)
            cases ea2
            rw [Int.toNat_natCast] at hc2
            replace hc2 := (HB.out.cell (World.block_lt_of_cell? w _ hc2)).trans hc2
            obtain ⟨q, hq⟩ : ∃ q : Nat, rd l1 (n : Int) = (q : Int) := ⟨(rd l1 (n : Int)).toNat, by have := goodL_iff.1 G1.out _ (List.getElem_mem hm); rw [rd_get hm]; omega⟩
            have hq9 : q < 1000000000 := by have := goodL_iff.1 G1.out _ (List.getElem_mem hm); rw [rd_get hm] at hq; omega
            rw [hq] at hc2
            have HM := Aside0.mk hm
            have HQ := Aside0.mk (show (l1[n]'HM.out).toNat = q by rw [rd_get hm] at hq; rw [hq]; rfl)
            have HS2 := Aside0.mk (Fig.valL_take_succ HM.out)
            have qm := eq_true hm
            clear hq hm
            go_wp2_with (first
              | ((with_reducible refine gate_builtin (b := .append) (xs := #[.tmp 43, .tmp 46]) rfl ?_); at_builtin; refine Kd.R_append (Kd.int .u32) (w0 := w) w.heap.size rfl (.tmp 43) (.tmp 46) 39 48 (.int .u32 0) 4 rfl Tryd.underlying39 info48 rfl (by decide) (by omega) _ o (((p + cy + q) % 1000000000 : Nat) : Int) [.int .u32 (((p + cy + q) % 1000000000 : Nat) : Int)] (fun _ => True) (fun _ => False) rfl rfl ?aP (fun _ hk => hk.elim) ?aF ?aO ?aB ?aS ?aL ?_; (case aP => exact rfl); (case aB => exact (by repeat (first | (with_reducible first | exact HB.out | apply below_alloc | apply pw_below_drewN | apply below_drew1) | exact HB.out))); (case aF => exact (fun _ _ => trivial)); (case aO => exact (by (with_reducible repeat (first | apply Kd.R_alloc | apply Kd.R_drewN | apply Kd.R_drew)); exact HO.out)); (case aS => exact (below_size (by repeat (first | (with_reducible first | exact HB.out | apply below_alloc | apply pw_below_drewN | apply below_drew1) | exact HB.out)))); (case aL => exact HL.out); intro v49 w11 ho hb hg hat; have n0_ := Aside0.mk hb; have n1_ := Aside0.mk ho; clear HB; clear HO; have HB := n0_; have HO := n1_; clear n0_ n1_; clear ho hb hg hat))
            go_roundg j
            case measure => omega
            case rel =>
              exact ⟨n + 1, (p + cy + q) / 1000000000, _, by rw [succ64 n (by have := HN.out; have := HZ.out; omega)], by first | rfl | go_num, ⟨by have := HN.out; omega⟩, ⟨by
                obtain ⟨i1, i2, i3, i4⟩ := HI.out
                refine ⟨by omega, goodL_append.2 ⟨i2, goodL_cons.2 ⟨by omega, rfl⟩⟩, by simp [i3], ?_⟩
                rw [valL_snoc, Int.toNat_natCast, i3, Nat.pow_succ, HS.out, HS2.out, HP.out, HQ.out]
                exact add_digit _ _ _ _ _ _ _ i4⟩, HO, HB⟩
          · have hdm : decide (n < l1.length) = false := decide_eq_false hm
            have HM := Aside0.mk hm
            clear hm
            go_wp2_with (first
              | ((with_reducible refine gate_builtin (b := .append) (xs := #[.tmp 43, .tmp 46]) rfl ?_); at_builtin; refine Kd.R_append (Kd.int .u32) (w0 := w) w.heap.size rfl (.tmp 43) (.tmp 46) 39 48 (.int .u32 0) 4 rfl Tryd.underlying39 info48 rfl (by decide) (by omega) _ o (((p + cy) % 1000000000 : Nat) : Int) [.int .u32 (((p + cy) % 1000000000 : Nat) : Int)] (fun _ => True) (fun _ => False) rfl rfl ?aP (fun _ hk => hk.elim) ?aF ?aO ?aB ?aS ?aL ?_; (case aP => exact rfl); (case aB => exact (by repeat (first | (with_reducible first | exact HB.out | apply below_alloc | apply pw_below_drewN | apply below_drew1) | exact HB.out))); (case aF => exact (fun _ _ => trivial)); (case aO => exact (by (with_reducible repeat (first | apply Kd.R_alloc | apply Kd.R_drewN | apply Kd.R_drew)); exact HO.out)); (case aS => exact (below_size (by repeat (first | (with_reducible first | exact HB.out | apply below_alloc | apply pw_below_drewN | apply below_drew1) | exact HB.out)))); (case aL => exact HL.out); intro v49 w11 ho hb hg hat; have n0_ := Aside0.mk hb; have n1_ := Aside0.mk ho; clear HB; clear HO; have HB := n0_; have HO := n1_; clear n0_ n1_; clear ho hb hg hat))
            go_roundg j
            case measure => omega
            case rel =>
              exact ⟨n + 1, (p + cy) / 1000000000, _, by rw [succ64 n (by have := HN.out; have := HZ.out; omega)], by first | rfl | go_num, ⟨by have := HN.out; omega⟩, ⟨by
                obtain ⟨i1, i2, i3, i4⟩ := HI.out
                refine ⟨by omega, goodL_append.2 ⟨i2, goodL_cons.2 ⟨by omega, rfl⟩⟩, by simp [i3], ?_⟩
                have hm := HM.out
                have e1 : l1.take (n + 1) = l1.take n := by rw [List.take_of_length_le (by omega), List.take_of_length_le (by omega)]
                rw [valL_snoc, Int.toNat_natCast, i3, Nat.pow_succ, HS.out, HP.out, e1]
                exact add_digit0 _ _ _ _ _ _ i4⟩, HO, HB⟩
  · rw [if_neg hg] at h; cases h
end Go.Proofs.YtekkpmoppihlaaaDoor.Px
end
section
namespace Go.Proofs.YtekkpmoppihlaaaDoor.Px
open Fig Go.RowKit Go.Proofs.YtekkpmoppihlaaaDoorW.PrintWords Go.Proofs.YtekkpmoppihlaaaDoorW.PrintLast Go.Proofs.YtekkpmoppihlaaaDoorW.PrintMore
attribute [local go_sem] max2_int min2_int max_two min_two max_three min_three max_four min_four   -- for this text's walks alone
attribute [local go_sem] fieldA23_0 fieldA23_1 fieldA23_2
def mul_Mul.l0 : Nat → List Int → List Int → List Int → Int → Int → Option (List Int)
  | 0, _, _, _, _, _ => none
  | k + 1, x0, x5, x15, x16, x17 => if x17 < x16 then (if 0 ≤ x17 then (if x17 < (x15.length : Int) then ((mul_row.f k x5 x0 (rd x15 x17) x17).bind fun t174 => (mul_Mul.l0 k x0 t174 x15 x16 (wrap64 (x17 + 1)))) else (none)) else (none)) else ((nat_Trim.f x5).bind fun t175 => (some t175))
def mul_Mul.f (k : Nat) (l0 : List Int) (l1 : List Int) : Option (List Int) := if 0 ≤ (wrap64 ((wrap64 ((l0.length : Int) + (l1.length : Int))) + 1)) then (if (wrap64 ((wrap64 ((l0.length : Int) + (l1.length : Int))) + 1) : Int).toNat ≤ 70368744177664 then (mul_Mul.l0 k l0 (List.replicate (wrap64 ((wrap64 ((l0.length : Int) + (l1.length : Int))) + 1) : Int).toNat 0) l1 (l1.length : Int) 0) else (none)) else (none)
theorem mul_Mul.mono_l : ∀ k, (∀ y0 y1 y2 y3 y4, LeO (mul_Mul.l0 k y0 y1 y2 y3 y4) (mul_Mul.l0 (k + 1) y0 y1 y2 y3 y4))
  | 0 => fun _ _ _ _ _ r h => by simp [mul_Mul.l0] at h
  | k + 1 => by
    have ih0 := mul_Mul.mono_l k
    · intro y0 y1 y2 y3 y4
      unfold mul_Mul.l0
      repeat' first
      | (with_reducible exact ih0 _ _ _ _ _)
      | (with_reducible exact mul_row.mono _ _ _ _ _)
      | (with_reducible exact LeO.refl _)
      | (with_reducible exact LeO.none _)
      | (with_reducible refine LeO.ite ?_ ?_)
      | (with_reducible refine LeO.bind ?_ (fun _ => ?_))
      | exact ih0 _ _ _ _ _
      | exact mul_row.mono _ _ _ _ _
      | exact LeO.none _
      | refine LeO.ite ?_ ?_
      | refine LeO.bind ?_ (fun _ => ?_)
theorem mul_Mul.mono : ∀ a0 a1 k, LeO (mul_Mul.f k a0 a1) (mul_Mul.f (k + 1) a0 a1) := by
  intro a0 a1 k
  have ih0 := mul_Mul.mono_l k
  unfold mul_Mul.f
  repeat' first
      | (with_reducible exact ih0 _ _ _ _ _)
      | (with_reducible exact mul_row.mono _ _ _ _ _)
      | (with_reducible exact LeO.refl _)
      | (with_reducible exact LeO.none _)
      | (with_reducible refine LeO.ite ?_ ?_)
      | (with_reducible refine LeO.bind ?_ (fun _ => ?_))
      | exact ih0 _ _ _ _ _
      | exact mul_row.mono _ _ _ _ _
      | exact LeO.none _
      | refine LeO.ite ?_ ?_
      | refine LeO.bind ?_ (fun _ => ?_)
set_option maxHeartbeats 8000000 in
set_option maxRecDepth 100000 in
theorem mul_Mul.calls (k : Nat) (A0 : Option Addr) (c0 : Nat) (l0 : List Int) (A1 : Option Addr) (c1 : Nat) (l1 : List Int) (r : List Int) (w : World) (hr0 : Kd.C (Kd.int .u32) w A0 l0.length l0) (hc0 : l0.length ≤ c0) (hr1 : Kd.C (Kd.int .u32) w A1 l1.length l1) (hc1 : l1.length ≤ c1) (h : mul_Mul.f k l0 l1 = some r) :
    Calls Tryd.prog 28 #[.slice A0 l0.length c0, .slice A1 l1.length c1] w fun e w' => ∃ v0_ : Value, e = .returned (v0_) ∧ Kd.R (Kd.int .u32) 48 w' w.heap.size (fun _ => True) v0_ r ∧ Below w.heap.size w w' := by
  have HR0 := Aside0.mk hr0
  have HC0 := Aside0.mk hc0
  clear hr0 hc0
  have HR1 := Aside0.mk hr1
  have HC1 := Aside0.mk hc1
  clear hr1 hc1
  have HB := Aside0.mk (Below.refl w.heap.size w)
  have H : (if 0 ≤ (wrap64 ((wrap64 ((l0.length : Int) + (l1.length : Int))) + 1)) then (if (wrap64 ((wrap64 ((l0.length : Int) + (l1.length : Int))) + 1) : Int).toNat ≤ 70368744177664 then (mul_Mul.l0 k l0 (List.replicate (wrap64 ((wrap64 ((l0.length : Int) + (l1.length : Int))) + 1) : Int).toNat 0) l1 (l1.length : Int) 0) else (none)) else (none)) = some r := h
  clear h
  obtain ⟨ji3, hji3⟩ : ∃ j_ : Int, (wrap64 ((wrap64 ((l0.length : Int) + (l1.length : Int))) + 1)) = j_ := ⟨_, rfl⟩
  replace H : (if 0 ≤ (ji3) then (if (ji3 : Int).toNat ≤ 70368744177664 then (mul_Mul.l0 k l0 (List.replicate (ji3 : Int).toNat 0) l1 (l1.length : Int) 0) else (none)) else (none)) = some r := by first | (rw [hji3] at H; exact H) | (simp only [hji3] at H ⊢; exact H)
  have hji3w : (IntKind.i64.wrap ((wrap64 ((l0.length : Int) + (l1.length : Int))) + 1)) = ji3 := (i64_w _).trans hji3
  by_cases c4 : 0 ≤ (ji3)
  · rw [if_pos c4] at H
    have c4b0 := eq_true c4
    have c4b1 : decide (0 ≤ (ji3)) = true := decide_eq_true c4
    clear c4
    by_cases c5 : (ji3 : Int).toNat ≤ 70368744177664
    · rw [if_pos c5] at H
      have c5b0 := eq_true c5
      have c5b1 : decide ((ji3 : Int).toNat ≤ 70368744177664) = true := decide_eq_true c5
      clear c5
      obtain ⟨y170, hy170⟩ : ∃ y_ : List Int, y_ = (List.replicate (ji3 : Int).toNat 0) := ⟨_, rfl⟩
      replace H : (mul_Mul.l0 k l0 y170 l1 (l1.length : Int) 0) = some r := by first | (rw [hy170]; with_reducible exact H) | (have H2_ := (Option.bind_some _ _).symm.trans H; rw [hy170]; with_reducible exact H2_) | (have H2_ := (Option.bind_some _ _).symm.trans H; with_reducible exact H2_) | with_reducible exact H | (rw [hy170]; exact H) | exact H
      have Ny170 := Aside0.mk hy170
      clear hy170
      have H' := Aside0.mk H
      clear H
      go_enter Tryd.func28, Tryd.ntmps28
      go_wp2_with (first | ((with_reducible refine gate_dst (N := 14) rfl ?_); refine Kd.R_make (Kd.int .u32) _ 48 rfl (N := 14) rfl 39 _ _ rfl ji3 rfl rfl Tryd.underlying39 (.int .u32 0) 4 info48 rfl (by decide) (by omega) 0 (ok := fun _ => True) (okp := fun _ => True) rfl (fun _ hk => hk) trivial (of_decide_eq_true (by first | (with_reducible assumption) | assumption)) (Nat.le_trans (Nat.mul_le_mul_right _ (of_decide_eq_true (by first | (with_reducible assumption) | assumption) : ji3.toNat ≤ 70368744177664)) (by omega)) (Below.refl _ _) (Nat.le_refl _) ?_; intro v171 w6 ho7 hb hg_ hnew_; clear hg_ hnew_; (first | rw [← Ny170.out] at ho7 | (simp only [Int.reduceToNat] at ho7; rw [← Ny170.out] at ho7)); have n0_ := Aside0.mk (Kd.R_lower ho7 (below_size (by repeat (first | (with_reducible first | exact HB.out | apply below_alloc | apply pw_below_drewN | apply below_drew1) | exact HB.out)))); have n1_ := Aside0.mk (below_step (by repeat (first | (with_reducible first | exact HB.out | apply below_alloc | apply pw_below_drewN | apply below_drew1) | exact HB.out)) hb); clear HB; have HO172 := n0_; have HB := n1_; clear n0_ n1_; clear hb ho7))
      go_loopg [17] k (fun kq v17 w' => ∃ (x5_1 : List Int) (x17_1 : Int), v17 = .int .i64 x17_1 ∧ Aside0 (mul_Mul.l0 kq l0 x5_1 l1 (l1.length : Int) x17_1 = some r) ∧ Aside0 (kq ≤ k) ∧ Aside0 (Kd.R (Kd.int .u32) 48 w' w.heap.size (fun _ => True) v171 x5_1) ∧ Aside0 (Below w.heap.size w w'))
      case atStart => exact ⟨(y170), (0), (by first | rfl | (simp; done) | (simp [*]; done) | (simp [*, Fig.bne_nil]; done)), H', ⟨Nat.le_refl _⟩, ⟨by (with_reducible repeat (first | apply Kd.R_alloc | apply Kd.R_drewN | apply Kd.R_drew)); exact HO172.out⟩, ⟨by repeat (first | (with_reducible first | exact HB.out | apply below_alloc | apply pw_below_drewN | apply below_drew1) | exact HB.out)⟩⟩
      case round =>
        clear H'
        try clear c1
        try clear c2
        try clear p2
        try clear c4
        try clear c4b0
        try clear c4b1
        try clear c5
        try clear c5b0
        try clear c5b1
        try clear p6
        obtain ⟨x5_1, x17_1, rfl, HA, HK1, HO_5, HB⟩ := hrel
        cases gk with
        | zero => exact absurd HA.out (by simp [mul_Mul.l0])
        | succ k1 =>
          have H := HA.out
          clear HA
          simp only [mul_Mul.l0] at H
          by_cases c8 : x17_1 < (l1.length : Int)
          · rw [if_pos c8] at H
            have c8b0 : decide (x17_1 < (l1.length : Int)) = true := decide_eq_true c8
            clear c8
            by_cases c9 : 0 ≤ x17_1
            · rw [if_pos c9] at H
              have c9b0 : decide (0 ≤ x17_1) = true := decide_eq_true c9
              clear c9
              by_cases c10 : x17_1 < (l1.length : Int)
              · rw [if_pos c10] at H
                have c10b0 : decide (x17_1 < (l1.length : Int)) = true := decide_eq_true c10
                clear c10
                replace H := Option.bind_eq_some_iff.mp H
                obtain ⟨t174, A110, H⟩ := H
                replace H : (mul_Mul.l0 k1 l0 t174 l1 (l1.length : Int) (wrap64 (x17_1 + 1))) = some r := H
                have A11 := Aside0.mk A110
                clear A110
                have H' := Aside0.mk H
                clear H
                have p173 : 0 ≤ (x17_1 : Int) := of_decide_eq_true (by first | (with_reducible assumption) | assumption)
                have q173 : x17_1 < (l1.length : Int) := of_decide_eq_true (by first | (with_reducible assumption) | assumption)
                obtain ⟨ad173, e173, hx173_0⟩ := Kd.at_int HR1.out x17_1 p173 q173
                cases e173
                replace hx173_0 := (HB.out.cell (World.block_lt_of_cell? w _ hx173_0)).trans hx173_0
                replace p173 := eq_true p173
                replace q173 := eq_true q173
                obtain ⟨Ao12, co12, eo12⟩ := Kd.R_slice HO_5.out
                subst eo12
                go_wp2_with (first | ((with_reducible refine gate_callee (f := 56) rfl ?_); refine goesL_ (some 26) rfl rfl Tryd.func56 (by kernel_rfl) rfl #[.slice Ao12 x5_1.length co12, .slice A0 l0.length c0, .int .u32 (rd l1 x17_1), .int .i64 x17_1] rfl (by (try simp only [List.map_toArray]); (try simp only [List.map_cons]); (try simp only [List.map_nil]); first | done | rfl | (simp only [List.length_drop, List.length_take]; rfl)) ?_; (with_reducible refine (mul_row.calls k1 (fun k_ => some k_ = (.slice Ao12 x5_1.length co12 : Value).ownBlock) (.slice Ao12 x5_1.length co12) x5_1 _ _ l0 (rd l1 x17_1) x17_1 t174 w _ ?side1 ?side2 ?side3 ?side4 A11.out).mono ?_); (case side1 => repeat (first | (with_reducible first | exact HB.out | apply below_alloc | apply pw_below_drewN | apply below_drew1) | exact HB.out)); (case side2 => exact Kd.R_tight rfl HO_5.out); (case side3 => exact Kd.C_kept_came (Kd.heap_int .u32) HR0.out (by repeat (first | (with_reducible first | exact HB.out | apply below_alloc | apply pw_below_drewN | apply below_drew1) | exact HB.out)) (fun k_ hs_ => (fun e_ => Kd.R_base HO_5.out k_ e_.symm) hs_)); (case side4 => exact HC0.out); rintro e w13 ⟨rfl, hy0, hb, hkp⟩; refine ⟨_, rfl, ?_⟩; have n0_ := Aside0.mk (Kd.R_reok rfl hy0 (fun k_ e_ => HO_5.out.1 k_ e_)); have n1_ := Aside0.mk (hb); clear HO_5; clear HB; have HO_5 := n0_; have HB := n1_; clear n0_ n1_; (try clear hb); (try clear hkp); (try clear hy0)))
                go_roundg k1
                case measure => have := HK1.out; omega
                case rel => exact ⟨(t174), (wrap64 (x17_1 + 1)), (by first | rfl | (simp; done) | (simp [*]; done) | (simp [*, Fig.bne_nil]; done)), H', ⟨by have := HK1.out; omega⟩, ⟨by (with_reducible repeat (first | apply Kd.R_alloc | apply Kd.R_drewN | apply Kd.R_drew)); exact HO_5.out⟩, ⟨by repeat (first | (with_reducible first | exact HB.out | apply below_alloc | apply pw_below_drewN | apply below_drew1) | exact HB.out)⟩⟩
              · rw [if_neg c10] at H
                exact absurd H (by simp)
            · rw [if_neg c9] at H
              exact absurd H (by simp)
          · rw [if_neg c8] at H
            have c8b0 : decide (x17_1 < (l1.length : Int)) = false := decide_eq_false c8
            clear c8
            replace H := Option.bind_eq_some_iff.mp H
            obtain ⟨t175, A140, H⟩ := H
            replace H : (some t175) = some r := H
            have A14 := Aside0.mk A140
            clear A140
            obtain rfl := Option.some.inj H
            obtain ⟨Ao15, co15, eo15⟩ := Kd.R_slice HO_5.out
            subst eo15
            go_wp2_with (first | ((with_reducible refine gate_callee (f := 44) rfl ?_); refine goesL_ (some 29) rfl rfl Tryd.func44 (by kernel_rfl) rfl #[.slice Ao15 x5_1.length co15] rfl (by (try simp only [List.map_toArray]); (try simp only [List.map_cons]); (try simp only [List.map_nil]); first | done | rfl | (simp only [List.length_drop, List.length_take]; rfl)) ?_; (with_reducible refine (nat_Trim.calls _ _ x5_1 t175 _ ?side1 ?side2 A14.out).mono ?_); (case side1 => repeat (first | exact (Kd.R_reads' HO_5.out).2.2 | (with_reducible refine Kd.C_alloc ?_ _) | (with_reducible refine Kd.C_drewN ?_ _) | (with_reducible refine Kd.C_drew ?_))); (case side2 => exact (Kd.R_reads' HO_5.out).2.1); rintro e w16 ⟨v176, rfl, ho0, hb⟩; refine ⟨_, rfl, ?_⟩; have n0_ := Aside0.mk (Kd.R_elder' (by (with_reducible repeat (first | apply Kd.R_alloc | apply Kd.R_drewN | apply Kd.R_drew)); exact HO_5.out) (Kd.R_base ho0) hb); have n1_ := Aside0.mk (Kd.R_lower (Kd.R_new' ho0 (Kd.R_lt (by (with_reducible repeat (first | apply Kd.R_alloc | apply Kd.R_drewN | apply Kd.R_drew)); exact HO_5.out))) (below_size (by repeat (first | (with_reducible first | exact HB.out | apply below_alloc | apply pw_below_drewN | apply below_drew1) | exact HB.out)))); have n2_ := Aside0.mk (below_step (by repeat (first | (with_reducible first | exact HB.out | apply below_alloc | apply pw_below_drewN | apply below_drew1) | exact HB.out)) hb); clear HO_5; clear HB; have HO_5 := n0_; have HO177 := n1_; have HB := n2_; clear n0_ n1_ n2_; (try clear hb); (try clear hb2); (try clear hk); (try clear hi); (try clear ho0)))
            go_ret
            exact ⟨_, by first | rfl | (simp [errW_none, errW_some] <;> rfl) | (simp only [← hji3]; first | rfl | (simp [errW_none, errW_some] <;> rfl)) | (simp [*, errW_none, errW_some] <;> rfl), by (with_reducible repeat (first | apply Kd.R_alloc | apply Kd.R_drewN | apply Kd.R_drew)); exact Kd.R_mono HO177.out (fun _ hk => trivial), by repeat (first | (with_reducible first | exact HB.out | apply below_alloc | apply pw_below_drewN | apply below_drew1) | exact HB.out)⟩
    · rw [if_neg c5] at H
      exact absurd H (by simp)
  · rw [if_neg c4] at H
    exact absurd H (by simp)
end Go.Proofs.YtekkpmoppihlaaaDoor.Px
end
