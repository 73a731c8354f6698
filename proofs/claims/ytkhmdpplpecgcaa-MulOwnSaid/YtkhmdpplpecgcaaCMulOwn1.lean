/- The functions that the law MulOwn reaches, told as plain functions, with what is proved of them (part 1). -/
import Derived.Test.YtkhmdpplpecgcaaPx0
import Derived.Test.YtkhmdpplpecgcaaCMulOwn0
namespace Go.Proofs.Ytkhmdpplpecgcaa.Px
open Fig Go.RowKit Go.Proofs.YtkhmdpplpecgcaaW.PrintWords Go.Proofs.YtkhmdpplpecgcaaW.PrintLast Go.Proofs.YtkhmdpplpecgcaaW.PrintMore
attribute [local go_sem] max2_int min2_int max_two min_two max_three min_three max_four min_four   -- for this text's walks alone

/-! ### figureheadref01_Times: function 20 -/
mutual
def figureheadref01_Times.l0 : Nat → ByteArray → ByteArray → List Int → Int → Option (ByteArray)
  | 0, _, _, _, _ => none
  | k + 1, x0, x1, x5, x6 => if x6 < (x0.size : Int) then (figureheadref01_Times.l1 k x0 x1 x5 x6 0) else (figureheadref01_Times.l2 k x5 ([] : List Int) 0 0)
def figureheadref01_Times.l1 : Nat → ByteArray → ByteArray → List Int → Int → Int → Option (ByteArray)
  | 0, _, _, _, _, _ => none
  | k + 1, x0, x1, x5, x6, x7 => if x7 < (x1.size : Int) then (if 0 ≤ (wrap64 (x6 + x7)) then (if (wrap64 (x6 + x7)) < (x5.length : Int) then ((figureheadref01_digit.f x0 x6).bind fun t159 => ((figureheadref01_digit.f x1 x7).bind fun t160 => (figureheadref01_Times.l1 k x0 x1 (x5.set ((wrap64 (x6 + x7)) : Int).toNat (wrap64 ((rd x5 (wrap64 (x6 + x7))) + (wrap64 (t159 * t160))))) x6 (wrap64 (x7 + 1))))) else (none)) else (none)) else (figureheadref01_Times.l0 k x0 x1 x5 (wrap64 (x6 + 1)))
def figureheadref01_Times.l2 : Nat → List Int → List Int → Int → Int → Option (ByteArray)
  | 0, _, _, _, _ => none
  | k + 1, x5, x8, x9, x10 => if x10 < (x5.length : Int) then (if 0 ≤ x10 then (if x8.length < 140737488355328 then (figureheadref01_Times.l2 k x5 (x8 ++ [(wrap64 (48 + (Int.tmod (wrap64 ((rd x5 x10) + x9)) 10))) % 256]) (wrap64 (Int.tdiv (wrap64 ((rd x5 x10) + x9)) 10)) (wrap64 (x10 + 1))) else (none)) else (none)) else ((figureheadref01_turned.f k x8).bind fun t166 => ((figureheadref01_Strip.f k t166).bind fun t167 => (some t167)))
end
def figureheadref01_Times.f (k : Nat) (a0 : ByteArray) (a1 : ByteArray) : Option (ByteArray) := if 0 ≤ (wrap64 ((wrap64 ((a0.size : Int) + (a1.size : Int))) + 1)) then (if (wrap64 ((wrap64 ((a0.size : Int) + (a1.size : Int))) + 1) : Int).toNat ≤ 35184372088832 then (figureheadref01_Times.l0 k a0 a1 (List.replicate (wrap64 ((wrap64 ((a0.size : Int) + (a1.size : Int))) + 1) : Int).toNat 0) 0) else (none)) else (none)
theorem figureheadref01_Times.mono_l : ∀ k, (∀ y0 y1 y2 y3, LeO (figureheadref01_Times.l0 k y0 y1 y2 y3) (figureheadref01_Times.l0 (k + 1) y0 y1 y2 y3)) ∧ (∀ y0 y1 y2 y3 y4, LeO (figureheadref01_Times.l1 k y0 y1 y2 y3 y4) (figureheadref01_Times.l1 (k + 1) y0 y1 y2 y3 y4)) ∧ (∀ y0 y1 y2 y3, LeO (figureheadref01_Times.l2 k y0 y1 y2 y3) (figureheadref01_Times.l2 (k + 1) y0 y1 y2 y3))
  | 0 => ⟨fun _ _ _ _ r h => by simp [figureheadref01_Times.l0] at h, fun _ _ _ _ _ r h => by simp [figureheadref01_Times.l1] at h, fun _ _ _ _ r h => by simp [figureheadref01_Times.l2] at h⟩
  | k + 1 => by
    obtain ⟨ih0, ih1, ih2⟩ := figureheadref01_Times.mono_l k
    refine ⟨?_, ?_, ?_⟩
    · intro y0 y1 y2 y3
      unfold figureheadref01_Times.l0
      repeat' first
      | (with_reducible exact ih0 _ _ _ _)
      | (with_reducible exact ih1 _ _ _ _ _)
      | (with_reducible exact ih2 _ _ _ _)
      | (with_reducible exact figureheadref01_Strip.mono _ _)
      | (with_reducible exact figureheadref01_turned.mono _ _)
      | (with_reducible exact LeO.refl _)
      | (with_reducible exact LeO.none _)
      | (with_reducible refine LeO.ite ?_ ?_)
      | (with_reducible refine LeO.bind ?_ (fun _ => ?_))
      | exact ih0 _ _ _ _
      | exact ih1 _ _ _ _ _
      | exact ih2 _ _ _ _
      | exact figureheadref01_Strip.mono _ _
      | exact figureheadref01_turned.mono _ _
      | exact LeO.none _
      | refine LeO.ite ?_ ?_
      | refine LeO.bind ?_ (fun _ => ?_)
    · intro y0 y1 y2 y3 y4
      unfold figureheadref01_Times.l1
      repeat' first
      | (with_reducible exact ih0 _ _ _ _)
      | (with_reducible exact ih1 _ _ _ _ _)
      | (with_reducible exact ih2 _ _ _ _)
      | (with_reducible exact figureheadref01_Strip.mono _ _)
      | (with_reducible exact figureheadref01_turned.mono _ _)
      | (with_reducible exact LeO.refl _)
      | (with_reducible exact LeO.none _)
      | (with_reducible refine LeO.ite ?_ ?_)
      | (with_reducible refine LeO.bind ?_ (fun _ => ?_))
      | exact ih0 _ _ _ _
      | exact ih1 _ _ _ _ _
      | exact ih2 _ _ _ _
      | exact figureheadref01_Strip.mono _ _
      | exact figureheadref01_turned.mono _ _
      | exact LeO.none _
      | refine LeO.ite ?_ ?_
      | refine LeO.bind ?_ (fun _ => ?_)
    · intro y0 y1 y2 y3
      unfold figureheadref01_Times.l2
      repeat' first
      | (with_reducible exact ih0 _ _ _ _)
      | (with_reducible exact ih1 _ _ _ _ _)
      | (with_reducible exact ih2 _ _ _ _)
      | (with_reducible exact figureheadref01_Strip.mono _ _)
      | (with_reducible exact figureheadref01_turned.mono _ _)
      | (with_reducible exact LeO.refl _)
      | (with_reducible exact LeO.none _)
      | (with_reducible refine LeO.ite ?_ ?_)
      | (with_reducible refine LeO.bind ?_ (fun _ => ?_))
      | exact ih0 _ _ _ _
      | exact ih1 _ _ _ _ _
      | exact ih2 _ _ _ _
      | exact figureheadref01_Strip.mono _ _
      | exact figureheadref01_turned.mono _ _
      | exact LeO.none _
      | refine LeO.ite ?_ ?_
      | refine LeO.bind ?_ (fun _ => ?_)
theorem figureheadref01_Times.mono : ∀ a0 a1 k, LeO (figureheadref01_Times.f k a0 a1) (figureheadref01_Times.f (k + 1) a0 a1) := by
  intro a0 a1 k
  obtain ⟨ih0, ih1, ih2⟩ := figureheadref01_Times.mono_l k
  unfold figureheadref01_Times.f
  repeat' first
      | (with_reducible exact ih0 _ _ _ _)
      | (with_reducible exact ih1 _ _ _ _ _)
      | (with_reducible exact ih2 _ _ _ _)
      | (with_reducible exact figureheadref01_Strip.mono _ _)
      | (with_reducible exact figureheadref01_turned.mono _ _)
      | (with_reducible exact LeO.refl _)
      | (with_reducible exact LeO.none _)
      | (with_reducible refine LeO.ite ?_ ?_)
      | (with_reducible refine LeO.bind ?_ (fun _ => ?_))
      | exact ih0 _ _ _ _
      | exact ih1 _ _ _ _ _
      | exact ih2 _ _ _ _
      | exact figureheadref01_Strip.mono _ _
      | exact figureheadref01_turned.mono _ _
      | exact LeO.none _
      | refine LeO.ite ?_ ?_
      | refine LeO.bind ?_ (fun _ => ?_)
def figureheadref01_Times.T8 : Bool × List (List Nat × List Nat) := (true, [([], []), ([], []), ([], []), ([1, 2], [1, 2]), ([], []), ([], []), ([], []), ([5, 6], [5, 6]), ([4, 7], [4, 7]), ([8], [8]), ([], []), ([], []), ([10, 11], [10, 11]), ([], []), ([], []), ([13, 14, 12], [13, 14]), ([12, 15], [12, 15]), ([9, 16], [9, 16]), ([0, 3, 0, 1, 2, 3, 4, 5, 6, 7, 8, 9, 10, 11, 12, 13, 14, 15, 16, 17], [0, 3]), ([18, 17, 15, 0, 1, 2, 3, 4, 5, 6, 7, 8, 9, 10, 11, 12, 13, 14, 15, 16, 17], [17, 18])])
def figureheadref01_Times.B8 : List Nat := [0, 0, 0, 6, 0, 0, 0, 96, 240, 496, 0, 0, 3072, 0, 0, 31744, 64512, 131056, 262143, 524287]
theorem figureheadref01_Times.tab8 : rtab .any (opsOf Try.f20 8) = figureheadref01_Times.T8 := by kernel_rfl
theorem figureheadref01_Times.bits8 : waitsOk figureheadref01_Times.T8.2 figureheadref01_Times.B8 = true := by kernel_rfl
set_option maxHeartbeats 8000000 in
set_option maxRecDepth 100000 in
theorem figureheadref01_Times.calls (k : Nat) (a0 : ByteArray) (a1 : ByteArray) (r : ByteArray) (w : World) (h : figureheadref01_Times.f k a0 a1 = some r) :
    Calls Try.prog 20 #[.string a0, .string a1] w fun e w' => e = .returned (.string r) ∧ Below w.heap.size w w' := by
  have HB := Aside0.mk (Below.refl w.heap.size w)
  have H : (if 0 ≤ (wrap64 ((wrap64 ((a0.size : Int) + (a1.size : Int))) + 1)) then (if (wrap64 ((wrap64 ((a0.size : Int) + (a1.size : Int))) + 1) : Int).toNat ≤ 35184372088832 then (figureheadref01_Times.l0 k a0 a1 (List.replicate (wrap64 ((wrap64 ((a0.size : Int) + (a1.size : Int))) + 1) : Int).toNat 0) 0) else (none)) else (none)) = some r := h
  clear h
  obtain ⟨ji3, hji3⟩ : ∃ j_ : Int, (wrap64 ((wrap64 ((a0.size : Int) + (a1.size : Int))) + 1)) = j_ := ⟨_, rfl⟩
  replace H : (if 0 ≤ (ji3) then (if (ji3 : Int).toNat ≤ 35184372088832 then (figureheadref01_Times.l0 k a0 a1 (List.replicate (ji3 : Int).toNat 0) 0) else (none)) else (none)) = some r := by first | (rw [hji3] at H; exact H) | (simp only [hji3] at H ⊢; exact H)
  have hji3w : (IntKind.i64.wrap ((wrap64 ((a0.size : Int) + (a1.size : Int))) + 1)) = ji3 := (i64_w _).trans hji3
  by_cases c4 : 0 ≤ (ji3)
  · rw [if_pos c4] at H
    have c4b0 := eq_true c4
    have c4b1 : decide (0 ≤ (ji3)) = true := decide_eq_true c4
    clear c4
    by_cases c5 : (ji3 : Int).toNat ≤ 35184372088832
    · rw [if_pos c5] at H
      have c5b0 := eq_true c5
      have c5b1 : decide ((ji3 : Int).toNat ≤ 35184372088832) = true := decide_eq_true c5
      clear c5
      obtain ⟨y155, hy155⟩ : ∃ y_ : List Int, y_ = (List.replicate (ji3 : Int).toNat 0) := ⟨_, rfl⟩
      replace H : (figureheadref01_Times.l0 k a0 a1 y155 0) = some r := by first | (rw [hy155]; with_reducible exact H) | (have H2_ := (Option.bind_some _ _).symm.trans H; rw [hy155]; with_reducible exact H2_) | (have H2_ := (Option.bind_some _ _).symm.trans H; with_reducible exact H2_) | with_reducible exact H | (rw [hy155]; exact H) | exact H
      have Ny155 := Aside0.mk hy155
      clear hy155
      have H' := Aside0.mk H
      clear H
      go_enter Try.func20, Try.ntmps20
      go_wp2_with (first | ((with_reducible refine gate_dst (N := 18) rfl ?_); refine Kd.R_make (Kd.int .i64) _ 3 rfl (N := 18) rfl 44 _ _ rfl ji3 rfl rfl Try.underlying44 (.int .i64 0) 8 info3 rfl (by decide) (by omega) 0 (ok := fun _ => True) (okp := fun _ => True) rfl (fun _ hk => hk) trivial (of_decide_eq_true (by first | (with_reducible assumption) | assumption)) (Nat.le_trans (Nat.mul_le_mul_right _ (of_decide_eq_true (by first | (with_reducible assumption) | assumption) : ji3.toNat ≤ 35184372088832)) (by omega)) (Below.refl _ _) (Nat.le_refl _) ?_; intro v156 w6 ho7 hb hg_ hnew_; clear hg_ hnew_; (first | rw [← Ny155.out] at ho7 | (simp only [Int.reduceToNat] at ho7; rw [← Ny155.out] at ho7)); have n0_ := Aside0.mk (Kd.R_lower ho7 (below_size (by repeat (first | (with_reducible first | exact HB.out | apply below_alloc | apply pw_below_drewN | apply below_drew1) | exact HB.out)))); have n1_ := Aside0.mk (below_step (by repeat (first | (with_reducible first | exact HB.out | apply below_alloc | apply pw_below_drewN | apply below_drew1) | exact HB.out)) hb); clear HB; have HO157 := n0_; have HB := n1_; clear n0_ n1_; clear hb ho7))
      go_loopg [6] k (fun kq v6 w' => ∃ (x5_1 : List Int) (x6_1 : Int), v6 = .int .i64 x6_1 ∧ Aside0 (figureheadref01_Times.l0 kq a0 a1 x5_1 x6_1 = some r) ∧ Aside0 (kq ≤ k) ∧ Aside0 (Kd.R (Kd.int .i64) 3 w' w.heap.size (fun _ => True) v156 x5_1) ∧ Aside0 (Below w.heap.size w w'))
      case atStart => exact ⟨(y155), (0), (by first | rfl | (simp; done) | (simp [*]; done) | (simp [*, Fig.bne_nil]; done)), H', ⟨Nat.le_refl _⟩, ⟨by (with_reducible repeat (first | apply Kd.R_alloc | apply Kd.R_drewN | apply Kd.R_drew)); exact HO157.out⟩, ⟨by repeat (first | (with_reducible first | exact HB.out | apply below_alloc | apply pw_below_drewN | apply below_drew1) | exact HB.out)⟩⟩
      case round =>
        clear H'
        try clear c2
        try clear p2
        try clear c4
        try clear c4b0
        try clear c4b1
        try clear c5
        try clear c5b0
        try clear c5b1
        try clear p6
        obtain ⟨x5_1, x6_1, rfl, HA, HK1, HO_5, HB⟩ := hrel
        cases gk with
        | zero => exact absurd HA.out (by simp [figureheadref01_Times.l0])
        | succ k1 =>
          have H := HA.out
          clear HA
          simp only [figureheadref01_Times.l0] at H
          by_cases c8 : x6_1 < (a0.size : Int)
          · rw [if_pos c8] at H
            have c8b0 : decide (x6_1 < (a0.size : Int)) = true := decide_eq_true c8
            clear c8
            have H' := Aside0.mk H
            clear H
            go_wp2
            go_loopg [7] k1 (fun kq v7 w' => ∃ (x5_2 : List Int) (x7_2 : Int), v7 = .int .i64 x7_2 ∧ Aside0 (figureheadref01_Times.l1 kq a0 a1 x5_2 x6_1 x7_2 = some r) ∧ Aside0 (kq ≤ k1) ∧ Aside0 (Kd.R (Kd.int .i64) 3 w' w.heap.size (fun _ => True) v156 x5_2) ∧ Aside0 (Below w.heap.size w w'))
            case atStart => exact ⟨(x5_1), (0), (by first | rfl | (simp; done) | (simp [*]; done) | (simp [*, Fig.bne_nil]; done)), H', ⟨Nat.le_refl _⟩, ⟨by (with_reducible repeat (first | apply Kd.R_alloc | apply Kd.R_drewN | apply Kd.R_drew)); exact HO_5.out⟩, ⟨by repeat (first | (with_reducible first | exact HB.out | apply below_alloc | apply pw_below_drewN | apply below_drew1) | exact HB.out)⟩⟩
            case round =>
              clear H'
              try clear c2
              try clear p2
              try clear c4
              try clear c4b0
              try clear c4b1
              try clear c5
              try clear c5b0
              try clear c5b1
              try clear p6
              try clear c8
              try clear c8b0
              try clear p2
              try clear p6
              obtain ⟨x5_2, x7_2, rfl, HA, HK2, HO_5, HB⟩ := hrel
              cases gk with
              | zero => exact absurd HA.out (by simp [figureheadref01_Times.l1])
              | succ k2 =>
                have H := HA.out
                clear HA
                simp only [figureheadref01_Times.l1] at H
                by_cases c9 : x7_2 < (a1.size : Int)
                · rw [if_pos c9] at H
                  have c9b0 : decide (x7_2 < (a1.size : Int)) = true := decide_eq_true c9
                  clear c9
                  obtain ⟨ji10, hji10⟩ : ∃ j_ : Int, (wrap64 (x6_1 + x7_2)) = j_ := ⟨_, rfl⟩
                  replace H : (if 0 ≤ (ji10) then (if (ji10) < (x5_2.length : Int) then ((figureheadref01_digit.f a0 x6_1).bind fun t159 => ((figureheadref01_digit.f a1 x7_2).bind fun t160 => (figureheadref01_Times.l1 k2 a0 a1 (x5_2.set ((ji10) : Int).toNat (wrap64 ((rd x5_2 (ji10)) + (wrap64 (t159 * t160))))) x6_1 (wrap64 (x7_2 + 1))))) else (none)) else (none)) = some r := by first | (rw [hji10] at H; exact H) | (simp only [hji10] at H ⊢; exact H)
                  have hji10w : (IntKind.i64.wrap (x6_1 + x7_2)) = ji10 := (i64_w _).trans hji10
                  by_cases c11 : 0 ≤ (ji10)
                  · rw [if_pos c11] at H
                    have c11b0 : decide (0 ≤ (ji10)) = true := decide_eq_true c11
                    clear c11
                    by_cases c12 : (ji10) < (x5_2.length : Int)
                    · rw [if_pos c12] at H
                      have c12b0 : decide ((ji10) < (x5_2.length : Int)) = true := decide_eq_true c12
                      clear c12
                      replace H := Option.bind_eq_some_iff.mp H
                      obtain ⟨t159, A130, H⟩ := H
                      replace H : ((figureheadref01_digit.f a1 x7_2).bind fun t160 => (figureheadref01_Times.l1 k2 a0 a1 (x5_2.set ((ji10) : Int).toNat (wrap64 ((rd x5_2 (ji10)) + (wrap64 (t159 * t160))))) x6_1 (wrap64 (x7_2 + 1)))) = some r := H
                      have A13 := Aside0.mk A130
                      clear A130
                      replace H := Option.bind_eq_some_iff.mp H
                      obtain ⟨t160, A140, H⟩ := H
                      replace H : (figureheadref01_Times.l1 k2 a0 a1 (x5_2.set ((ji10) : Int).toNat (wrap64 ((rd x5_2 (ji10)) + (wrap64 (t159 * t160))))) x6_1 (wrap64 (x7_2 + 1))) = some r := H
                      have A14 := Aside0.mk A140
                      clear A140
                      obtain ⟨y161, hy161⟩ : ∃ y_ : List Int, y_ = (x5_2.set ((ji10) : Int).toNat (wrap64 ((rd x5_2 (ji10)) + (wrap64 (t159 * t160))))) := ⟨_, rfl⟩
                      replace H : (figureheadref01_Times.l1 k2 a0 a1 y161 x6_1 (wrap64 (x7_2 + 1))) = some r := by first | (rw [hy161]; with_reducible exact H) | (have H2_ := (Option.bind_some _ _).symm.trans H; rw [hy161]; with_reducible exact H2_) | (have H2_ := (Option.bind_some _ _).symm.trans H; with_reducible exact H2_) | with_reducible exact H | (rw [hy161]; exact H) | exact H
                      have Ny161 := Aside0.mk hy161
                      clear hy161
                      have H' := Aside0.mk H
                      clear H
                      try go_wp2
                      have n0_ := Aside0.mk (Kd.R_drew HO_5.out)
                      have n1_ := Aside0.mk (below_drew1 HB.out)
                      clear HO_5
                      clear HB
                      have HO_5 := n0_
                      have HB := n1_
                      clear n0_ n1_
                      obtain ⟨Ao17, co17, eo17⟩ := Kd.R_slice HO_5.out
                      (first | subst eo17 | (injection eo17 with f1_ f2_ f3_; have f4_ := f1_.symm; have f5_ := f3_.symm; clear f1_ f2_ f3_; subst f4_; subst f5_))
                      have p158 : 0 ≤ ((ji10) : Int) := of_decide_eq_true (by first | (with_reducible assumption) | assumption)
                      have q158 : (ji10) < (x5_2.length : Int) := of_decide_eq_true (by first | (with_reducible assumption) | assumption)
                      obtain ⟨ad158, e158, hx158_0⟩ := Kd.at_int (Kd.R_reads' HO_5.out).2.2 (ji10) p158 q158
                      cases e158
                      replace p158 := eq_true p158
                      replace q158 := eq_true q158
                      refine start_ (n := 20) (S := fun w' => w'.cell? (ad158.add ((ji10)).toNat) = some (.int .i64 (rd x5_2 (ji10)))) (ds := [19]) #[false, false, false, false, false, false, false, false, false, false, false, false, false, false, false, false, false, false, false, false] (by kernel_rfl) rfl rfl (hx158_0) (fun hHeld => ?_); refine with_tabW figureheadref01_Times.tab8 figureheadref01_Times.bits8 (fun HT_ HW_ => ?_)
                      generalize wr.drew = w16 at HO_5 HB hx158_0 hHeld ⊢
                      refine pure_ (i := 0) (N := some 31) (v := ?_) (a' := ?_) #[true, false, false, false, false, false, false, false, false, false, false, false, false, false, false, false, false, false, false, false] rfl rfl (any_of HT_.out (by kernel_rfl)) (fun _ _ _ h => h) (Or.inl ⟨by rfl, ?_⟩) ?_ ?_
                      rotate_left
                      · intro w'
                        go_simp
                        with_reducible rfl
                      rotate_left
                      · simp only [Act.put, List.setIfInBounds_toArray, List.set_cons_zero, List.set_cons_succ, i64_w, i32_w]
                        rfl
                      refine pure_ (i := 1) (N := some 32) (v := ?_) (a' := ?_) #[true, true, false, false, false, false, false, false, false, false, false, false, false, false, false, false, false, false, false, false] rfl rfl (any_of HT_.out (by kernel_rfl)) (fun _ _ _ h => h) (Or.inl ⟨by rfl, ?_⟩) ?_ ?_
                      rotate_left
                      · intro w'
                        go_simp
                        with_reducible rfl
                      rotate_left
                      · simp only [Act.put, List.setIfInBounds_toArray, List.set_cons_zero, List.set_cons_succ, i64_w, i32_w]
                        rfl
                      refine pure_ (i := 2) (N := some 33) (v := ?_) (a' := ?_) #[true, true, true, false, false, false, false, false, false, false, false, false, false, false, false, false, false, false, false, false] rfl rfl (any_of HT_.out (by kernel_rfl)) (fun _ _ _ h => h) (Or.inl ⟨by rfl, ?_⟩) ?_ ?_
                      rotate_left
                      · intro w'
                        go_simp
                        with_reducible rfl
                      rotate_left
                      · simp only [Act.put, List.setIfInBounds_toArray, List.set_cons_zero, List.set_cons_succ, i64_w, i32_w]
                        rfl
                      refine pure_ (i := 3) (N := some 34) (v := ?_) (a' := ?_) #[true, true, true, true, false, false, false, false, false, false, false, false, false, false, false, false, false, false, false, false] rfl rfl (any_of HT_.out (by kernel_rfl)) (fun _ _ _ h => h) (Or.inl ⟨by rfl, ?_⟩) ?_ ?_
                      rotate_left
                      · intro w'
                        go_simp
                        with_reducible rfl
                      rotate_left
                      · simp only [Act.put, List.setIfInBounds_toArray, List.set_cons_zero, List.set_cons_succ, i64_w, i32_w]
                        rfl
                      refine pure_ (i := 4) (N := some 35) (v := ?_) (a' := ?_) #[true, true, true, true, true, false, false, false, false, false, false, false, false, false, false, false, false, false, false, false] rfl rfl (any_of HT_.out (by kernel_rfl)) (fun _ _ _ h => h) (Or.inl ⟨by rfl, ?_⟩) ?_ ?_
                      rotate_left
                      · intro w'
                        go_simp
                        with_reducible rfl
                      rotate_left
                      · simp only [Act.put, List.setIfInBounds_toArray, List.set_cons_zero, List.set_cons_succ, i64_w, i32_w]
                        rfl
                      refine pure_ (i := 5) (N := some 36) (v := ?_) (a' := ?_) #[true, true, true, true, true, true, false, false, false, false, false, false, false, false, false, false, false, false, false, false] rfl rfl (any_of HT_.out (by kernel_rfl)) (fun _ _ _ h => h) (Or.inl ⟨by rfl, ?_⟩) ?_ ?_
                      rotate_left
                      · intro w'
                        go_simp
                        with_reducible rfl
                      rotate_left
                      · simp only [Act.put, List.setIfInBounds_toArray, List.set_cons_zero, List.set_cons_succ, i64_w, i32_w]
                        rfl
                      refine pure_ (i := 6) (N := some 37) (v := ?_) (a' := ?_) #[true, true, true, true, true, true, true, false, false, false, false, false, false, false, false, false, false, false, false, false] rfl rfl (any_of HT_.out (by kernel_rfl)) (fun _ _ _ h => h) (Or.inl ⟨by rfl, ?_⟩) ?_ ?_
                      rotate_left
                      · intro w'
                        go_simp
                        with_reducible rfl
                      rotate_left
                      · simp only [Act.put, List.setIfInBounds_toArray, List.set_cons_zero, List.set_cons_succ, i64_w, i32_w]
                        rfl
                      refine pure_ (i := 7) (N := some 38) (v := ?_) (a' := ?_) #[true, true, true, true, true, true, true, true, false, false, false, false, false, false, false, false, false, false, false, false] rfl rfl (any_of HT_.out (by kernel_rfl)) (fun _ _ _ h => h) (Or.inl ⟨by rfl, ?_⟩) ?_ ?_
                      rotate_left
                      · intro w'
                        go_simp
                        with_reducible rfl
                      rotate_left
                      · simp only [Act.put, List.setIfInBounds_toArray, List.set_cons_zero, List.set_cons_succ, i64_w, i32_w]
                        rfl
                      refine pure_ (i := 8) (N := some 39) (v := ?_) (a' := ?_) #[true, true, true, true, true, true, true, true, true, false, false, false, false, false, false, false, false, false, false, false] rfl rfl (any_of HT_.out (by kernel_rfl)) (fun _ _ _ h => h) (Or.inl ⟨by rfl, ?_⟩) ?_ ?_
                      rotate_left
                      · intro w'
                        go_simp
                        with_reducible rfl
                      rotate_left
                      · simp only [Act.put, List.setIfInBounds_toArray, List.set_cons_zero, List.set_cons_succ, i64_w, i32_w]
                        rfl
                      refine pure_ (i := 10) (N := some 41) (v := ?_) (a' := ?_) #[true, true, true, true, true, true, true, true, true, false, true, false, false, false, false, false, false, false, false, false] rfl rfl (any_of HT_.out (by kernel_rfl)) (fun _ _ _ h => h) (Or.inl ⟨by rfl, ?_⟩) ?_ ?_
                      rotate_left
                      · intro w'
                        go_simp
                        with_reducible rfl
                      rotate_left
                      · simp only [Act.put, List.setIfInBounds_toArray, List.set_cons_zero, List.set_cons_succ, i64_w, i32_w]
                        rfl
                      refine pure_ (i := 11) (N := some 42) (v := ?_) (a' := ?_) #[true, true, true, true, true, true, true, true, true, false, true, true, false, false, false, false, false, false, false, false] rfl rfl (any_of HT_.out (by kernel_rfl)) (fun _ _ _ h => h) (Or.inl ⟨by rfl, ?_⟩) ?_ ?_
                      rotate_left
                      · intro w'
                        go_simp
                        with_reducible rfl
                      rotate_left
                      · simp only [Act.put, List.setIfInBounds_toArray, List.set_cons_zero, List.set_cons_succ, i64_w, i32_w]
                        rfl
                      refine pure_ (i := 13) (N := some 44) (v := ?_) (a' := ?_) #[true, true, true, true, true, true, true, true, true, false, true, true, false, true, false, false, false, false, false, false] rfl rfl (any_of HT_.out (by kernel_rfl)) (fun _ _ _ h => h) (Or.inl ⟨by rfl, ?_⟩) ?_ ?_
                      rotate_left
                      · intro w'
                        go_simp
                        with_reducible rfl
                      rotate_left
                      · simp only [Act.put, List.setIfInBounds_toArray, List.set_cons_zero, List.set_cons_succ, i64_w, i32_w]
                        rfl
                      refine pure_ (i := 14) (N := some 45) (v := ?_) (a' := ?_) #[true, true, true, true, true, true, true, true, true, false, true, true, false, true, true, false, false, false, false, false] rfl rfl (any_of HT_.out (by kernel_rfl)) (fun _ _ _ h => h) (Or.inl ⟨by rfl, ?_⟩) ?_ ?_
                      rotate_left
                      · intro w'
                        go_simp
                        with_reducible rfl
                      rotate_left
                      · simp only [Act.put, List.setIfInBounds_toArray, List.set_cons_zero, List.set_cons_succ, i64_w, i32_w]
                        rfl
                      refine take_ (i := 9) (N := some 40) (v := ?_) (a' := ?_) #[true, true, true, true, true, true, true, true, true, true, true, true, false, true, true, false, false, false, false, false] rfl rfl (take_ofW HT_.out HW_.out (by kernel_rfl)) (fun _ _ _ h => h) (Or.inl ⟨by rfl, ?_⟩) hHeld ?_ ?_
                      rotate_left
                      · intro w' s0
                        go_simp
                        with_reducible rfl
                      rotate_left
                      · simp only [Act.put, List.setIfInBounds_toArray, List.set_cons_zero, List.set_cons_succ, i64_w, i32_w]
                        rfl
                      refine one_ (i := 12) (N := some 43) #[true, true, true, true, true, true, true, true, true, true, true, true, true, true, true, false, false, false, false, false] rfl rfl (one_of HT_.out (by kernel_rfl)) (by decide) (fun K hK => ?_)
                      refine goes_ Try.func36 (by kernel_rfl) rfl #[.string a0, .int .i64 x6_1] (by rfl) rfl rfl (by (try simp only [List.map_toArray, List.map_cons, List.map_nil]); first | done | rfl | (simp only [List.length_drop, List.length_take]; rfl)) ?_
                      with_reducible refine (figureheadref01_digit.calls a0 x6_1 t159 _ A13.out).mono ?_
                      rintro e w' ⟨rfl, ⟨nd, rfl⟩⟩
                      refine ⟨_, rfl, ?_⟩
                      refine hK.out _ _ (hHeld) (fun hHeld => ?_)
                      clear hK K
                      refine norm_ (a' := ?_) ?_ ?_
                      rotate_left
                      · show Act.put _ (some 43) _ = _
                        simp only [Act.put, List.setIfInBounds_toArray, List.set_cons_zero, List.set_cons_succ, i64_w, i32_w]
                        rfl
                      refine one_ (i := 15) (N := some 46) #[true, true, true, true, true, true, true, true, true, true, true, true, true, true, true, true, false, false, false, false] rfl rfl (one_of HT_.out (by kernel_rfl)) (by decide) (fun K hK => ?_)
                      refine goes_ Try.func36 (by kernel_rfl) rfl #[.string a1, .int .i64 x7_2] (by rfl) rfl rfl (by (try simp only [List.map_toArray, List.map_cons, List.map_nil]); first | done | rfl | (simp only [List.length_drop, List.length_take]; rfl)) ?_
                      with_reducible refine (figureheadref01_digit.calls a1 x7_2 t160 _ A14.out).mono ?_
                      rintro e w' ⟨rfl, ⟨nd, rfl⟩⟩
                      refine ⟨_, rfl, ?_⟩
                      have p15 : 0 ≤ ((ji10) : Int) := of_decide_eq_true (by first | (with_reducible assumption) | assumption)
                      have q15 : ((ji10) : Int) < ((x5_2.length : Int) : Int) := of_decide_eq_true (by first | (with_reducible assumption) | assumption)
                      obtain ⟨go15, co15, eo15, gb15, gl15, cl15, HG15⟩ := Kd.R_form HO_5.out (by omega)
                      (first | cases eo15 | (injection eo15 with ea_ en_ ec_; (first | subst ea_ | (injection ea_ with ea_; subst ea_)); subst ec_; clear en_))
                      have GB15 := Aside0.mk gb15
                      have GG15 := Aside0.mk HG15
                      clear gb15 gl15 HG15
                      (first | simp only [add_plain] at hx158_0 | skip)
                      obtain ⟨hx15_0, hf15_0⟩ := Kd.R_celln 0 HO_5.out ((ji10) : Int) p15 q15
                      replace p15 := eq_true p15
                      replace q15 := eq_true q15
                      have HP18 := Kd.R_putn HO_5.out ((ji10) : Int) (wrap64 ((rd x5_2 (ji10)) + (wrap64 (t159 * t160))))
                      rw [← Ny161.out] at HP18
                      have HQ18 := Aside0.mk HP18
                      clear HP18
                      refine hK.out _ _ (hHeld) (fun hHeld => ?_)
                      clear hK K
                      refine norm_ (a' := ?_) ?_ ?_
                      rotate_left
                      · show Act.put _ (some 46) _ = _
                        simp only [Act.put, List.setIfInBounds_toArray, List.set_cons_zero, List.set_cons_succ, i64_w, i32_w]
                        rfl
                      refine pure_ (i := 16) (N := some 47) (v := ?_) (a' := ?_) #[true, true, true, true, true, true, true, true, true, true, true, true, true, true, true, true, true, false, false, false] rfl rfl (any_of HT_.out (by kernel_rfl)) (fun _ _ _ h => h) (Or.inl ⟨by rfl, ?_⟩) ?_ ?_
                      rotate_left
                      · intro w'
                        go_simp
                        with_reducible rfl
                      rotate_left
                      · simp only [Act.put, List.setIfInBounds_toArray, List.set_cons_zero, List.set_cons_succ, i64_w, i32_w]
                        rfl
                      refine pure_ (i := 17) (N := some 48) (v := ?_) (a' := ?_) #[true, true, true, true, true, true, true, true, true, true, true, true, true, true, true, true, true, true, false, false] rfl rfl (any_of HT_.out (by kernel_rfl)) (fun _ _ _ h => h) (Or.inl ⟨by rfl, ?_⟩) ?_ ?_
                      rotate_left
                      · intro w'
                        go_simp
                        with_reducible rfl
                      rotate_left
                      · simp only [Act.put, List.setIfInBounds_toArray, List.set_cons_zero, List.set_cons_succ, i64_w, i32_w]
                        rfl
                      refine pure_ (i := 18) (N := some 49) (v := ?_) (a' := ?_) #[true, true, true, true, true, true, true, true, true, true, true, true, true, true, true, true, true, true, true, false] rfl rfl (any_of HT_.out (by kernel_rfl)) (fun _ _ _ h => h) (Or.inl ⟨by rfl, ?_⟩) ?_ ?_
                      rotate_left
                      · intro w'
                        go_simp
                        with_reducible rfl
                      rotate_left
                      · simp only [Act.put, List.setIfInBounds_toArray, List.set_cons_zero, List.set_cons_succ, i64_w, i32_w]
                        rfl
                      refine last_ (i := 19) (N := none) #[true, true, true, true, true, true, true, true, true, true, true, true, true, true, true, true, true, true, true, true] rfl rfl (one_of HT_.out (by kernel_rfl)) (by decide) (fun K hK => ?_)
                      refine skip_ (w1 := ?_) (by rfl) rfl ?_ ?_
                      rotate_left
                      · go_simp
                        rfl
                      refine hK.out _ _ ?_
                      clear hK K
                      refine done_ (done_of HT_.out (by kernel_rfl)) ?_
                      try go_wp2
                      go_roundg k2
                      case measure => have := HK1.out; have := HK2.out; omega
                      case rel => exact ⟨(y161), (wrap64 (x7_2 + 1)), (by first | rfl | (simp; done) | (simp [*]; done) | (simp [*, Fig.bne_nil]; done)), H', ⟨by have := HK1.out; have := HK2.out; omega⟩, ⟨by (with_reducible repeat (first | apply Kd.R_alloc | apply Kd.R_drewN | apply Kd.R_drew)); exact HQ18.out⟩, ⟨by repeat (first | (with_reducible first | exact HB.out | apply below_alloc | apply pw_below_drewN | apply below_drew1 | refine below_set ?_ GB15.out) | exact HB.out)⟩⟩
                    · rw [if_neg c12] at H
                      exact absurd H (by simp)
                  · rw [if_neg c11] at H
                    exact absurd H (by simp)
                · rw [if_neg c9] at H
                  have c9b0 : decide (x7_2 < (a1.size : Int)) = false := decide_eq_false c9
                  clear c9
                  have H' := Aside0.mk H
                  clear H
                  go_wp2
                  go_roundg k2
                  case measure => have := HK1.out; have := HK2.out; omega
                  case rel => exact ⟨(x5_2), (wrap64 (x6_1 + 1)), (by first | rfl | (simp; done) | (simp [*]; done) | (simp [*, Fig.bne_nil]; done)), H', ⟨by have := HK1.out; have := HK2.out; omega⟩, ⟨by (with_reducible repeat (first | apply Kd.R_alloc | apply Kd.R_drewN | apply Kd.R_drew)); exact HO_5.out⟩, ⟨by repeat (first | (with_reducible first | exact HB.out | apply below_alloc | apply pw_below_drewN | apply below_drew1) | exact HB.out)⟩⟩
          · rw [if_neg c8] at H
            have c8b0 : decide (x6_1 < (a0.size : Int)) = false := decide_eq_false c8
            clear c8
            have H' := Aside0.mk H
            clear H
            go_wp2
            go_loopg [8, 9, 10] k1 (fun kq v8 v9 v10 w' => ∃ (x8_2 : List Int) (x9_2 : Int) (x10_2 : Int), v9 = .int .i64 x9_2 ∧ v10 = .int .i64 x10_2 ∧ Aside0 (figureheadref01_Times.l2 kq x5_1 x8_2 x9_2 x10_2 = some r) ∧ Aside0 (kq ≤ k1) ∧ Aside0 (Kd.R (Kd.int .i64) 3 w' w.heap.size (fun _ => True) v156 x5_1) ∧ Aside0 (Kd.R (Kd.int .u8) 5 w' w.heap.size (fun _ => True) v8 x8_2) ∧ Aside0 (Below w.heap.size w w'))
            case atStart => exact ⟨(([] : List Int)), (0), (0), (by first | rfl | (simp; done) | (simp [*]; done) | (simp [*, Fig.bne_nil]; done)), (by first | rfl | (simp; done) | (simp [*]; done) | (simp [*, Fig.bne_nil]; done)), H', ⟨Nat.le_refl _⟩, ⟨by (with_reducible repeat (first | apply Kd.R_alloc | apply Kd.R_drewN | apply Kd.R_drew)); exact HO_5.out⟩, ⟨by first | exact Kd.R_nil _ _ _ _ _ | exact Kd.N_nil _ _ _ _ _ | exact Kd.V_nil _ _ _ _ _ | exact Kd.Q_nil _ _ _ _ _ | exact Kd.S_nil _ _ _ _ _⟩, ⟨by repeat (first | (with_reducible first | exact HB.out | apply below_alloc | apply pw_below_drewN | apply below_drew1) | exact HB.out)⟩⟩
            case round =>
              clear H'
              try clear c1
              try clear p1
              try clear q1
              try clear hx1
              try clear c2
              try clear p2
              try clear c3
              try clear c4
              try clear c4b0
              try clear c4b1
              try clear c5
              try clear c5b0
              try clear c5b1
              try clear p6
              try clear c8
              try clear c8b0
              try clear c9
              try clear c9b0
              try clear c11
              try clear c11b0
              try clear c12
              try clear c12b0
              try clear p15
              try clear q15
              try clear hx15
              try clear hf15
              try clear hx158_0
              try clear hx15_0
              try clear p15
              try clear p158
              try clear p2
              try clear p6
              try clear q15
              try clear q158
              obtain ⟨x8_2, x9_2, x10_2, rfl, rfl, HA, HK2, HO_5, HO_8, HB⟩ := hrel
              cases gk with
              | zero => exact absurd HA.out (by simp [figureheadref01_Times.l2])
              | succ k2 =>
                have H := HA.out
                clear HA
                simp only [figureheadref01_Times.l2] at H
                by_cases c19 : x10_2 < (x5_1.length : Int)
                · rw [if_pos c19] at H
                  have c19b0 : decide (x10_2 < (x5_1.length : Int)) = true := decide_eq_true c19
                  clear c19
                  by_cases c20 : 0 ≤ x10_2
                  · rw [if_pos c20] at H
                    have c20b0 : decide (0 ≤ x10_2) = true := decide_eq_true c20
                    clear c20
                    by_cases c21 : x8_2.length < 140737488355328
                    · rw [if_pos c21] at H
                      have LMc21 := Aside0.mk c21
                      clear c21
                      obtain ⟨y163, hy163⟩ : ∃ y_ : List Int, y_ = (x8_2 ++ [(wrap64 (48 + (Int.tmod (wrap64 ((rd x5_1 x10_2) + x9_2)) 10))) % 256]) := ⟨_, rfl⟩
                      replace H : (figureheadref01_Times.l2 k2 x5_1 y163 (wrap64 (Int.tdiv (wrap64 ((rd x5_1 x10_2) + x9_2)) 10)) (wrap64 (x10_2 + 1))) = some r := by first | (rw [hy163]; with_reducible exact H) | (have H2_ := (Option.bind_some _ _).symm.trans H; rw [hy163]; with_reducible exact H2_) | (have H2_ := (Option.bind_some _ _).symm.trans H; with_reducible exact H2_) | with_reducible exact H | (rw [hy163]; exact H) | exact H
                      have Ny163 := Aside0.mk hy163
                      clear hy163
                      have H' := Aside0.mk H
                      clear H
                      obtain ⟨Ao22, co22, eo22⟩ := Kd.R_slice HO_5.out
                      subst eo22
                      have p162 : 0 ≤ (x10_2 : Int) := of_decide_eq_true (by first | (with_reducible assumption) | assumption)
                      have q162 : x10_2 < (x5_1.length : Int) := of_decide_eq_true (by first | (with_reducible assumption) | assumption)
                      obtain ⟨ad162, e162, hx162_0⟩ := Kd.at_int (Kd.R_reads' HO_5.out).2.2 x10_2 p162 q162
                      cases e162
                      replace p162 := eq_true p162
                      replace q162 := eq_true q162
                      go_wp2_with (first | ((with_reducible refine gate_builtin (b := .append) (xs := #[.tmp 62, .tmp 67]) rfl ?_); at_builtin; refine Kd.R_append (Kd.int .u8) (w0 := w) w.heap.size rfl (.tmp 62) (.tmp 67) 46 5 (.int .u8 0) 1 rfl Try.underlying46 info5 rfl (by decide) (by omega) u8 x8_2 ((wrap64 (48 + (Int.tmod (wrap64 ((rd x5_1 x10_2) + x9_2)) 10))) % 256) [.int .u8 ((wrap64 (48 + (Int.tmod (wrap64 ((rd x5_1 x10_2) + x9_2)) 10))) % 256)] (fun _ => True) (fun _ => False) rfl rfl ?aP (fun _ hk => hk.elim) ?aF ?aO ?aB ?aS ?aL ?_; (case aP => exact rfl); (case aB => exact (by repeat (first | (with_reducible first | exact HB.out | apply below_alloc | apply pw_below_drewN | apply below_drew1) | exact HB.out))); (case aF => exact (fun _ _ => trivial)); (case aO => exact (by (with_reducible repeat (first | apply Kd.R_alloc | apply Kd.R_drewN | apply Kd.R_drew)); exact HO_8.out)); (case aS => exact (below_size (by repeat (first | (with_reducible first | exact HB.out | apply below_alloc | apply pw_below_drewN | apply below_drew1) | exact HB.out)))); (case aL => have := LMc21.out; omega); intro v164 w23 ho hb hg hat; rw [← Ny163.out] at ho; have n0_ := Aside0.mk (Kd.R_over' (by (with_reducible repeat (first | apply Kd.R_alloc | apply Kd.R_drewN | apply Kd.R_drew)); exact HO_5.out) (Kd.R_typed (by (with_reducible repeat (first | apply Kd.R_alloc | apply Kd.R_drewN | apply Kd.R_drew)); exact HO_8.out)) (by decide) hg); have n1_ := Aside0.mk (hb); have n2_ := Aside0.mk (ho); clear HO_5; clear HB; clear HO_8; have HO_5 := n0_; have HB := n1_; have HO165 := n2_; clear n0_ n1_ n2_; clear ho hb hg hat))
                      go_roundg k2
                      case measure => have := HK1.out; have := HK2.out; omega
                      case rel => exact ⟨(y163), (wrap64 (Int.tdiv (wrap64 ((rd x5_1 x10_2) + x9_2)) 10)), (wrap64 (x10_2 + 1)), (by first | rfl | (simp; done) | (simp [*]; done) | (simp [*, Fig.bne_nil]; done)), (by first | rfl | (simp; done) | (simp [*]; done) | (simp [*, Fig.bne_nil]; done)), H', ⟨by have := HK1.out; have := HK2.out; omega⟩, ⟨by (with_reducible repeat (first | apply Kd.R_alloc | apply Kd.R_drewN | apply Kd.R_drew)); exact HO_5.out⟩, ⟨by (with_reducible repeat (first | apply Kd.R_alloc | apply Kd.R_drewN | apply Kd.R_drew)); exact HO165.out⟩, ⟨by repeat (first | (with_reducible first | exact HB.out | apply below_alloc | apply pw_below_drewN | apply below_drew1) | exact HB.out)⟩⟩
                    · rw [if_neg c21] at H
                      exact absurd H (by simp)
                  · rw [if_neg c20] at H
                    exact absurd H (by simp)
                · rw [if_neg c19] at H
                  have c19b0 : decide (x10_2 < (x5_1.length : Int)) = false := decide_eq_false c19
                  clear c19
                  replace H := Option.bind_eq_some_iff.mp H
                  obtain ⟨t166, A240, H⟩ := H
                  replace H : ((figureheadref01_Strip.f k2 t166).bind fun t167 => (some t167)) = some r := H
                  have A24 := Aside0.mk A240
                  clear A240
                  replace H := Option.bind_eq_some_iff.mp H
                  obtain ⟨t167, A250, H⟩ := H
                  replace H : (some t167) = some r := H
                  have A25 := Aside0.mk A250
                  clear A250
                  obtain rfl := Option.some.inj H
                  obtain ⟨Ao26, co26, eo26⟩ := Kd.R_slice HO_5.out
                  subst eo26
                  obtain ⟨Ao27, co27, eo27⟩ := Kd.R_slice HO_8.out
                  subst eo27
                  go_wp2_with (first | ((with_reducible refine gate_callee (f := 37) rfl ?_); refine goesL_ (some 72) rfl rfl Try.func37 (by kernel_rfl) rfl #[.slice Ao27 x8_2.length co27] rfl (by (try simp only [List.map_toArray, List.map_cons, List.map_nil]); first | done | rfl | (simp only [List.length_drop, List.length_take]; rfl)) ?_; (with_reducible refine (figureheadref01_turned.calls k2 _ _ x8_2 t166 _ ?side1 ?side2 A24.out).mono ?_); (case side1 => repeat (first | exact (Kd.R_reads' HO_8.out).2.2 | (with_reducible refine Kd.C_alloc ?_ _) | (with_reducible refine Kd.C_drewN ?_ _) | (with_reducible refine Kd.C_drew ?_))); (case side2 => exact (Kd.R_reads' HO_8.out).2.1); rintro e w28 ⟨rfl, hb⟩; refine ⟨_, rfl, ?_⟩; have n0_ := Aside0.mk (Kd.R_below (by (with_reducible repeat (first | apply Kd.R_alloc | apply Kd.R_drewN | apply Kd.R_drew)); exact HO_5.out) hb); have n1_ := Aside0.mk (Kd.R_below (by (with_reducible repeat (first | apply Kd.R_alloc | apply Kd.R_drewN | apply Kd.R_drew)); exact HO_8.out) hb); have n2_ := Aside0.mk (below_step (by repeat (first | (with_reducible first | exact HB.out | apply below_alloc | apply pw_below_drewN | apply below_drew1) | exact HB.out)) hb); clear HO_5; clear HO_8; clear HB; have HO_5 := n0_; have HO_8 := n1_; have HB := n2_; clear n0_ n1_ n2_; (try clear hb); (try clear hb2); (try clear hk); (try clear hi)) | ((with_reducible refine gate_callee (f := 35) rfl ?_); refine goesL_ (some 73) rfl rfl Try.func35 (by kernel_rfl) rfl #[.string t166] rfl (by (try simp only [List.map_toArray, List.map_cons, List.map_nil]); first | done | rfl | (simp only [List.length_drop, List.length_take]; rfl)) ?_; (with_reducible refine (figureheadref01_Strip.calls k2 t166 t167 _ A25.out).mono ?_); rintro e w' ⟨rfl, ⟨nd, rfl⟩⟩; refine ⟨_, rfl, ?_⟩))
                  go_ret
                  exact ⟨by first | rfl | (simp [errW_none, errW_some] <;> rfl) | (simp only [← hji3]; first | rfl | (simp [errW_none, errW_some] <;> rfl)) | (simp [*, errW_none, errW_some] <;> rfl), by repeat (first | (with_reducible first | exact HB.out | apply below_alloc | apply pw_below_drewN | apply below_drew1) | exact HB.out)⟩
    · rw [if_neg c5] at H
      exact absurd H (by simp)
  · rw [if_neg c4] at H
    exact absurd H (by simp)

end Go.Proofs.Ytkhmdpplpecgcaa.Px

namespace Go.Proofs.Ytkhmdpplpecgcaa.Px
open Fig Go.RowKit Go.Proofs.YtkhmdpplpecgcaaW.PrintWords Go.Proofs.YtkhmdpplpecgcaaW.PrintLast Go.Proofs.YtkhmdpplpecgcaaW.PrintMore
attribute [local go_sem] max2_int min2_int max_two min_two max_three min_three max_four min_four   -- for this text's walks alone

/-! ### figureheadref01_Plus: function 22 -/
mutual
def figureheadref01_Plus.l0 : Nat → ByteArray → ByteArray → List Int → Int → Int → Option (ByteArray)
  | 0, _, _, _, _, _ => none
  | k + 1, x0, x1, x5, x6, x7 => if x7 < (x0.size : Int) then (figureheadref01_Plus.j1 k x0 x1 x5 x6 x7 true) else (if x7 < (x1.size : Int) then (figureheadref01_Plus.j1 k x0 x1 x5 x6 x7 true) else (figureheadref01_Plus.j1 k x0 x1 x5 x6 x7 (decide (x6 > 0))))
def figureheadref01_Plus.j1 : Nat → ByteArray → ByteArray → List Int → Int → Int → Bool → Option (ByteArray)
  | 0, _, _, _, _, _, _ => none
  | k + 1, x0, x1, x5, x6, x7, x22 => if x22 = true then ((figureheadref01_digit.f x0 x7).bind fun t189 => ((figureheadref01_digit.f x1 x7).bind fun t190 => (if x5.length < 140737488355328 then (figureheadref01_Plus.l0 k x0 x1 (x5 ++ [(wrap64 (48 + (Int.tmod (wrap64 ((wrap64 (t189 + t190)) + x6)) 10))) % 256]) (wrap64 (Int.tdiv (wrap64 ((wrap64 (t189 + t190)) + x6)) 10)) (wrap64 (x7 + 1))) else (none)))) else ((figureheadref01_turned.f k x5).bind fun t194 => ((figureheadref01_Strip.f k t194).bind fun t195 => (some t195)))
end
def figureheadref01_Plus.f (k : Nat) (a0 : ByteArray) (a1 : ByteArray) : Option (ByteArray) := figureheadref01_Plus.l0 k a0 a1 ([] : List Int) 0 0
theorem figureheadref01_Plus.mono_l : ∀ k, (∀ y0 y1 y2 y3 y4, LeO (figureheadref01_Plus.l0 k y0 y1 y2 y3 y4) (figureheadref01_Plus.l0 (k + 1) y0 y1 y2 y3 y4)) ∧ (∀ y0 y1 y2 y3 y4 y5, LeO (figureheadref01_Plus.j1 k y0 y1 y2 y3 y4 y5) (figureheadref01_Plus.j1 (k + 1) y0 y1 y2 y3 y4 y5))
  | 0 => ⟨fun _ _ _ _ _ r h => by simp [figureheadref01_Plus.l0] at h, fun _ _ _ _ _ _ r h => by simp [figureheadref01_Plus.j1] at h⟩
  | k + 1 => by
    obtain ⟨ih0, ih1⟩ := figureheadref01_Plus.mono_l k
    refine ⟨?_, ?_⟩
    · intro y0 y1 y2 y3 y4
      unfold figureheadref01_Plus.l0
      repeat' first
      | (with_reducible exact ih0 _ _ _ _ _)
      | (with_reducible exact ih1 _ _ _ _ _ _)
      | (with_reducible exact figureheadref01_Strip.mono _ _)
      | (with_reducible exact figureheadref01_turned.mono _ _)
      | (with_reducible exact LeO.refl _)
      | (with_reducible exact LeO.none _)
      | (with_reducible refine LeO.ite ?_ ?_)
      | (with_reducible refine LeO.bind ?_ (fun _ => ?_))
      | exact ih0 _ _ _ _ _
      | exact ih1 _ _ _ _ _ _
      | exact figureheadref01_Strip.mono _ _
      | exact figureheadref01_turned.mono _ _
      | exact LeO.none _
      | refine LeO.ite ?_ ?_
      | refine LeO.bind ?_ (fun _ => ?_)
    · intro y0 y1 y2 y3 y4 y5
      unfold figureheadref01_Plus.j1
      repeat' first
      | (with_reducible exact ih0 _ _ _ _ _)
      | (with_reducible exact ih1 _ _ _ _ _ _)
      | (with_reducible exact figureheadref01_Strip.mono _ _)
      | (with_reducible exact figureheadref01_turned.mono _ _)
      | (with_reducible exact LeO.refl _)
      | (with_reducible exact LeO.none _)
      | (with_reducible refine LeO.ite ?_ ?_)
      | (with_reducible refine LeO.bind ?_ (fun _ => ?_))
      | exact ih0 _ _ _ _ _
      | exact ih1 _ _ _ _ _ _
      | exact figureheadref01_Strip.mono _ _
      | exact figureheadref01_turned.mono _ _
      | exact LeO.none _
      | refine LeO.ite ?_ ?_
      | refine LeO.bind ?_ (fun _ => ?_)
theorem figureheadref01_Plus.mono : ∀ a0 a1 k, LeO (figureheadref01_Plus.f k a0 a1) (figureheadref01_Plus.f (k + 1) a0 a1) := by
  intro a0 a1 k
  obtain ⟨ih0, ih1⟩ := figureheadref01_Plus.mono_l k
  unfold figureheadref01_Plus.f
  repeat' first
      | (with_reducible exact ih0 _ _ _ _ _)
      | (with_reducible exact ih1 _ _ _ _ _ _)
      | (with_reducible exact figureheadref01_Strip.mono _ _)
      | (with_reducible exact figureheadref01_turned.mono _ _)
      | (with_reducible exact LeO.refl _)
      | (with_reducible exact LeO.none _)
      | (with_reducible refine LeO.ite ?_ ?_)
      | (with_reducible refine LeO.bind ?_ (fun _ => ?_))
      | exact ih0 _ _ _ _ _
      | exact ih1 _ _ _ _ _ _
      | exact figureheadref01_Strip.mono _ _
      | exact figureheadref01_turned.mono _ _
      | exact LeO.none _
      | refine LeO.ite ?_ ?_
      | refine LeO.bind ?_ (fun _ => ?_)
set_option maxHeartbeats 8000000 in
set_option maxRecDepth 100000 in
theorem figureheadref01_Plus.calls (k : Nat) (a0 : ByteArray) (a1 : ByteArray) (r : ByteArray) (w : World) (h : figureheadref01_Plus.f k a0 a1 = some r) :
    Calls Try.prog 22 #[.string a0, .string a1] w fun e w' => e = .returned (.string r) ∧ Below w.heap.size w w' := by
  have HB := Aside0.mk (Below.refl w.heap.size w)
  have H : (figureheadref01_Plus.l0 k a0 a1 ([] : List Int) 0 0) = some r := h
  clear h
  have H' := Aside0.mk H
  clear H
  go_enter Try.func22, Try.ntmps22
  go_wp2
  go_loopg [5, 6, 7] k (fun kq v5 v6 v7 w' => ∃ (x5_1 : List Int) (x6_1 : Int) (x7_1 : Int), v6 = .int .i64 x6_1 ∧ v7 = .int .i64 x7_1 ∧ Aside0 (figureheadref01_Plus.l0 kq a0 a1 x5_1 x6_1 x7_1 = some r) ∧ Aside0 (kq ≤ k) ∧ Aside0 (Kd.R (Kd.int .u8) 5 w' w.heap.size (fun _ => True) v5 x5_1) ∧ Aside0 (Below w.heap.size w w'))
  case atStart => exact ⟨(([] : List Int)), (0), (0), (by first | rfl | (simp; done) | (simp [*]; done) | (simp [*, Fig.bne_nil]; done)), (by first | rfl | (simp; done) | (simp [*]; done) | (simp [*, Fig.bne_nil]; done)), H', ⟨Nat.le_refl _⟩, ⟨by first | exact Kd.R_nil _ _ _ _ _ | exact Kd.N_nil _ _ _ _ _ | exact Kd.V_nil _ _ _ _ _ | exact Kd.Q_nil _ _ _ _ _ | exact Kd.S_nil _ _ _ _ _⟩, ⟨by repeat (first | (with_reducible first | exact HB.out | apply below_alloc | apply pw_below_drewN | apply below_drew1) | exact HB.out)⟩⟩
  case round =>
    clear H'
    try clear c2
    try clear p2
    obtain ⟨x5_1, x6_1, x7_1, rfl, rfl, HA, HK1, HO_5, HB⟩ := hrel
    cases gk with
    | zero => exact absurd HA.out (by simp [figureheadref01_Plus.l0])
    | succ k1 =>
      have H := HA.out
      clear HA
      simp only [figureheadref01_Plus.l0] at H
      have HC3 := Aside0.mk H
      clear H
      go_upto_region 4 with (fail)
      go_cut [22] (fun v22 wc => ∃ (kq : Nat) (x22_2 : Bool), v22 = .bool x22_2 ∧ Aside0 (figureheadref01_Plus.j1 kq a0 a1 x5_1 x6_1 x7_1 x22_2 = some r) ∧ Aside0 (kq ≤ k1) ∧ Aside0 (Kd.R (Kd.int .u8) 5 wc w.heap.size (fun _ => True) u5 x5_1) ∧ Aside0 (Below w.heap.size w wc))
      case first =>
        have H := HC3.out
        clear HC3
        by_cases c4 : x7_1 < (a0.size : Int)
        · rw [if_pos c4] at H
          have c4b0 : decide (x7_1 < (a0.size : Int)) = true := decide_eq_true c4
          clear c4
          (first | rw [c4b0] | (simp only [i64_w, i32_w]; rw [c4b0]) | skip)
          have H' := Aside0.mk H
          clear H
          go_wp2
          go_meet
          case rel => exact ⟨_, (true), (by first | rfl | (simp; done) | (simp [*]; done) | (simp [*, Fig.bne_nil]; done)), H', ⟨by have := HK1.out; first | omega | exact Nat.le_refl _⟩, ⟨by (with_reducible repeat (first | apply Kd.R_alloc | apply Kd.R_drewN | apply Kd.R_drew)); exact HO_5.out⟩, ⟨by repeat (first | (with_reducible first | exact HB.out | apply below_alloc | apply pw_below_drewN | apply below_drew1) | exact HB.out)⟩⟩
        · rw [if_neg c4] at H
          have c4b0 : decide (x7_1 < (a0.size : Int)) = false := decide_eq_false c4
          clear c4
          (first | rw [c4b0] | (simp only [i64_w, i32_w]; rw [c4b0]) | skip)
          by_cases c5 : x7_1 < (a1.size : Int)
          · rw [if_pos c5] at H
            have c5b0 : decide (x7_1 < (a1.size : Int)) = true := decide_eq_true c5
            clear c5
            have H' := Aside0.mk H
            clear H
            go_wp2
            go_meet
            case rel => exact ⟨_, (true), (by first | rfl | (simp; done) | (simp [*]; done) | (simp [*, Fig.bne_nil]; done)), H', ⟨by have := HK1.out; first | omega | exact Nat.le_refl _⟩, ⟨by (with_reducible repeat (first | apply Kd.R_alloc | apply Kd.R_drewN | apply Kd.R_drew)); exact HO_5.out⟩, ⟨by repeat (first | (with_reducible first | exact HB.out | apply below_alloc | apply pw_below_drewN | apply below_drew1) | exact HB.out)⟩⟩
          · rw [if_neg c5] at H
            have c5b0 : decide (x7_1 < (a1.size : Int)) = false := decide_eq_false c5
            clear c5
            have H' := Aside0.mk H
            clear H
            go_wp2
            go_meet
            case rel => exact ⟨_, (decide (x6_1 > 0)), (by first | rfl | (simp; done) | (simp [*]; done) | (simp [*, Fig.bne_nil]; done)), H', ⟨by have := HK1.out; first | omega | exact Nat.le_refl _⟩, ⟨by (with_reducible repeat (first | apply Kd.R_alloc | apply Kd.R_drewN | apply Kd.R_drew)); exact HO_5.out⟩, ⟨by repeat (first | (with_reducible first | exact HB.out | apply below_alloc | apply pw_below_drewN | apply below_drew1) | exact HB.out)⟩⟩
      case rest =>
        clear HC3
        try clear c2
        try clear p2
        try clear c4
        try clear c4b0
        try clear c5
        try clear c5b0
        try clear p2
        obtain ⟨kq, x22_2, rfl, HA, HJ2, HO_5, HB⟩ := hcut
        cases kq with
        | zero => exact absurd HA.out (by simp [figureheadref01_Plus.j1])
        | succ kj2 =>
          have H := HA.out
          clear HA
          simp only [figureheadref01_Plus.j1] at H
          by_cases c6 : x22_2 = true
          · subst c6
            have H1 : ((figureheadref01_digit.f a0 x7_1).bind fun t189 => ((figureheadref01_digit.f a1 x7_1).bind fun t190 => (if x5_1.length < 140737488355328 then (figureheadref01_Plus.l0 kj2 a0 a1 (x5_1 ++ [(wrap64 (48 + (Int.tmod (wrap64 ((wrap64 (t189 + t190)) + x6_1)) 10))) % 256]) (wrap64 (Int.tdiv (wrap64 ((wrap64 (t189 + t190)) + x6_1)) 10)) (wrap64 (x7_1 + 1))) else (none)))) = some r := by rw [if_pos rfl] at H; exact H
            clear H
            have H := H1
            clear H1
            replace H := Option.bind_eq_some_iff.mp H
            obtain ⟨t189, A70, H⟩ := H
            replace H : ((figureheadref01_digit.f a1 x7_1).bind fun t190 => (if x5_1.length < 140737488355328 then (figureheadref01_Plus.l0 kj2 a0 a1 (x5_1 ++ [(wrap64 (48 + (Int.tmod (wrap64 ((wrap64 (t189 + t190)) + x6_1)) 10))) % 256]) (wrap64 (Int.tdiv (wrap64 ((wrap64 (t189 + t190)) + x6_1)) 10)) (wrap64 (x7_1 + 1))) else (none))) = some r := H
            have A7 := Aside0.mk A70
            clear A70
            replace H := Option.bind_eq_some_iff.mp H
            obtain ⟨t190, A80, H⟩ := H
            replace H : (if x5_1.length < 140737488355328 then (figureheadref01_Plus.l0 kj2 a0 a1 (x5_1 ++ [(wrap64 (48 + (Int.tmod (wrap64 ((wrap64 (t189 + t190)) + x6_1)) 10))) % 256]) (wrap64 (Int.tdiv (wrap64 ((wrap64 (t189 + t190)) + x6_1)) 10)) (wrap64 (x7_1 + 1))) else (none)) = some r := H
            have A8 := Aside0.mk A80
            clear A80
            by_cases c9 : x5_1.length < 140737488355328
            · rw [if_pos c9] at H
              have LMc9 := Aside0.mk c9
              clear c9
              obtain ⟨y191, hy191⟩ : ∃ y_ : List Int, y_ = (x5_1 ++ [(wrap64 (48 + (Int.tmod (wrap64 ((wrap64 (t189 + t190)) + x6_1)) 10))) % 256]) := ⟨_, rfl⟩
              replace H : (figureheadref01_Plus.l0 kj2 a0 a1 y191 (wrap64 (Int.tdiv (wrap64 ((wrap64 (t189 + t190)) + x6_1)) 10)) (wrap64 (x7_1 + 1))) = some r := by first | (rw [hy191]; with_reducible exact H) | (have H2_ := (Option.bind_some _ _).symm.trans H; rw [hy191]; with_reducible exact H2_) | (have H2_ := (Option.bind_some _ _).symm.trans H; with_reducible exact H2_) | with_reducible exact H | (rw [hy191]; exact H) | exact H
              have Ny191 := Aside0.mk hy191
              clear hy191
              have H' := Aside0.mk H
              clear H
              go_wp2_with (first | ((with_reducible refine gate_callee (f := 36) rfl ?_); refine goesL_ (some 27) rfl rfl Try.func36 (by kernel_rfl) rfl #[.string a0, .int .i64 x7_1] rfl (by (try simp only [List.map_toArray, List.map_cons, List.map_nil]); first | done | rfl | (simp only [List.length_drop, List.length_take]; rfl)) ?_; (with_reducible refine (figureheadref01_digit.calls a0 x7_1 t189 _ A7.out).mono ?_); rintro e w' ⟨rfl, ⟨nd, rfl⟩⟩; refine ⟨_, rfl, ?_⟩) | ((with_reducible refine gate_callee (f := 36) rfl ?_); refine goesL_ (some 30) rfl rfl Try.func36 (by kernel_rfl) rfl #[.string a1, .int .i64 x7_1] rfl (by (try simp only [List.map_toArray, List.map_cons, List.map_nil]); first | done | rfl | (simp only [List.length_drop, List.length_take]; rfl)) ?_; (with_reducible refine (figureheadref01_digit.calls a1 x7_1 t190 _ A8.out).mono ?_); rintro e w' ⟨rfl, ⟨nd, rfl⟩⟩; refine ⟨_, rfl, ?_⟩) | ((with_reducible refine gate_builtin (b := .append) (xs := #[.tmp 34, .tmp 39]) rfl ?_); (try (refine gate_guard (by rfl) ?_; dsimp only)); at_builtin; refine Kd.R_append (Kd.int .u8) (w0 := w) w.heap.size rfl (.tmp 34) (.tmp 39) 46 5 (.int .u8 0) 1 rfl Try.underlying46 info5 rfl (by decide) (by omega) u5 x5_1 ((wrap64 (48 + (Int.tmod (wrap64 ((wrap64 (t189 + t190)) + x6_1)) 10))) % 256) [.int .u8 ((wrap64 (48 + (Int.tmod (wrap64 ((wrap64 (t189 + t190)) + x6_1)) 10))) % 256)] (fun _ => True) (fun _ => False) rfl rfl ?aP (fun _ hk => hk.elim) ?aF ?aO ?aB ?aS ?aL ?_; (case aP => exact rfl); (case aB => exact (by repeat (first | (with_reducible first | exact HB.out | apply below_alloc | apply pw_below_drewN | apply below_drew1) | exact HB.out))); (case aF => exact (fun _ _ => trivial)); (case aO => exact (by (with_reducible repeat (first | apply Kd.R_alloc | apply Kd.R_drewN | apply Kd.R_drew)); exact HO_5.out)); (case aS => exact (below_size (by repeat (first | (with_reducible first | exact HB.out | apply below_alloc | apply pw_below_drewN | apply below_drew1) | exact HB.out)))); (case aL => have := LMc9.out; omega); intro v192 w10 ho hb hg hat; rw [← Ny191.out] at ho; have n0_ := Aside0.mk (hb); have n1_ := Aside0.mk (ho); clear HB; clear HO_5; have HB := n0_; have HO193 := n1_; clear n0_ n1_; clear ho hb hg hat))
              go_roundg kj2
              case measure => have := HK1.out; have := HJ2.out; omega
              case rel => exact ⟨(y191), (wrap64 (Int.tdiv (wrap64 ((wrap64 (t189 + t190)) + x6_1)) 10)), (wrap64 (x7_1 + 1)), (by first | rfl | (simp; done) | (simp [*]; done) | (simp [*, Fig.bne_nil]; done)), (by first | rfl | (simp; done) | (simp [*]; done) | (simp [*, Fig.bne_nil]; done)), H', ⟨by have := HK1.out; have := HJ2.out; omega⟩, ⟨by (with_reducible repeat (first | apply Kd.R_alloc | apply Kd.R_drewN | apply Kd.R_drew)); exact HO193.out⟩, ⟨by repeat (first | (with_reducible first | exact HB.out | apply below_alloc | apply pw_below_drewN | apply below_drew1) | exact HB.out)⟩⟩
            · rw [if_neg c9] at H
              exact absurd H (by simp)
          · replace c6 := Bool.eq_false_iff.mpr c6
            subst c6
            have H1 : ((figureheadref01_turned.f kj2 x5_1).bind fun t194 => ((figureheadref01_Strip.f kj2 t194).bind fun t195 => (some t195))) = some r := by rw [if_neg (show ¬ (false = true) by decide)] at H; exact H
            clear H
            have H := H1
            clear H1
            replace H := Option.bind_eq_some_iff.mp H
            obtain ⟨t194, A110, H⟩ := H
            replace H : ((figureheadref01_Strip.f kj2 t194).bind fun t195 => (some t195)) = some r := H
            have A11 := Aside0.mk A110
            clear A110
            replace H := Option.bind_eq_some_iff.mp H
            obtain ⟨t195, A120, H⟩ := H
            replace H : (some t195) = some r := H
            have A12 := Aside0.mk A120
            clear A120
            obtain rfl := Option.some.inj H
            obtain ⟨Ao13, co13, eo13⟩ := Kd.R_slice HO_5.out
            subst eo13
            go_wp2_with (first | ((with_reducible refine gate_callee (f := 37) rfl ?_); refine goesL_ (some 44) rfl rfl Try.func37 (by kernel_rfl) rfl #[.slice Ao13 x5_1.length co13] rfl (by (try simp only [List.map_toArray, List.map_cons, List.map_nil]); first | done | rfl | (simp only [List.length_drop, List.length_take]; rfl)) ?_; (with_reducible refine (figureheadref01_turned.calls kj2 _ _ x5_1 t194 _ ?side1 ?side2 A11.out).mono ?_); (case side1 => repeat (first | exact (Kd.R_reads' HO_5.out).2.2 | (with_reducible refine Kd.C_alloc ?_ _) | (with_reducible refine Kd.C_drewN ?_ _) | (with_reducible refine Kd.C_drew ?_))); (case side2 => exact (Kd.R_reads' HO_5.out).2.1); rintro e w14 ⟨rfl, hb⟩; refine ⟨_, rfl, ?_⟩; have n0_ := Aside0.mk (Kd.R_below (by (with_reducible repeat (first | apply Kd.R_alloc | apply Kd.R_drewN | apply Kd.R_drew)); exact HO_5.out) hb); have n1_ := Aside0.mk (below_step (by repeat (first | (with_reducible first | exact HB.out | apply below_alloc | apply pw_below_drewN | apply below_drew1) | exact HB.out)) hb); clear HO_5; clear HB; have HO_5 := n0_; have HB := n1_; clear n0_ n1_; (try clear hb); (try clear hb2); (try clear hk); (try clear hi)) | ((with_reducible refine gate_callee (f := 35) rfl ?_); refine goesL_ (some 45) rfl rfl Try.func35 (by kernel_rfl) rfl #[.string t194] rfl (by (try simp only [List.map_toArray, List.map_cons, List.map_nil]); first | done | rfl | (simp only [List.length_drop, List.length_take]; rfl)) ?_; (with_reducible refine (figureheadref01_Strip.calls kj2 t194 t195 _ A12.out).mono ?_); rintro e w' ⟨rfl, ⟨nd, rfl⟩⟩; refine ⟨_, rfl, ?_⟩))
            go_ret
            exact ⟨by first | rfl | (simp [errW_none, errW_some] <;> rfl) | (simp [*, errW_none, errW_some] <;> rfl), by repeat (first | (with_reducible first | exact HB.out | apply below_alloc | apply pw_below_drewN | apply below_drew1) | exact HB.out)⟩

end Go.Proofs.Ytkhmdpplpecgcaa.Px

namespace Go.Proofs.Ytkhmdpplpecgcaa.Px
open Fig Go.RowKit Go.Proofs.YtkhmdpplpecgcaaW.PrintWords Go.Proofs.YtkhmdpplpecgcaaW.PrintLast Go.Proofs.YtkhmdpplpecgcaaW.PrintMore
attribute [local go_sem] max2_int min2_int max_two min_two max_three min_three max_four min_four   -- for this text's walks alone

/-! plain facts: figureheadref01_Plus -/
theorem dg_zero {s : ByteArray} {k : Nat} (h : s.size ≤ k) : dg s k = 0 := by unfold dg; rw [List.getElem?_eq_none (by rw [rs_len]; omega)]
theorem add_step (p q c : Nat) (hp : p ≤ 9) (hq : q ≤ 9) (hc : c ≤ 1) : wrap64 (wrap64 ((p : Int) + (q : Int)) + (c : Int)) = ((p + q + c : Nat) : Int) := by
  rw [w64 (x := (p : Int) + (q : Int)) (by omega) (by omega), w64 (by omega) (by omega)]; omega
theorem code_mod (n : Nat) (h : n ≤ 1000000000000000000) : (wrap64 (48 + Int.tmod (n : Int) 10)) % 256 = ((48 + n % 10 : Nat) : Int) := by
  rw [Int.tmod_eq_emod_of_nonneg (by omega), w64 (by omega) (by omega)]; omega
theorem code_div (n : Nat) (h : n ≤ 1000000000000000000) : wrap64 (Int.tdiv (n : Int) 10) = ((n / 10 : Nat) : Int) := by
  rw [Int.tdiv_eq_ediv_of_nonneg (by omega), w64 (by omega) (by omega)]; omega
theorem plus_sum (p q c X Y : Nat) : c + (p + 10 * X) + (q + 10 * Y) = (p + q + c) % 10 + 10 * ((p + q + c) / 10 + X + Y) := by omega
theorem Plus_loop (a b : ByteArray) (ha : dB a = true) (hb : dB b = true) (m : Nat) (la : a.size ≤ m) (lb : b.size ≤ m) (hm : m ≤ 100000000000) : ∀ (d k : Nat) (x : List Int) (c : Nat), m + 1 - k = d → k ≤ m + 1 → (k = m + 1 → c = 0) → c ≤ 1 → x.length = k → digL (ob x) = true →
    Ev (fun j => figureheadref01_Plus.l0 j a b x (c : Int) (k : Int)) (digB (rv (ob x) + 10 ^ k * (c + rv ((rs a).drop k) + rv ((rs b).drop k)))) := by
  intro d
  induction d with
  | zero =>
    intro k x c h1 h2 h3 hc hx hd
    obtain rfl := h3 (by omega)
    refine evIs (Ev.step (f := fun j => (figureheadref01_Plus.j1 j a b x ((0 : Nat) : Int) (k : Int) false)) (fun j => ?_) (Ev.step (fun j => ?_) (turnedStrip_ev (by omega) hd))) ?_
    · simp only [figureheadref01_Plus.l0]; rw [if_neg (by omega), if_neg (by omega), show decide (((0 : Nat) : Int) > 0) = false from rfl]
    · simp only [figureheadref01_Plus.j1]; rw [if_neg (by simp)]
    · rw [rv_rest_end (by omega), rv_rest_end (by omega)]; simp
  | succ d ih =>
    intro k x c h1 h2 h3 hc hx hd
    by_cases hgo : k < a.size ∨ k < b.size ∨ 0 < c
    · have da := dg_le ha k
      have db := dg_le hb k
      have hj : ∀ j, figureheadref01_Plus.l0 (j + 1) a b x (c : Int) (k : Int) = figureheadref01_Plus.j1 j a b x (c : Int) (k : Int) true := by
        intro j
        simp only [figureheadref01_Plus.l0]
        by_cases g1 : k < a.size
        · rw [if_pos (by omega)]
        · rw [if_neg (by omega)]
          by_cases g2 : k < b.size
          · rw [if_pos (by omega)]
          · rw [if_neg (by omega), show decide ((c : Int) > 0) = true by rw [decide_eq_true_eq]; omega]
      have h10 : k = m → dg a k = 0 ∧ dg b k = 0 := fun e => ⟨dg_zero (by omega), dg_zero (by omega)⟩
      have hn0 : k = m → (dg a k + dg b k + c) / 10 = 0 := fun e => by have := h10 e; omega
      have hn1 : (dg a k + dg b k + c) / 10 ≤ 1 := by omega
      obtain ⟨o1, o2⟩ := ob_snoc x (c := (dg a k + dg b k + c) % 10) (by omega) hd
      refine Ev.step hj (Ev.step (f := fun j => figureheadref01_Plus.l0 j a b (x ++ [((48 + (dg a k + dg b k + c) % 10 : Nat) : Int)]) (((dg a k + dg b k + c) / 10 : Nat) : Int) ((k + 1 : Nat) : Int)) (fun j => ?_) ?_)
      · simp only [figureheadref01_Plus.j1, if_true]
        rw [digit_eq ha (by omega) (by omega), digit_eq hb (by omega) (by omega)]
        simp only [Option.bind_some]
        rw [if_pos (by omega), add_step _ _ _ da db hc, code_mod _ (by omega), code_div _ (by omega), w64 (by omega) (by omega)]; rfl
      · refine evIs (ih (k + 1) _ _ (by omega) (by omega) (fun e => hn0 (by omega)) hn1 (by simp [hx]) o1) ?_
        rw [o2, rv_rest a k, rv_rest b k, hx, Nat.pow_succ, plus_sum, Nat.mul_add (10 ^ k) ((dg a k + dg b k + c) % 10), ← Nat.mul_assoc, Nat.add_assoc]
    · have hc0 : c = 0 := by omega
      subst hc0
      refine evIs (Ev.step (f := fun j => (figureheadref01_Plus.j1 j a b x ((0 : Nat) : Int) (k : Int) false)) (fun j => ?_) (Ev.step (fun j => ?_) (turnedStrip_ev (by omega) hd))) ?_
      · simp only [figureheadref01_Plus.l0]; rw [if_neg (by omega), if_neg (by omega), show decide (((0 : Nat) : Int) > 0) = false from rfl]
      · simp only [figureheadref01_Plus.j1]; rw [if_neg (by simp)]
      · rw [rv_rest_end (by omega), rv_rest_end (by omega)]; simp
theorem Plus_ev {a b : ByteArray} (ha : dB a = true) (hb : dB b = true) (la : a.size ≤ 100000000000) (lb : b.size ≤ 100000000000) : Ev (fun k => figureheadref01_Plus.f k a b) (digB (vB a + vB b)) := by
  refine evIs (Plus_loop a b ha hb (max a.size b.size) (by omega) (by omega) (by omega) _ 0 [] 0 rfl (by omega) (by omega) (by omega) rfl rfl) ?_
  simp [ob, rv, vB, rs]

end Go.Proofs.Ytkhmdpplpecgcaa.Px

namespace Go.Proofs.Ytkhmdpplpecgcaa.Px
open Fig Go.RowKit Go.Proofs.YtkhmdpplpecgcaaW.PrintWords Go.Proofs.YtkhmdpplpecgcaaW.PrintLast Go.Proofs.YtkhmdpplpecgcaaW.PrintMore
attribute [local go_sem] max2_int min2_int max_two min_two max_three min_three max_four min_four   -- for this text's walks alone

/-! plain facts: figureheadref01_Times -/
/-- what a row of sums says -/
def va : List Int → Nat
  | [] => 0
  | x :: l => x.toNat + 10 * va l
theorem va_drop {l : List Int} {k : Nat} (h : k < l.length) : va (l.drop k) = l[k].toNat + 10 * va (l.drop (k + 1)) := by
  rw [List.drop_eq_getElem_cons h]; rfl
theorem va_set : ∀ (l : List Int) (m : Nat) (h : m < l.length) (t : Nat), 0 ≤ l[m] → va (l.set m (l[m] + (t : Int))) = va l + 10 ^ m * t
  | x :: l, 0, h, t, h0 => by
    simp only [List.set_cons_zero, va, List.getElem_cons_zero] at h0 ⊢
    rw [Nat.pow_zero]; omega
  | x :: l, m + 1, h, t, h0 => by
    simp only [List.set_cons_succ, va, List.getElem_cons_succ] at h0 ⊢
    rw [va_set l m (by simpa using h) t h0, Nat.pow_succ, Nat.mul_add, Nat.mul_comm (10 ^ m) 10, Nat.mul_assoc]; omega
theorem va_replicate (n : Nat) : va (List.replicate n 0) = 0 := by
  induction n with
  | zero => rfl
  | succ n ih => simp [List.replicate_succ, va, ih]
theorem set_bound {l : List Int} {m : Nat} {v M : Int} (h : ∀ e ∈ l, 0 ≤ e ∧ e ≤ M) {M' : Int} (hM : M ≤ M') (hv : 0 ≤ v ∧ v ≤ M') : ∀ e ∈ l.set m v, 0 ≤ e ∧ e ≤ M' := by
  intro e he
  rcases List.mem_or_eq_of_mem_set he with h1 | h1
  · have := h e h1; omega
  · subst h1; exact hv
theorem times_idx (i j : Nat) (hi : i ≤ 1000000) (hj : j ≤ 1000000) : wrap64 ((i : Int) + (j : Int)) = ((i + j : Nat) : Int) := by rw [w64 (by omega) (by omega)]; omega
theorem times_cell (e : Int) (p q : Nat) (h0 : 0 ≤ e) (h1 : e ≤ 100000000000000000) (hp : p ≤ 9) (hq : q ≤ 9) : wrap64 (e + wrap64 ((p : Int) * (q : Int))) = e + ((p * q : Nat) : Int) := by
  have : p * q ≤ 9 * 9 := Nat.mul_le_mul hp hq
  have e2 : (p : Int) * (q : Int) = ((p * q : Nat) : Int) := by simp
  rw [e2]
  generalize p * q = t at *
  rw [w64 (x := (t : Int)) (by omega) (by omega), w64 (by omega) (by omega)]
theorem Times_in (a b : ByteArray) (ha : dB a = true) (hb : dB b = true) (la : a.size ≤ 1000000) (lb : b.size ≤ 1000000) (i : Nat) (hi : i < a.size) (r : ByteArray) : ∀ (d j M : Nat) (x : List Int), b.size - j = d → j ≤ b.size → x.length = a.size + b.size + 1 → (∀ e ∈ x, 0 ≤ e ∧ e ≤ (M : Int)) → M + 81 * d ≤ 100000000000000000 →
    (∀ x', x'.length = a.size + b.size + 1 → (∀ e ∈ x', 0 ≤ e ∧ e ≤ ((M + 81 * d : Nat) : Int)) → va x' = va x + 10 ^ (i + j) * (dg a i * rv ((rs b).drop j)) → Ev (fun k => figureheadref01_Times.l0 k a b x' ((i + 1 : Nat) : Int)) r) →
    Ev (fun k => figureheadref01_Times.l1 k a b x (i : Int) (j : Int)) r
  | 0, j, M, x, h1, h2, hx, hM, hb2, h => by
    refine Ev.step (f := fun k => figureheadref01_Times.l0 k a b x ((i + 1 : Nat) : Int)) (fun k => ?_) (h x hx (fun e he => by have := hM e he; omega) (by rw [rv_rest_end (by omega)]; simp))
    simp only [figureheadref01_Times.l1]; rw [if_neg (by omega), succ64 _ (by omega)]
  | d + 1, j, M, x, h1, h2, hx, hM, hb2, h => by
    have da := dg_le ha i
    have db := dg_le hb j
    have hlt : i + j < x.length := by omega
    have hm := hM _ (List.getElem_mem hlt)
    have hpq : dg a i * dg b j ≤ 81 := Nat.mul_le_mul da db
    refine Ev.step (f := fun k => figureheadref01_Times.l1 k a b (x.set (i + j) (x[i + j] + ((dg a i * dg b j : Nat) : Int))) (i : Int) ((j + 1 : Nat) : Int)) (fun k => ?_)
      (Times_in a b ha hb la lb i hi r d (j + 1) (M + 81) _ (by omega) (by omega) (by simpa using hx) (set_bound (M' := ((M + 81 : Nat) : Int)) (v := x[i + j] + ((dg a i * dg b j : Nat) : Int)) hM (by omega) (by omega)) (by omega) (fun x' h3 h4 h5 => h x' h3 (fun e he => by have := h4 e he; omega) ?_))
    · simp only [figureheadref01_Times.l1]
      rw [if_pos (by omega), times_idx i j (by omega) (by omega), if_pos (by omega), if_pos (by omega), digit_eq ha (by omega) (by omega), digit_eq hb (by omega) (by omega)]
      simp only [Option.bind_some, Int.toNat_natCast]
      rw [rd_get hlt, times_cell _ _ _ hm.1 (by omega) da db, succ64 _ (by omega)]
    · rw [h5, va_set _ _ hlt _ hm.1, rv_rest b j, Nat.mul_add (dg a i), Nat.mul_add (10 ^ (i + j)), ← Nat.add_assoc i j 1, Nat.pow_succ, ← Nat.mul_assoc (dg a i) 10, Nat.mul_comm (dg a i) 10, Nat.mul_assoc (10 ^ (i + j)) 10, Nat.mul_assoc 10, Nat.add_assoc]
theorem Times_carry (x : List Int) (hx : ∀ e ∈ x, 0 ≤ e ∧ e ≤ 100000000000000000) (lx : x.length ≤ 3000000) : ∀ (d k : Nat) (t : List Int) (c : Nat), x.length - k = d → k ≤ x.length → t.length = k → digL (ob t) = true → c ≤ 100000000000000000 → rv (ob t) + 10 ^ k * (c + va (x.drop k)) < 10 ^ x.length →
    Ev (fun j => figureheadref01_Times.l2 j x t (c : Int) (k : Int)) (digB (rv (ob t) + 10 ^ k * (c + va (x.drop k))))
  | 0, k, t, c, h1, h2, ht, hd, hc, hlt => by
    have e : x.drop k = [] := List.drop_of_length_le (by omega)
    have hk : k = x.length := by omega
    rw [e, hk] at hlt
    simp only [va, Nat.add_zero] at hlt
    have hc0 : c = 0 := by
      rcases Nat.eq_zero_or_pos c with h | h
      · exact h
      · have := Nat.mul_le_mul_left (10 ^ x.length) h
        omega
    subst hc0
    refine evIs (Ev.step (fun j => ?_) (turnedStrip_ev (l := t) (by omega) hd)) ?_
    · simp only [figureheadref01_Times.l2]; rw [if_neg (by omega)]
    · rw [e]; simp [va]
  | d + 1, k, t, c, h1, h2, ht, hd, hc, hlt => by
    have hkx : k < x.length := by omega
    have hm := hx _ (List.getElem_mem hkx)
    obtain ⟨v, hv⟩ : ∃ v : Nat, x[k] = (v : Int) := ⟨x[k].toNat, by omega⟩
    have e := va_drop hkx
    rw [hv, Int.toNat_natCast] at e
    have hsum : wrap64 (rd x (k : Int) + (c : Int)) = ((v + c : Nat) : Int) := by rw [rd_get hkx, hv, w64 (by omega) (by omega)]; omega
    obtain ⟨o1, o2⟩ := ob_snoc t (c := (v + c) % 10) (by omega) hd
    have key : rv (ob t) + 10 ^ t.length * ((v + c) % 10) + 10 ^ (k + 1) * ((v + c) / 10 + va (x.drop (k + 1))) = rv (ob t) + 10 ^ k * (c + va (x.drop k)) := by
      rw [ht, e, Nat.pow_succ, Nat.mul_assoc, Nat.add_assoc, ← Nat.mul_add]; congr 2; omega
    have hn : (v + c) / 10 ≤ 100000000000000000 := by omega
    refine Ev.step (f := fun j => figureheadref01_Times.l2 j x (t ++ [((48 + (v + c) % 10 : Nat) : Int)]) (((v + c) / 10 : Nat) : Int) ((k + 1 : Nat) : Int)) (fun j => ?_)
      (evIs (Times_carry x hx lx d (k + 1) _ ((v + c) / 10) (by omega) (by omega) (by simp [ht]) o1 hn (by rw [o2, key]; exact hlt)) (by rw [o2, key]))
    simp only [figureheadref01_Times.l2]
    rw [if_pos (by omega), if_pos (by omega), if_pos (by omega), hsum, code_mod _ (by omega), code_div _ (by omega), succ64 _ (by omega)]
theorem Times_out (a b : ByteArray) (ha : dB a = true) (hb : dB b = true) (la : a.size ≤ 1000000) (lb : b.size ≤ 1000000) : ∀ (d i : Nat) (x : List Int), a.size - i = d → i ≤ a.size → x.length = a.size + b.size + 1 → (∀ e ∈ x, 0 ≤ e ∧ e ≤ ((81 * b.size * i : Nat) : Int)) → va x + 10 ^ i * (rv ((rs a).drop i) * vB b) < 10 ^ x.length →
    Ev (fun k => figureheadref01_Times.l0 k a b x (i : Int)) (digB (va x + 10 ^ i * (rv ((rs a).drop i) * vB b)))
  | 0, i, x, h1, h2, hx, hM, hlt => by
    have hb3 : 81 * b.size * i ≤ 81 * 1000000 * 1000000 := Nat.mul_le_mul (Nat.mul_le_mul_left _ lb) (by omega)
    have e0 : rv ((rs a).drop i) = 0 := rv_rest_end (by omega)
    rw [e0] at hlt ⊢
    have := Times_carry x (fun e he => by have := hM e he; omega) (by omega) x.length 0 [] 0 (by omega) (by omega) rfl rfl (by omega) (by simpa [ob, rv] using hlt)
    refine evIs (Ev.step (fun k => ?_) this) (by simp [ob, rv])
    simp only [figureheadref01_Times.l0]; rw [if_neg (by omega)]; rfl
  | d + 1, i, x, h1, h2, hx, hM, hlt => by
    have hb3 : 81 * b.size * (i + 1) ≤ 81 * 1000000 * 1000000 := Nat.mul_le_mul (Nat.mul_le_mul_left _ lb) (by omega)
    have hb4 : 81 * b.size * (i + 1) = 81 * b.size * i + 81 * b.size := Nat.mul_succ _ _
    have key : 10 ^ (i + 0) * (dg a i * rv ((rs b).drop 0)) + 10 ^ (i + 1) * (rv ((rs a).drop (i + 1)) * vB b) = 10 ^ i * (rv ((rs a).drop i) * vB b) := by
      rw [rv_rest a i, show rv ((rs b).drop 0) = vB b from rfl, Nat.add_zero, Nat.pow_succ, Nat.mul_assoc (10 ^ i) 10, ← Nat.mul_add, Nat.add_mul, Nat.mul_assoc 10]
    refine Ev.step (f := fun k => figureheadref01_Times.l1 k a b x (i : Int) ((0 : Nat) : Int)) (fun k => ?_)
      (Times_in a b ha hb la lb i (by omega) _ b.size 0 (81 * b.size * i) x (by omega) (by omega) hx hM (by omega) (fun x' h3 h4 h5 => evIs (Times_out a b ha hb la lb d (i + 1) x' (by omega) (by omega) h3 (fun e he => by have := h4 e he; omega) ?_) ?_))
    · simp only [figureheadref01_Times.l0]; rw [if_pos (by omega)]; rfl
    · rw [h5, Nat.add_assoc, key, h3, ← hx]; exact hlt
    · rw [h5, Nat.add_assoc, key]
theorem Times_ev {a b : ByteArray} (ha : dB a = true) (hb : dB b = true) (la : a.size ≤ 1000000) (lb : b.size ≤ 1000000) : Ev (fun k => figureheadref01_Times.f k a b) (digB (vB a * vB b)) := by
  unfold figureheadref01_Times.f
  rw [times_len _ _ la lb]
  simp only [Int.toNat_natCast]
  have c1 : (0 : Int) ≤ ((a.size + b.size + 1 : Nat) : Int) := by omega
  have c2 : a.size + b.size + 1 ≤ 35184372088832 := by omega
  simp only [c1, c2, if_true]
  refine evIs (Times_out a b ha hb la lb a.size 0 _ (by omega) (by omega) (by simp) (fun e he => by rw [List.eq_of_mem_replicate he]; omega) ?_) ?_
  · rw [va_replicate, List.length_replicate]
    have := Nat.mul_lt_mul'' (vB_lt ha) (vB_lt hb)
    rw [← Nat.pow_add] at this
    have h2 : 10 ^ (a.size + b.size) ≤ 10 ^ (a.size + b.size + 1) := Nat.pow_le_pow_right (by omega) (by omega)
    have e : rv ((rs a).drop 0) = vB a := rfl
    rw [e]; omega
  · rw [va_replicate, show rv ((rs a).drop 0) = vB a from rfl]; simp

end Go.Proofs.Ytkhmdpplpecgcaa.Px

namespace Go.Proofs.Ytkhmdpplpecgcaa.Px
open Fig Go.RowKit Go.Proofs.YtkhmdpplpecgcaaW.PrintWords Go.Proofs.YtkhmdpplpecgcaaW.PrintLast Go.Proofs.YtkhmdpplpecgcaaW.PrintMore
attribute [local go_sem] max2_int min2_int max_two min_two max_three min_three max_four min_four   -- for this text's walks alone

/-! plain facts: mul_Mul -/
theorem Mul_loop (a b : List Int) (ga : goodL a = true) (gb : goodL b = true) (la : a.length ≤ 1000000) (lb : b.length ≤ 1000000) : ∀ (d n : Nat) (x : List Int), b.length - n = d → n ≤ b.length → goodL x = true → x.length = a.length + b.length + 1 → valL x = valL a * valL (b.take n) →
    Ev (fun k => mul_Mul.l0 k a x b (b.length : Int) (n : Int)) (limbs (valL a * valL b))
  | 0, n, x, h1, h2, gx, hx, hv => by
    refine evDone (r' := limbs (valL x)) (fun k => ?_) ?_
    · simp only [mul_Mul.l0, nat_Trim.f]; rw [if_neg (by omega), trimF_eq gx (by omega)]; rfl
    · rw [hv, List.take_of_length_le (by omega)]
  | d + 1, n, x, h1, h2, gx, hx, hv => by
    have hnb : n < b.length := by omega
    have pb := goodL_iff.1 gb _ (List.getElem_mem hnb)
    obtain ⟨y, hy⟩ : ∃ v : Nat, b[n] = (v : Int) := ⟨b[n].toNat, by omega⟩
    have e : valL (b.take (n + 1)) = valL (b.take n) + 1000000000 ^ n * y := by
      rw [List.take_succ_eq_append_getElem hnb, valL_snoc, hy, Int.toNat_natCast, List.length_take, Nat.min_eq_left (by omega)]
    have key : valL x + 1000000000 ^ n * (valL a * y) = valL a * valL (b.take (n + 1)) := by
      rw [hv, e, Nat.mul_add, Nat.mul_left_comm (1000000000 ^ n)]
    have hlt : valL x + 1000000000 ^ n * (valL a * y) < 1000000000 ^ x.length := by
      rw [key, hx]
      have va := valL_lt ga
      have vb := valL_lt (goodL_take gb (n + 1))
      have h3 := Nat.mul_lt_mul'' va vb
      rw [← Nat.pow_add] at h3
      exact Nat.lt_of_lt_of_le h3 (Nat.pow_le_pow_right (by omega) (by rw [List.length_take]; omega))
    obtain ⟨r, hr, g1, g2, g3⟩ := row_ev (p := n) gx ga (show y < 1000000000 by omega) (by omega) (by omega) hlt
    refine Ev.step (f := fun k => (mul_row.f k x a (y : Int) (n : Int)).bind fun t => mul_Mul.l0 k a t b (b.length : Int) ((n + 1 : Nat) : Int)) (fun k => ?_) (Ev.bind hr (Mul_loop a b ga gb la lb d (n + 1) r (by omega) (by omega) g1 (by omega) (by rw [g3, key])))
    simp only [mul_Mul.l0]; rw [if_pos (by omega), if_pos (by omega), if_pos (by omega), rd_get hnb, hy, succ64 _ (by omega)]
theorem Mul_ev {a b : List Int} (ga : goodL a = true) (gb : goodL b = true) (la : a.length ≤ 1000000) (lb : b.length ≤ 1000000) : Ev (fun k => mul_Mul.f k a b) (limbs (valL a * valL b)) := by
  unfold mul_Mul.f
  rw [times_len _ _ la lb]
  have c1 : (0 : Int) ≤ ((a.length + b.length + 1 : Nat) : Int) := by omega
  have c2 : a.length + b.length + 1 ≤ 70368744177664 := by omega
  simp only [Int.toNat_natCast, c1, c2, if_true]
  exact Mul_loop a b ga gb la lb b.length 0 _ rfl (by omega) (goodL_replicate _) (by simp) (by rw [valL_replicate]; simp [valL])

end Go.Proofs.Ytkhmdpplpecgcaa.Px

namespace Go.Proofs.Ytkhmdpplpecgcaa.Px
open Fig Go.RowKit Go.Proofs.YtkhmdpplpecgcaaW.PrintWords Go.Proofs.YtkhmdpplpecgcaaW.PrintLast Go.Proofs.YtkhmdpplpecgcaaW.PrintMore
attribute [local go_sem] max2_int min2_int max_two min_two max_three min_three max_four min_four   -- for this text's walks alone

/-! plain facts: mul_Small -/
theorem small_len (p : Nat) (hp : p ≤ 1000000) : wrap64 ((p : Int) + 2) = ((p + 2 : Nat) : Int) := by rw [w64 (by omega) (by omega)]; omega
theorem Small_ev {a : List Int} {y m : Nat} (ga : goodL a = true) (la : a.length ≤ 1000000) (hy : y < 1000000000) (hm : m < 1000000000) : Ev (fun k => mul_Small.f k a (y : Int) (m : Int)) (limbs (valL a * y + m)) := by
  unfold mul_Small.f
  rw [small_len _ la]
  have c1 : (0 : Int) ≤ ((a.length + 2 : Nat) : Int) := by omega
  have c2 : a.length + 2 ≤ 70368744177664 := by omega
  simp only [Int.toNat_natCast, c1, c2, if_true, Option.bind_some]
  have c3 : (0 : Int) < (((List.replicate (a.length + 2) (0 : Int)).length : Nat) : Int) := by simp; omega
  simp only [c3, if_true]
  have e1 : (List.replicate (a.length + 2) (0 : Int)).set (0 : Int).toNat (m : Int) = (m : Int) :: List.replicate (a.length + 1) 0 := by rw [List.replicate_succ]; rfl
  rw [e1]
  have g1 : goodL ((m : Int) :: List.replicate (a.length + 1) 0) = true := goodL_cons.2 ⟨by omega, goodL_replicate _⟩
  have v1 : valL ((m : Int) :: List.replicate (a.length + 1) 0) = m := by simp [valL, valL_replicate]
  have l1 : ((m : Int) :: List.replicate (a.length + 1) 0).length = a.length + 2 := by simp
  have hlt : valL ((m : Int) :: List.replicate (a.length + 1) 0) + 1000000000 ^ 0 * (valL a * y) < 1000000000 ^ ((m : Int) :: List.replicate (a.length + 1) 0).length := by
    rw [v1, l1, Nat.pow_zero, Nat.one_mul]
    have va := valL_lt ga
    have h3 : valL a * y ≤ 1000000000 ^ a.length * 999999999 := Nat.mul_le_mul (by omega) (by omega)
    have h4 : 1000000000 ^ (a.length + 2) = 1000000000 ^ a.length * 1000000000 * 1000000000 := by rw [Nat.pow_succ, Nat.pow_succ]
    have h5 : 1 ≤ 1000000000 ^ a.length := Nat.one_le_pow _ _ (by omega)
    omega
  obtain ⟨r, hr, g2, g3, g4⟩ := row_ev (p := 0) g1 ga hy (by rw [l1]; omega) (by rw [l1]; omega) hlt
  refine Ev.bind hr ?_
  simp only [nat_Trim.f]
  rw [trimF_eq g2 (by rw [g3, l1]; omega)]
  refine evIs (Ev.now _) ?_
  rw [g4, v1, Nat.pow_zero, Nat.one_mul, Nat.add_comm]

end Go.Proofs.Ytkhmdpplpecgcaa.Px

namespace Go.Proofs.Ytkhmdpplpecgcaa.Px
open Fig Go.RowKit Go.Proofs.YtkhmdpplpecgcaaW.PrintWords Go.Proofs.YtkhmdpplpecgcaaW.PrintLast Go.Proofs.YtkhmdpplpecgcaaW.PrintMore
attribute [local go_sem] max2_int min2_int max_two min_two max_three min_three max_four min_four   -- for this text's walks alone

/-! plain facts: figureheadlaw02_answers -/
theorem answers02_ev : Ev (fun k => figureheadlaw02_answers.f k) true := Ev.of figureheadlaw02_answers.mono (k := 20) (by decide +kernel)

end Go.Proofs.Ytkhmdpplpecgcaa.Px

namespace Go.Proofs.Ytkhmdpplpecgcaa.Px
open Fig Go.RowKit Go.Proofs.YtkhmdpplpecgcaaW.PrintWords Go.Proofs.YtkhmdpplpecgcaaW.PrintLast Go.Proofs.YtkhmdpplpecgcaaW.PrintMore
attribute [local go_sem] max2_int min2_int max_two min_two max_three min_three max_four min_four   -- for this text's walks alone

/-! plain facts: figureheadref01_Same -/
theorem Same_loop (a b : List Int) (hl : a.length ≤ 4611686018427387904) (he : a.length = b.length) : ∀ (d n : Nat), a.length - n = d → n ≤ a.length → Ev (fun k => figureheadref01_Same.l0 k a b (n : Int)) (decide (a.drop n = b.drop n))
  | 0, n, hd, hn => by
    refine evDone (r' := true) (fun k => ?_) ?_
    · simp only [figureheadref01_Same.l0]; rw [if_neg (by omega)]
    · rw [List.drop_of_length_le (by omega), List.drop_of_length_le (by omega)]; simp
  | d + 1, n, hd, hn => by
    have ha := rd_get (l := a) (n := n) (by omega)
    have hb := rd_get (l := b) (n := n) (by omega)
    have ca := List.drop_eq_getElem_cons (l := a) (i := n) (by omega)
    have cb := List.drop_eq_getElem_cons (l := b) (i := n) (by omega)
    by_cases h9 : rd a (n : Int) = rd b (n : Int)
    · refine Ev.step (f := fun k => figureheadref01_Same.l0 k a b ((n + 1 : Nat) : Int)) (fun k => ?_) ?_
      · simp only [figureheadref01_Same.l0]; rw [if_pos (by omega), if_pos (by omega), if_pos (by omega), if_pos h9, w64 (by omega) (by omega)]; rfl
      · have := Same_loop a b hl he d (n + 1) (by omega) (by omega)
        refine evIs this ?_
        rw [ca, cb, show a[n] = b[n] by rw [← ha, ← hb, h9]]
        simp only [List.cons.injEq, true_and]
    · refine evDone (r' := false) (fun k => ?_) ?_
      · simp only [figureheadref01_Same.l0]; rw [if_pos (by omega), if_pos (by omega), if_pos (by omega), if_neg h9]
      · rw [ca, cb]; symm; rw [decide_eq_false_iff_not]; intro e; injection e with e _
        rw [ha, hb] at h9; exact h9 e
theorem Same_ev {a b : List Int} (hl : a.length ≤ 4611686018427387904) : Ev (fun k => figureheadref01_Same.f k a b) (decide (a = b)) := by
  by_cases he : a.length = b.length
  · have := Same_loop a b hl he a.length 0 (by omega) (by omega)
    simp only [figureheadref01_Same.f, he, if_true]
    simpa using this
  · refine ⟨0, fun k _ => ?_⟩
    simp only [figureheadref01_Same.f]
    rw [if_neg (by omega)]; congr 1; symm; rw [decide_eq_false_iff_not]; rintro rfl; exact he rfl
theorem Same_self {a : List Int} (hl : a.length ≤ 4611686018427387904) : Ev (fun k => figureheadref01_Same.f k a a) true := by
  simpa using Same_ev (a := a) (b := a) hl
theorem Same_true {a b : List Int} (h : a = b) (hl : a.length ≤ 4611686018427387904) : Ev (fun k => figureheadref01_Same.f k a b) true := by subst h; exact Same_self hl

end Go.Proofs.Ytkhmdpplpecgcaa.Px

namespace Go.Proofs.Ytkhmdpplpecgcaa.Px
open Fig Go.RowKit Go.Proofs.YtkhmdpplpecgcaaW.PrintWords Go.Proofs.YtkhmdpplpecgcaaW.PrintLast Go.Proofs.YtkhmdpplpecgcaaW.PrintMore
attribute [local go_sem] max2_int min2_int max_two min_two max_three min_three max_four min_four   -- for this text's walks alone

/-! plain facts: figureheadlaw02_MulOwn -/
theorem mow_take (x t : List Int) : (x ++ t).take ((x.length : Int) : Int).toNat = x := by rw [Int.toNat_natCast]; simp
theorem mow_rd (x t : List Int) (j : Nat) (h : j < t.length) : rd (x ++ t) ((x.length + j : Nat) : Int) = t[j] := by
  rw [rd_get (by rw [List.length_append]; omega), List.getElem_append_right (by omega)]
  congr 1; omega
theorem mow_rd0 (x t : List Int) (a : Int) : rd (x ++ (a :: t)) (x.length : Int) = a := mow_rd x (a :: t) 0 (by simp)
theorem mow_le (x t : List Int) : ((x.length : Int) ≤ ((x ++ t).length : Int)) = True := by rw [List.length_append]; simp; omega
theorem mow_lt (x t : List Int) (a : Int) : ((x.length : Int) < ((x ++ (a :: t)).length : Int)) = True := by rw [List.length_append, List.length_cons]; simp; omega
theorem mow_nn (x : List Int) : ((0 : Int) ≤ (x.length : Int)) = True := by simp
theorem MulOwn_l1 (x0 x1 : List Int) (h0 : x0.length ≤ 60) (h1 : x1.length ≤ 60) : ∀ (d i : Nat) (x8 : List Int), x8.length - i = d → i ≤ x8.length → x8.length ≤ 1000000 → Ev (fun k => figureheadlaw02_MulOwn.l1 k x0 x1 (x0 ++ [7]) (x1 ++ [8]) x8 (i : Int)) true
  | 0, i, x8, hd, hi, hl => by
    refine Ev.step (fun k => by simp only [figureheadlaw02_MulOwn.l1]; rw [if_neg (by omega)]) ?_
    refine Ev.bind answers02_ev ?_
    simp only [if_true, mow_nn, mow_le, mow_take]
    refine Ev.bind (Same_self (by omega)) ?_
    simp only [if_true]
    refine Ev.bind (Same_self (by omega)) ?_
    simp only [if_true, mow_lt, mow_rd0]
    exact evSome fun _ => rfl
  | d + 1, i, x8, hd, hi, hl => by
    refine Ev.step (f := fun k => figureheadlaw02_MulOwn.l1 k x0 x1 (x0 ++ [7]) (x1 ++ [8]) (x8.set i 5) ((i + 1 : Nat) : Int)) (fun k => ?_) (MulOwn_l1 x0 x1 h0 h1 d (i + 1) (x8.set i 5) (by rw [List.length_set]; omega) (by rw [List.length_set]; omega) (by rw [List.length_set]; omega))
    simp only [figureheadlaw02_MulOwn.l1]
    rw [if_pos (by omega), if_pos (by omega), Int.toNat_natCast, succ64 _ (by omega)]
theorem MulOwn_l0 (x0 x1 x8 : List Int) (h0 : x0.length ≤ 60) (h1 : x1.length ≤ 60) (h8 : x8.length ≤ 1000000) : ∀ (d i : Nat) (x7 : List Int), x7.length - i = d → i ≤ x7.length → x7.length ≤ 1000000 → Ev (fun k => figureheadlaw02_MulOwn.l0 k x0 x1 (x0 ++ [7]) (x1 ++ [8]) x7 x8 (i : Int)) true
  | 0, i, x7, hd, hi, hl => by
    refine Ev.step (fun k => by simp only [figureheadlaw02_MulOwn.l0]; rw [if_neg (by omega)]) ?_
    exact MulOwn_l1 x0 x1 h0 h1 x8.length 0 x8 (by omega) (by omega) h8
  | d + 1, i, x7, hd, hi, hl => by
    refine Ev.step (f := fun k => figureheadlaw02_MulOwn.l0 k x0 x1 (x0 ++ [7]) (x1 ++ [8]) (x7.set i 5) x8 ((i + 1 : Nat) : Int)) (fun k => ?_) (MulOwn_l0 x0 x1 x8 h0 h1 h8 d (i + 1) (x7.set i 5) (by rw [List.length_set]; omega) (by rw [List.length_set]; omega) (by rw [List.length_set]; omega))
    simp only [figureheadlaw02_MulOwn.l0]
    rw [if_pos (by omega), if_pos (by omega), Int.toNat_natCast, succ64 _ (by omega)]
theorem MulOwn_pure (l0 l1 : List Int) (m0 : l0.length * 4 ≤ 140737488351232) (w0 : ∀ x ∈ l0, (Lit.int .u32 x).wf = true) (m1 : l1.length * 4 ≤ 140737488351232) (w1 : ∀ x ∈ l1, (Lit.int .u32 x).wf = true) : ∃ k, figureheadlaw02_MulOwn.f k l0 l1 = some true := by
  have n0 := fun x hx => wf_u32 (w0 x hx)
  have n1 := fun x hx => wf_u32 (w1 x hx)
  refine Ev.rounds (g := fun k => figureheadlaw02_MulOwn.f k l0 l1) ?_
  unfold figureheadlaw02_MulOwn.f
  refine Ev.bind (good02_ev (ls := [l0, l1]) (by simp) (by simp; omega) (by simp; exact ⟨fun x hx => (n0 x hx).1, fun x hx => (n1 x hx).1⟩)) ?_
  cases hg : [l0, l1].all fun l => decide (l.length ≤ 30) && goodL l
  · simp only [Bool.false_eq_true, if_false]
    exact Ev.bind answers02_ev (Ev.now true)
  · obtain ⟨⟨h0, g0⟩, h1, g1⟩ : (l0.length ≤ 30 ∧ goodL l0 = true) ∧ l1.length ≤ 30 ∧ goodL l1 = true := by simpa using hg
    have c1 : ([] : List Int).length + l0.length < 35184372088832 := by simp; omega
    have c2 : l0.length < 35184372088832 := by omega
    have c3 : ([] : List Int).length + l1.length < 35184372088832 := by simp; omega
    have c4 : l1.length < 35184372088832 := by omega
    have la : (limbs (valL l0 * valL l1)).length ≤ 1000000 := by
      have := limbs_len_digB (valL l0 * valL l1)
      have := digB_mul_le (digB_valL_size g0 h0) (digB_valL_size g1 h1); omega
    have lt : (limbs (valL l0 * 3 + 1)).length ≤ 1000000 := by
      have h2 : valL l0 * 3 + 1 < 1000000000 ^ (l0.length + 1) := by
        have := valL_lt g0
        rw [Nat.pow_succ]; omega
      have := limbs_len_le h2
      omega
    simp only [if_true, Option.bind_some, c1, List.nil_append, c2, c3, c4, mow_nn, mow_le, mow_take]
    refine Ev.bind (Mul_ev g0 g1 (by omega) (by omega)) (Ev.bind (Small_ev (y := 3) (m := 1) g0 (by omega) (by omega) (by omega)) ?_)
    exact MulOwn_l0 l0 l1 _ (by omega) (by omega) lt _ 0 _ rfl (by omega) la

end Go.Proofs.Ytkhmdpplpecgcaa.Px
