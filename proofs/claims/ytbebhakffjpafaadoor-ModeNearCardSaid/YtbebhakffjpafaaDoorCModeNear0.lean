/- The functions that the law ModeNear reaches, told as plain functions, with what is proved of them (part 0). -/
import Derived.Test.YtbebhakffjpafaaDoorPx0
namespace Go.Proofs.YtbebhakffjpafaaDoor.Px
open Fig Go.RowKit Go.Proofs.YtbebhakffjpafaaDoorW.PrintWords Go.Proofs.YtbebhakffjpafaaDoorW.PrintLast Go.Proofs.YtbebhakffjpafaaDoorW.PrintMore
attribute [local go_sem] max2_int min2_int max_two min_two max_three min_three max_four min_four   -- for this text's walks alone

/-! ### mode_Away: function 9 -/
/-- which neighbour a way takes -/
def awayB (m : Int) (neg odd : Bool) (half : Int) : Bool :=
  if m = 0 then !neg else if m = 1 then neg else if m = 2 then true else if m = 3 then false else if m = 4 then decide (0 < half) || (half == 0 && odd) else if m = 5 then decide (0 ≤ half) else if m = 6 then decide (0 < half) else false
def mode_Away.f (m : Int) (neg odd : Bool) (half : Int) : Option Bool := some (awayB m neg odd half)
set_option maxHeartbeats 4000000 in
theorem mode_Away.calls (m : Int) (neg odd : Bool) (half : Int) (r : Bool) (w : World) (hG : Fig.Glob w) (h : mode_Away.f m neg odd half = some r) :
    Calls Tryd.prog 9 #[.int .i64 m, .bool neg, .bool odd, .int .i64 half] w fun e w' => e = .returned (.bool r) ∧ Drawn0 w w' := by
  obtain rfl := Option.some.inj h
  clear h
  have h0 := hG.ways 0 _ rfl
  have h1 := hG.ways 1 _ rfl
  have h2 := hG.ways 2 _ rfl
  have h3 := hG.ways 3 _ rfl
  have h4 := hG.ways 4 _ rfl
  have h5 := hG.ways 5 _ rfl
  have h6 := hG.ways 6 _ rfl
  have h7 := hG.ways 7 _ rfl
  clear hG
  by_cases hm : 0 ≤ m ∧ m < 8
  · obtain ⟨k, rfl⟩ : ∃ k : Nat, m = k := ⟨m.toNat, by omega⟩
    have hk : k < 8 := by omega
    clear hm
    match k, hk with
    | 0, _ =>
      clear h1 h2 h3 h4 h5 h6 h7
      go_enter Tryd.func9, Tryd.ntmps9
      go_wp2
      go_ret
      exact ⟨by simp [awayB], Drawn0.refl _⟩
    | 1, _ =>
      clear h0 h2 h3 h4 h5 h6 h7
      go_enter Tryd.func9, Tryd.ntmps9
      go_wp2
      go_ret
      exact ⟨by simp [awayB], Drawn0.refl _⟩
    | 2, _ =>
      clear h0 h1 h3 h4 h5 h6 h7
      go_enter Tryd.func9, Tryd.ntmps9
      go_wp2
      go_ret
      exact ⟨by simp [awayB], Drawn0.refl _⟩
    | 3, _ =>
      clear h0 h1 h2 h4 h5 h6 h7
      go_enter Tryd.func9, Tryd.ntmps9
      go_wp2
      go_ret
      exact ⟨by simp [awayB], Drawn0.refl _⟩
    | 4, _ =>
      clear h0 h1 h2 h3 h5 h6 h7
      by_cases hp : 0 < half
      · have d1 : decide (0 < half) = true := decide_eq_true hp
        go_enter Tryd.func9, Tryd.ntmps9
        go_wp2
        go_ret
        exact ⟨by simp [awayB, hp], Drawn0.refl _⟩
      · have d1 : decide (0 < half) = false := decide_eq_false hp
        by_cases hz : half = 0
        · have d2 : (half == 0) = true := by simp [hz]
          go_enter Tryd.func9, Tryd.ntmps9
          go_wp2
          go_ret
          exact ⟨by simp [awayB, hz], Drawn0.refl _⟩
        · have d2 : (half == 0) = false := by simp [hz]
          go_enter Tryd.func9, Tryd.ntmps9
          go_wp2
          go_ret
          exact ⟨by simp [awayB, hp, hz], Drawn0.refl _⟩
    | 5, _ =>
      clear h0 h1 h2 h3 h4 h6 h7
      go_enter Tryd.func9, Tryd.ntmps9
      go_wp2
      go_ret
      exact ⟨by simp [awayB], Drawn0.refl _⟩
    | 6, _ =>
      clear h0 h1 h2 h3 h4 h5 h7
      go_enter Tryd.func9, Tryd.ntmps9
      go_wp2
      go_ret
      exact ⟨by simp [awayB], Drawn0.refl _⟩
    | 7, _ =>
      clear h0 h1 h2 h3 h4 h5 h6
      go_enter Tryd.func9, Tryd.ntmps9
      go_wp2
      go_ret
      exact ⟨by simp [awayB], Drawn0.refl _⟩
    | n + 8, hk => exact absurd hk (by omega)
  · clear h0 h1 h2 h3 h4 h5 h6 h7
    have hz : awayB m neg odd half = false := by unfold awayB; repeat (rw [if_neg (by omega)])
    rw [hz]
    by_cases h0 : 0 ≤ m
    · have d1 : decide (0 ≤ m) = true := decide_eq_true h0
      have d2 : decide (m < 8) = false := decide_eq_false (by omega)
      go_enter Tryd.func9, Tryd.ntmps9
      go_wp2
      go_ret
      exact ⟨rfl, Drawn0.refl _⟩
    · have d1 : decide (0 ≤ m) = false := decide_eq_false h0
      go_enter Tryd.func9, Tryd.ntmps9
      go_wp2
      go_ret
      exact ⟨rfl, Drawn0.refl _⟩

end Go.Proofs.YtbebhakffjpafaaDoor.Px

namespace Go.Proofs.YtbebhakffjpafaaDoor.Px
open Fig Go.RowKit Go.Proofs.YtbebhakffjpafaaDoorW.PrintWords Go.Proofs.YtbebhakffjpafaaDoorW.PrintLast Go.Proofs.YtbebhakffjpafaaDoorW.PrintMore
attribute [local go_sem] max2_int min2_int max_two min_two max_three min_three max_four min_four   -- for this text's walks alone

/-! ### mode_Good: function 8 -/
def mode_Good.f (a0 : Int) : Option (Bool) := if a0 ≥ 0 then (some (decide (a0 < 8))) else (some false)
set_option maxHeartbeats 8000000 in
set_option maxRecDepth 100000 in
theorem mode_Good.calls (a0 : Int) (r : Bool) (w : World) (h : mode_Good.f a0 = some r) :
    Calls Tryd.prog 8 #[.int .i64 a0] w fun e w' => e = .returned (.bool r) ∧ Drawn0 w w' := by
  have H : (if a0 ≥ 0 then (some (decide (a0 < 8))) else (some false)) = some r := h
  clear h
  by_cases c2 : a0 ≥ 0
  · rw [if_pos c2] at H
    have c2b0 : decide (0 ≤ a0) = true := decide_eq_true c2
    clear c2
    obtain rfl := Option.some.inj H
    go_enter Tryd.func8, Tryd.ntmps8
    go_wp2
    go_ret
    exact ⟨by first | rfl | (simp; done) | (simp [*]; done), by repeat (first | exact Drawn0.refl _ | apply Drawn0.step)⟩
  · rw [if_neg c2] at H
    have c2b0 : decide (0 ≤ a0) = false := decide_eq_false c2
    clear c2
    obtain rfl := Option.some.inj H
    go_enter Tryd.func8, Tryd.ntmps8
    go_wp2
    go_ret
    exact ⟨by first | rfl | (simp; done) | (simp [*]; done), by repeat (first | exact Drawn0.refl _ | apply Drawn0.step)⟩

end Go.Proofs.YtbebhakffjpafaaDoor.Px

namespace Go.Proofs.YtbebhakffjpafaaDoor.Px
open Fig Go.RowKit Go.Proofs.YtbebhakffjpafaaDoorW.PrintWords Go.Proofs.YtbebhakffjpafaaDoorW.PrintLast Go.Proofs.YtbebhakffjpafaaDoorW.PrintMore
attribute [local go_sem] max2_int min2_int max_two min_two max_three min_three max_four min_four   -- for this text's walks alone

/-! ### figureheadlaw07_answers: function 7 -/
def figureheadlaw07_answers.f  : Option (Bool) := (mode_Good.f 7).bind fun t101 => (if t101 = true then ((mode_Good.f 8).bind fun t102 => (if t102 = true then (some false) else ((mode_Away.f 2 false false (-1)).bind fun t103 => (if t103 = true then ((mode_Away.f 4 false false 0).bind fun t104 => (if t104 = true then (some false) else ((mode_Away.f 4 false true 0).bind fun t105 => (some t105)))) else (some false))))) else (some false))
set_option maxHeartbeats 8000000 in
set_option maxRecDepth 100000 in
theorem figureheadlaw07_answers.calls  (r : Bool) (w : World) (hG : Fig.Glob w) (HT : Aside0 (r = true)) (h : figureheadlaw07_answers.f  = some r) :
    Calls Tryd.prog 7 #[] w fun e w' => e = .returned (.bool r) ∧ Drawn0 w w' := by
  have HG := Aside0.mk hG
  clear hG
  have H : ((mode_Good.f 7).bind fun t101 => (if t101 = true then ((mode_Good.f 8).bind fun t102 => (if t102 = true then (some false) else ((mode_Away.f 2 false false (-1)).bind fun t103 => (if t103 = true then ((mode_Away.f 4 false false 0).bind fun t104 => (if t104 = true then (some false) else ((mode_Away.f 4 false true 0).bind fun t105 => (some t105)))) else (some false))))) else (some false))) = some r := h
  clear h
  replace H := Option.bind_eq_some_iff.mp H
  obtain ⟨t101, A10, H⟩ := H
  replace H : (if t101 = true then ((mode_Good.f 8).bind fun t102 => (if t102 = true then (some false) else ((mode_Away.f 2 false false (-1)).bind fun t103 => (if t103 = true then ((mode_Away.f 4 false false 0).bind fun t104 => (if t104 = true then (some false) else ((mode_Away.f 4 false true 0).bind fun t105 => (some t105)))) else (some false))))) else (some false)) = some r := H
  have A1 := Aside0.mk A10
  clear A10
  by_cases c2 : t101 = true
  · subst c2
    have H1 : ((mode_Good.f 8).bind fun t102 => (if t102 = true then (some false) else ((mode_Away.f 2 false false (-1)).bind fun t103 => (if t103 = true then ((mode_Away.f 4 false false 0).bind fun t104 => (if t104 = true then (some false) else ((mode_Away.f 4 false true 0).bind fun t105 => (some t105)))) else (some false))))) = some r := by rw [if_pos rfl] at H; exact H
    clear H
    have H := H1
    clear H1
    replace H := Option.bind_eq_some_iff.mp H
    obtain ⟨t102, A30, H⟩ := H
    replace H : (if t102 = true then (some false) else ((mode_Away.f 2 false false (-1)).bind fun t103 => (if t103 = true then ((mode_Away.f 4 false false 0).bind fun t104 => (if t104 = true then (some false) else ((mode_Away.f 4 false true 0).bind fun t105 => (some t105)))) else (some false)))) = some r := H
    have A3 := Aside0.mk A30
    clear A30
    by_cases c4 : t102 = true
    · subst c4
      have H1 : (some false) = some r := by rw [if_pos rfl] at H; exact H
      clear H
      have H := H1
      clear H1
      exact absurd ((Option.some.inj H).trans HT.out) (by decide)
    · replace c4 := Bool.eq_false_iff.mpr c4
      subst c4
      have H1 : ((mode_Away.f 2 false false (-1)).bind fun t103 => (if t103 = true then ((mode_Away.f 4 false false 0).bind fun t104 => (if t104 = true then (some false) else ((mode_Away.f 4 false true 0).bind fun t105 => (some t105)))) else (some false))) = some r := by rw [if_neg (show ¬ (false = true) by decide)] at H; exact H
      clear H
      have H := H1
      clear H1
      replace H := Option.bind_eq_some_iff.mp H
      obtain ⟨t103, A50, H⟩ := H
      replace H : (if t103 = true then ((mode_Away.f 4 false false 0).bind fun t104 => (if t104 = true then (some false) else ((mode_Away.f 4 false true 0).bind fun t105 => (some t105)))) else (some false)) = some r := H
      have A5 := Aside0.mk A50
      clear A50
      by_cases c6 : t103 = true
      · subst c6
        have H1 : ((mode_Away.f 4 false false 0).bind fun t104 => (if t104 = true then (some false) else ((mode_Away.f 4 false true 0).bind fun t105 => (some t105)))) = some r := by rw [if_pos rfl] at H; exact H
        clear H
        have H := H1
        clear H1
        replace H := Option.bind_eq_some_iff.mp H
        obtain ⟨t104, A70, H⟩ := H
        replace H : (if t104 = true then (some false) else ((mode_Away.f 4 false true 0).bind fun t105 => (some t105))) = some r := H
        have A7 := Aside0.mk A70
        clear A70
        by_cases c8 : t104 = true
        · subst c8
          have H1 : (some false) = some r := by rw [if_pos rfl] at H; exact H
          clear H
          have H := H1
          clear H1
          exact absurd ((Option.some.inj H).trans HT.out) (by decide)
        · replace c8 := Bool.eq_false_iff.mpr c8
          subst c8
          have H1 : ((mode_Away.f 4 false true 0).bind fun t105 => (some t105)) = some r := by rw [if_neg (show ¬ (false = true) by decide)] at H; exact H
          clear H
          have H := H1
          clear H1
          replace H := Option.bind_eq_some_iff.mp H
          obtain ⟨t105, A90, H⟩ := H
          replace H : (some t105) = some r := H
          have A9 := Aside0.mk A90
          clear A90
          obtain rfl := Option.some.inj H
          go_enter Tryd.func7, Tryd.ntmps7
          go_wp2_with (first | ((with_reducible refine gate_callee (f := 8) rfl ?_); refine goesL_ (some 1) rfl rfl Tryd.func8 (by kernel_rfl) rfl #[.int .i64 7] rfl (by (try simp only [List.map_toArray, List.map_cons, List.map_nil]); first | done | rfl | (simp only [List.length_drop, List.length_take]; rfl)) ?_; (with_reducible refine (mode_Good.calls 7 true _ A1.out).mono ?_); rintro e w' ⟨rfl, ⟨nd, rfl⟩⟩; refine ⟨_, rfl, ?_⟩) | ((with_reducible refine gate_dst (N := 3) rfl ?_); (refine gate_guard (by rfl) ?_; dsimp only); (with_reducible refine gate_callee (f := 8) rfl ?_); refine goesL_ (some 3) rfl rfl Tryd.func8 (by kernel_rfl) rfl #[.int .i64 8] rfl (by (try simp only [List.map_toArray, List.map_cons, List.map_nil]); first | done | rfl | (simp only [List.length_drop, List.length_take]; rfl)) ?_; (with_reducible refine (mode_Good.calls 8 false _ A3.out).mono ?_); rintro e w' ⟨rfl, ⟨nd, rfl⟩⟩; refine ⟨_, rfl, ?_⟩) | ((with_reducible refine gate_dst (N := 7) rfl ?_); (refine gate_guard (by rfl) ?_; dsimp only); (with_reducible refine gate_callee (f := 9) rfl ?_); refine goesL_ (some 7) rfl rfl Tryd.func9 (by kernel_rfl) rfl #[.int .i64 2, .bool false, .bool false, .int .i64 (-1)] rfl (by (try simp only [List.map_toArray, List.map_cons, List.map_nil]); first | done | rfl | (simp only [List.length_drop, List.length_take]; rfl)) ?_; (with_reducible refine (mode_Away.calls 2 false false (-1) true _ ?side1 A5.out).mono ?_); (case side1 => repeat (first | exact HG.out | apply Fig.Glob.drewN | apply Fig.Glob.drew)); rintro e w' ⟨rfl, ⟨nd, rfl⟩⟩; refine ⟨_, rfl, ?_⟩) | ((with_reducible refine gate_dst (N := 10) rfl ?_); (refine gate_guard (by rfl) ?_; dsimp only); (with_reducible refine gate_callee (f := 9) rfl ?_); refine goesL_ (some 10) rfl rfl Tryd.func9 (by kernel_rfl) rfl #[.int .i64 4, .bool false, .bool false, .int .i64 0] rfl (by (try simp only [List.map_toArray, List.map_cons, List.map_nil]); first | done | rfl | (simp only [List.length_drop, List.length_take]; rfl)) ?_; (with_reducible refine (mode_Away.calls 4 false false 0 false _ ?side1 A7.out).mono ?_); (case side1 => repeat (first | exact HG.out | apply Fig.Glob.drewN | apply Fig.Glob.drew)); rintro e w' ⟨rfl, ⟨nd, rfl⟩⟩; refine ⟨_, rfl, ?_⟩) | ((with_reducible refine gate_dst (N := 14) rfl ?_); (refine gate_guard (by rfl) ?_; dsimp only); (with_reducible refine gate_callee (f := 9) rfl ?_); refine goesL_ (some 14) rfl rfl Tryd.func9 (by kernel_rfl) rfl #[.int .i64 4, .bool false, .bool true, .int .i64 0] rfl (by (try simp only [List.map_toArray, List.map_cons, List.map_nil]); first | done | rfl | (simp only [List.length_drop, List.length_take]; rfl)) ?_; (with_reducible refine (mode_Away.calls 4 false true 0 t105 _ ?side1 A9.out).mono ?_); (case side1 => repeat (first | exact HG.out | apply Fig.Glob.drewN | apply Fig.Glob.drew)); rintro e w' ⟨rfl, ⟨nd, rfl⟩⟩; refine ⟨_, rfl, ?_⟩))
          go_ret
          exact ⟨by first | rfl | (simp; done) | (simp [*]; done), by repeat (first | exact Drawn0.refl _ | apply Drawn0.step)⟩
      · replace c6 := Bool.eq_false_iff.mpr c6
        subst c6
        have H1 : (some false) = some r := by rw [if_neg (show ¬ (false = true) by decide)] at H; exact H
        clear H
        have H := H1
        clear H1
        exact absurd ((Option.some.inj H).trans HT.out) (by decide)
  · replace c2 := Bool.eq_false_iff.mpr c2
    subst c2
    have H1 : (some false) = some r := by rw [if_neg (show ¬ (false = true) by decide)] at H; exact H
    clear H
    have H := H1
    clear H1
    exact absurd ((Option.some.inj H).trans HT.out) (by decide)

end Go.Proofs.YtbebhakffjpafaaDoor.Px

namespace Go.Proofs.YtbebhakffjpafaaDoor.Px
open Fig Go.RowKit Go.Proofs.YtbebhakffjpafaaDoorW.PrintWords Go.Proofs.YtbebhakffjpafaaDoorW.PrintLast Go.Proofs.YtbebhakffjpafaaDoorW.PrintMore
attribute [local go_sem] max2_int min2_int max_two min_two max_three min_three max_four min_four   -- for this text's walks alone

/-! ### figureheadlaw07_ModeNear: function 5 -/
def figureheadlaw07_ModeNear.j0 : Nat → Int → Bool → Bool → Int → Int → Bool → Bool → Option (Bool)
  | 0, _, _, _, _, _, _, _ => none
  | k + 1, x0, x1, x2, x3, x4, x11, x18 => if x18 = true then ((figureheadlaw07_answers.f).bind fun t119 => (if t119 = true then (if x3 = 0 then (some true) else (some (x11 == (decide (x3 > 0))))) else (some false))) else ((figureheadlaw07_answers.f).bind fun t120 => (if t120 = true then ((mode_Away.f x0 x1 (!x2) x4).bind fun t121 => (some (x11 == t121))) else (some false)))
def figureheadlaw07_ModeNear.f (k : Nat) (a0 : Int) (a1 : Bool) (a2 : Bool) (a3 : Int) (a4 : Int) : Option (Bool) := (mode_Away.f a0 a1 a2 a3).bind fun t118 => (if a0 = 4 then (figureheadlaw07_ModeNear.j0 k a0 a1 a2 a3 a4 t118 (a0 == 4)) else (if a0 = 5 then (figureheadlaw07_ModeNear.j0 k a0 a1 a2 a3 a4 t118 (a0 == 5)) else (figureheadlaw07_ModeNear.j0 k a0 a1 a2 a3 a4 t118 (a0 == 6))))
theorem figureheadlaw07_ModeNear.mono_l : ∀ k, (∀ y0 y1 y2 y3 y4 y5 y6, LeO (figureheadlaw07_ModeNear.j0 k y0 y1 y2 y3 y4 y5 y6) (figureheadlaw07_ModeNear.j0 (k + 1) y0 y1 y2 y3 y4 y5 y6))
  | 0 => fun _ _ _ _ _ _ _ r h => by simp [figureheadlaw07_ModeNear.j0] at h
  | k + 1 => by
    have ih0 := figureheadlaw07_ModeNear.mono_l k
    · intro y0 y1 y2 y3 y4 y5 y6
      unfold figureheadlaw07_ModeNear.j0
      repeat' first
      | (with_reducible exact ih0 _ _ _ _ _ _ _)
      | (with_reducible exact LeO.refl _)
      | (with_reducible exact LeO.none _)
      | (with_reducible refine LeO.ite ?_ ?_)
      | (with_reducible refine LeO.bind ?_ (fun _ => ?_))
      | exact ih0 _ _ _ _ _ _ _
      | exact LeO.none _
      | refine LeO.ite ?_ ?_
      | refine LeO.bind ?_ (fun _ => ?_)
theorem figureheadlaw07_ModeNear.mono : ∀ a0 a1 a2 a3 a4 k, LeO (figureheadlaw07_ModeNear.f k a0 a1 a2 a3 a4) (figureheadlaw07_ModeNear.f (k + 1) a0 a1 a2 a3 a4) := by
  intro a0 a1 a2 a3 a4 k
  have ih0 := figureheadlaw07_ModeNear.mono_l k
  unfold figureheadlaw07_ModeNear.f
  repeat' first
      | (with_reducible exact ih0 _ _ _ _ _ _ _)
      | (with_reducible exact LeO.refl _)
      | (with_reducible exact LeO.none _)
      | (with_reducible refine LeO.ite ?_ ?_)
      | (with_reducible refine LeO.bind ?_ (fun _ => ?_))
      | exact ih0 _ _ _ _ _ _ _
      | exact LeO.none _
      | refine LeO.ite ?_ ?_
      | refine LeO.bind ?_ (fun _ => ?_)
set_option maxHeartbeats 8000000 in
set_option maxRecDepth 100000 in
theorem figureheadlaw07_ModeNear.calls (k : Nat) (a0 : Int) (a1 : Bool) (a2 : Bool) (a3 : Int) (a4 : Int) (r : Bool) (w : World) (hG : Fig.Glob w) (HT : Aside0 (r = true)) (h : figureheadlaw07_ModeNear.f k a0 a1 a2 a3 a4 = some r) :
    Calls Tryd.prog 5 #[.int .i64 a0, .bool a1, .bool a2, .int .i64 a3, .int .i64 a4] w fun e w' => e = .returned (.bool r) ∧ Drawn0 w w' := by
  have HG := Aside0.mk hG
  clear hG
  have H : ((mode_Away.f a0 a1 a2 a3).bind fun t118 => (if a0 = 4 then (figureheadlaw07_ModeNear.j0 k a0 a1 a2 a3 a4 t118 (a0 == 4)) else (if a0 = 5 then (figureheadlaw07_ModeNear.j0 k a0 a1 a2 a3 a4 t118 (a0 == 5)) else (figureheadlaw07_ModeNear.j0 k a0 a1 a2 a3 a4 t118 (a0 == 6))))) = some r := h
  clear h
  replace H := Option.bind_eq_some_iff.mp H
  obtain ⟨t118, A60, H⟩ := H
  replace H : (if a0 = 4 then (figureheadlaw07_ModeNear.j0 k a0 a1 a2 a3 a4 t118 (a0 == 4)) else (if a0 = 5 then (figureheadlaw07_ModeNear.j0 k a0 a1 a2 a3 a4 t118 (a0 == 5)) else (figureheadlaw07_ModeNear.j0 k a0 a1 a2 a3 a4 t118 (a0 == 6)))) = some r := H
  have A6 := Aside0.mk A60
  clear A60
  have HC7 := Aside0.mk H
  clear H
  go_enter Tryd.func5, Tryd.ntmps5
  go_upto_if 18 with (first | ((with_reducible refine gate_callee (f := 9) rfl ?_); refine goesL_ (some 16) rfl rfl Tryd.func9 (by kernel_rfl) rfl #[.int .i64 a0, .bool a1, .bool a2, .int .i64 a3] rfl (by (try simp only [List.map_toArray, List.map_cons, List.map_nil]); first | done | rfl | (simp only [List.length_drop, List.length_take]; rfl)) ?_; (with_reducible refine (mode_Away.calls a0 a1 a2 a3 t118 _ ?side1 A6.out).mono ?_); (case side1 => repeat (first | exact HG.out | apply Fig.Glob.drewN | apply Fig.Glob.drew)); rintro e w' ⟨rfl, ⟨nd, rfl⟩⟩; refine ⟨_, rfl, ?_⟩))
  (try simp only [Act.put, List.setIfInBounds_toArray, List.set_cons_zero, List.set_cons_succ])
  go_cut [18] (fun v18 wc => ∃ (kq : Nat) (x18_6 : Bool), v18 = .bool x18_6 ∧ Aside0 (figureheadlaw07_ModeNear.j0 kq a0 a1 a2 a3 a4 t118 x18_6 = some r) ∧ Aside0 (kq ≤ k) ∧ Drawn0 w wc)
  case first =>
    have H := HC7.out
    clear HC7
    by_cases c8 : a0 = 4
    · rw [if_pos c8] at H
      have c8b0 : (a0 == 4) = true := beq_iff_eq.mpr c8
      have c8b1 : (a0 != 4) = false := bne_eq_false_iff_eq.mpr c8
      clear c8
      (first | rw [c8b0] | (simp only [i64_w, i32_w]; rw [c8b0]) | skip)
      have H' := Aside0.mk H
      clear H
      go_wp2
      go_meet
      case rel => exact ⟨_, ((a0 == 4)), (by first | rfl | (simp; done) | (simp [*]; done)), H', ⟨by first | omega | exact Nat.le_refl _⟩, by repeat (first | exact Drawn0.refl _ | apply Drawn0.step)⟩
    · rw [if_neg c8] at H
      have c8b0 : (a0 == 4) = false := beq_eq_false_iff_ne.mpr c8
      have c8b1 : (a0 != 4) = true := bne_iff_ne.mpr c8
      (first | rw [c8b0] | (simp only [i64_w, i32_w]; rw [c8b0]) | skip)
      by_cases c9 : a0 = 5
      · rw [if_pos c9] at H
        have c9b0 : (a0 == 5) = true := beq_iff_eq.mpr c9
        have c9b1 : (a0 != 5) = false := bne_eq_false_iff_eq.mpr c9
        clear c9
        have H' := Aside0.mk H
        clear H
        go_wp2
        go_meet
        case rel => exact ⟨_, ((a0 == 5)), (by first | rfl | (simp; done) | (simp [*]; done)), H', ⟨by first | omega | exact Nat.le_refl _⟩, by repeat (first | exact Drawn0.refl _ | apply Drawn0.step)⟩
      · rw [if_neg c9] at H
        have c9b0 : (a0 == 5) = false := beq_eq_false_iff_ne.mpr c9
        have c9b1 : (a0 != 5) = true := bne_iff_ne.mpr c9
        have H' := Aside0.mk H
        clear H
        go_wp2
        go_meet
        case rel => exact ⟨_, ((a0 == 6)), (by first | rfl | (simp; done) | (simp [*]; done)), H', ⟨by first | omega | exact Nat.le_refl _⟩, by repeat (first | exact Drawn0.refl _ | apply Drawn0.step)⟩
  case rest =>
    clear HC7
    try clear p2
    try clear c5
    try clear c8
    try clear c8b0
    try clear c8b1
    try clear c9
    try clear c9b0
    try clear c9b1
    obtain ⟨kq, x18_6, rfl, HA, HJ6, ⟨mc6, rfl⟩⟩ := hcut
    cases kq with
    | zero => exact absurd HA.out (by simp [figureheadlaw07_ModeNear.j0])
    | succ kj6 =>
      have H := HA.out
      clear HA
      simp only [figureheadlaw07_ModeNear.j0] at H
      by_cases c10 : x18_6 = true
      · subst c10
        have H1 : ((figureheadlaw07_answers.f).bind fun t119 => (if t119 = true then (if a3 = 0 then (some true) else (some (t118 == (decide (a3 > 0))))) else (some false))) = some r := by rw [if_pos rfl] at H; exact H
        clear H
        have H := H1
        clear H1
        replace H := Option.bind_eq_some_iff.mp H
        obtain ⟨t119, A110, H⟩ := H
        replace H : (if t119 = true then (if a3 = 0 then (some true) else (some (t118 == (decide (a3 > 0))))) else (some false)) = some r := H
        have A11 := Aside0.mk A110
        clear A110
        by_cases c12 : t119 = true
        · subst c12
          have H1 : (if a3 = 0 then (some true) else (some (t118 == (decide (a3 > 0))))) = some r := by rw [if_pos rfl] at H; exact H
          clear H
          have H := H1
          clear H1
          by_cases c13 : a3 = 0
          · rw [if_pos c13] at H
            have c13b0 : (a3 == 0) = true := beq_iff_eq.mpr c13
            have c13b1 : (a3 != 0) = false := bne_eq_false_iff_eq.mpr c13
            clear c13
            obtain rfl := Option.some.inj H
            go_wp2_with (first | ((with_reducible refine gate_callee (f := 7) rfl ?_); refine goesL_ (some 22) rfl rfl Tryd.func7 (by kernel_rfl) rfl #[] rfl (by (try simp only [List.map_toArray, List.map_cons, List.map_nil]); first | done | rfl | (simp only [List.length_drop, List.length_take]; rfl)) ?_; (with_reducible refine (figureheadlaw07_answers.calls  true _ ?side1 ?side2 A11.out).mono ?_); (case side1 => repeat (first | exact HG.out | apply Fig.Glob.drewN | apply Fig.Glob.drew)); (case side2 => exact ⟨by first | rfl | exact HT.out⟩); rintro e w' ⟨rfl, ⟨nd, rfl⟩⟩; refine ⟨_, rfl, ?_⟩))
            go_ret
            exact ⟨by first | rfl | (simp; done) | (simp [*]; done), by repeat (first | exact Drawn0.refl _ | apply Drawn0.step)⟩
          · rw [if_neg c13] at H
            have c13b0 : (a3 == 0) = false := beq_eq_false_iff_ne.mpr c13
            have c13b1 : (a3 != 0) = true := bne_iff_ne.mpr c13
            obtain rfl := Option.some.inj H
            go_wp2_with (first | ((with_reducible refine gate_callee (f := 7) rfl ?_); refine goesL_ (some 22) rfl rfl Tryd.func7 (by kernel_rfl) rfl #[] rfl (by (try simp only [List.map_toArray, List.map_cons, List.map_nil]); first | done | rfl | (simp only [List.length_drop, List.length_take]; rfl)) ?_; (with_reducible refine (figureheadlaw07_answers.calls  true _ ?side1 ?side2 A11.out).mono ?_); (case side1 => repeat (first | exact HG.out | apply Fig.Glob.drewN | apply Fig.Glob.drew)); (case side2 => exact ⟨by first | rfl | exact HT.out⟩); rintro e w' ⟨rfl, ⟨nd, rfl⟩⟩; refine ⟨_, rfl, ?_⟩))
            go_ret
            exact ⟨by first | rfl | (simp; done) | (simp [*]; done), by repeat (first | exact Drawn0.refl _ | apply Drawn0.step)⟩
        · replace c12 := Bool.eq_false_iff.mpr c12
          subst c12
          have H1 : (some false) = some r := by rw [if_neg (show ¬ (false = true) by decide)] at H; exact H
          clear H
          have H := H1
          clear H1
          exact absurd ((Option.some.inj H).trans HT.out) (by decide)
      · replace c10 := Bool.eq_false_iff.mpr c10
        subst c10
        have H1 : ((figureheadlaw07_answers.f).bind fun t120 => (if t120 = true then ((mode_Away.f a0 a1 (!a2) a4).bind fun t121 => (some (t118 == t121))) else (some false))) = some r := by rw [if_neg (show ¬ (false = true) by decide)] at H; exact H
        clear H
        have H := H1
        clear H1
        replace H := Option.bind_eq_some_iff.mp H
        obtain ⟨t120, A140, H⟩ := H
        replace H : (if t120 = true then ((mode_Away.f a0 a1 (!a2) a4).bind fun t121 => (some (t118 == t121))) else (some false)) = some r := H
        have A14 := Aside0.mk A140
        clear A140
        by_cases c15 : t120 = true
        · subst c15
          have H1 : ((mode_Away.f a0 a1 (!a2) a4).bind fun t121 => (some (t118 == t121))) = some r := by rw [if_pos rfl] at H; exact H
          clear H
          have H := H1
          clear H1
          replace H := Option.bind_eq_some_iff.mp H
          obtain ⟨t121, A160, H⟩ := H
          replace H : (some (t118 == t121)) = some r := H
          have A16 := Aside0.mk A160
          clear A160
          obtain rfl := Option.some.inj H
          go_wp2_with (first | ((with_reducible refine gate_callee (f := 7) rfl ?_); refine goesL_ (some 33) rfl rfl Tryd.func7 (by kernel_rfl) rfl #[] rfl (by (try simp only [List.map_toArray, List.map_cons, List.map_nil]); first | done | rfl | (simp only [List.length_drop, List.length_take]; rfl)) ?_; (with_reducible refine (figureheadlaw07_answers.calls  true _ ?side1 ?side2 A14.out).mono ?_); (case side1 => repeat (first | exact HG.out | apply Fig.Glob.drewN | apply Fig.Glob.drew)); (case side2 => exact ⟨by first | rfl | exact HT.out⟩); rintro e w' ⟨rfl, ⟨nd, rfl⟩⟩; refine ⟨_, rfl, ?_⟩) | ((with_reducible refine gate_dst (N := 41) rfl ?_); (refine gate_guard (by rfl) ?_; dsimp only); (with_reducible refine gate_callee (f := 9) rfl ?_); refine goesL_ (some 41) rfl rfl Tryd.func9 (by kernel_rfl) rfl #[.int .i64 a0, .bool a1, .bool (!a2), .int .i64 a4] rfl (by (try simp only [List.map_toArray, List.map_cons, List.map_nil]); first | done | rfl | (simp only [List.length_drop, List.length_take]; rfl)) ?_; (with_reducible refine (mode_Away.calls a0 a1 (!a2) a4 t121 _ ?side1 A16.out).mono ?_); (case side1 => repeat (first | exact HG.out | apply Fig.Glob.drewN | apply Fig.Glob.drew)); rintro e w' ⟨rfl, ⟨nd, rfl⟩⟩; refine ⟨_, rfl, ?_⟩))
          go_ret
          exact ⟨by first | rfl | (simp; done) | (simp [*]; done), by repeat (first | exact Drawn0.refl _ | apply Drawn0.step)⟩
        · replace c15 := Bool.eq_false_iff.mpr c15
          subst c15
          have H1 : (some false) = some r := by rw [if_neg (show ¬ (false = true) by decide)] at H; exact H
          clear H
          have H := H1
          clear H1
          exact absurd ((Option.some.inj H).trans HT.out) (by decide)

end Go.Proofs.YtbebhakffjpafaaDoor.Px

namespace Go.Proofs.YtbebhakffjpafaaDoor.Px
open Fig Go.RowKit Go.Proofs.YtbebhakffjpafaaDoorW.PrintWords Go.Proofs.YtbebhakffjpafaaDoorW.PrintLast Go.Proofs.YtbebhakffjpafaaDoorW.PrintMore
attribute [local go_sem] max2_int min2_int max_two min_two max_three min_three max_four min_four   -- for this text's walks alone

/-! plain facts: mode_Away -/
theorem away_lo {m : Int} (neg odd : Bool) (half : Int) (h : m < 0) : awayB m neg odd half = false := by unfold awayB; repeat (rw [if_neg (by omega)])
theorem away_hi {m : Int} (neg odd : Bool) (half : Int) (h : 7 ≤ m) : awayB m neg odd half = false := by unfold awayB; repeat (rw [if_neg (by omega)])
theorem away_cases (m : Int) : m < 0 ∨ m = 0 ∨ m = 1 ∨ m = 2 ∨ m = 3 ∨ m = 4 ∨ m = 5 ∨ m = 6 ∨ 7 ≤ m := by omega

end Go.Proofs.YtbebhakffjpafaaDoor.Px

namespace Go.Proofs.YtbebhakffjpafaaDoor.Px
open Fig Go.RowKit Go.Proofs.YtbebhakffjpafaaDoorW.PrintWords Go.Proofs.YtbebhakffjpafaaDoorW.PrintLast Go.Proofs.YtbebhakffjpafaaDoorW.PrintMore
attribute [local go_sem] max2_int min2_int max_two min_two max_three min_three max_four min_four   -- for this text's walks alone

/-! plain facts: figureheadlaw07_answers -/
theorem answers07 : figureheadlaw07_answers.f = some true := by decide

end Go.Proofs.YtbebhakffjpafaaDoor.Px

namespace Go.Proofs.YtbebhakffjpafaaDoor.Px
open Fig Go.RowKit Go.Proofs.YtbebhakffjpafaaDoorW.PrintWords Go.Proofs.YtbebhakffjpafaaDoorW.PrintLast Go.Proofs.YtbebhakffjpafaaDoorW.PrintMore
attribute [local go_sem] max2_int min2_int max_two min_two max_three min_three max_four min_four   -- for this text's walks alone

/-! plain facts: figureheadlaw07_ModeNear -/
theorem ModeNear_pure (a0 : Int) (a1 a2 : Bool) (a3 a4 : Int) (w0 : (Lit.int .i64 a0).wf = true) (w3 : (Lit.int .i64 a3).wf = true) (w4 : (Lit.int .i64 a4).wf = true) : ∃ k, figureheadlaw07_ModeNear.f k a0 a1 a2 a3 a4 = some true := by
  refine ⟨1, ?_⟩
  unfold figureheadlaw07_ModeNear.f
  simp only [figureheadlaw07_ModeNear.j0, answers07, Option.bind_some, if_true, mode_Away.f]
  rcases away_cases a0 with h | h | h | h | h | h | h | h | h
  · have e4 : a0 ≠ 4 := by omega
    have e5 : a0 ≠ 5 := by omega
    have e6 : a0 ≠ 6 := by omega
    simp [e4, e5, e6, away_lo _ _ _ h]
  · subst h; simp [awayB]
  · subst h; simp [awayB]
  · subst h; simp [awayB]
  · subst h; simp [awayB]
  · subst h
    by_cases hz : a3 = 0
    · simp [hz]
    · simp [awayB, hz]
  · subst h
    by_cases hz : a3 = 0
    · simp [hz]
    · have : decide (0 ≤ a3) = decide (0 < a3) := by rw [decide_eq_decide]; omega
      simp [awayB, hz, this]
  · subst h
    by_cases hz : a3 = 0
    · simp [hz]
    · simp [awayB, hz]
  · have e4 : a0 ≠ 4 := by omega
    have e5 : a0 ≠ 5 := by omega
    have e6 : a0 ≠ 6 := by omega
    simp [e4, e5, e6, away_hi _ _ _ h]

end Go.Proofs.YtbebhakffjpafaaDoor.Px
