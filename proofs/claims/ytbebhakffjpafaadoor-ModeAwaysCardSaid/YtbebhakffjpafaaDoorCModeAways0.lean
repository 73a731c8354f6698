/- The functions that the law ModeAways reaches, told as plain functions, with what is proved of them (part 0). -/
import Derived.Test.YtbebhakffjpafaaDoorPx0
namespace Go.Proofs.YtbebhakffjpafaaDoor.Px
open Fig Go.RowKit Go.Proofs.YtbebhakffjpafaaDoorW.PrintWords Go.Proofs.YtbebhakffjpafaaDoorW.PrintLast Go.Proofs.YtbebhakffjpafaaDoorW.PrintMore
attribute [local go_sem] max2_int min2_int max_two min_two max_three min_three max_four min_four   -- for this text's walks alone

/-! ### mode_Good: function 8 -/
def mode_Good.f (a0 : Int) : Option (Bool) := if a0 ≥ 0 then (some (decide (a0 < 8))) else (some false)
set_option maxHeartbeats 8000000 in
set_option maxRecDepth 100000 in
theorem mode_Good.calls (a0 : Int) (r : Bool) (w : World) (h : mode_Good.f a0 = some r) :
    Calls Tryd.prog 8 #[.int .i64 a0] w fun e w' => e = .returned (.bool r) ∧ Drawn0 w w' := by
  have H : (if a0 ≥ 0 then (some (decide (a0 < 8))) else (some false)) = some r := h
  clear h
  by_cases c2 : a0 ≥ 0
  · rw [if_pos c2] at H
    have c2b0 : decide (0 ≤ a0) = true := decide_eq_true c2
    clear c2
    obtain rfl := Option.some.inj H
    go_enter Tryd.func8, Tryd.ntmps8
    go_wp2
    go_ret
    exact ⟨by first | rfl | (simp; done) | (simp [*]; done), by repeat (first | exact Drawn0.refl _ | apply Drawn0.step)⟩
  · rw [if_neg c2] at H
    have c2b0 : decide (0 ≤ a0) = false := decide_eq_false c2
    clear c2
    obtain rfl := Option.some.inj H
    go_enter Tryd.func8, Tryd.ntmps8
    go_wp2
    go_ret
    exact ⟨by first | rfl | (simp; done) | (simp [*]; done), by repeat (first | exact Drawn0.refl _ | apply Drawn0.step)⟩

end Go.Proofs.YtbebhakffjpafaaDoor.Px

namespace Go.Proofs.YtbebhakffjpafaaDoor.Px
open Fig Go.RowKit Go.Proofs.YtbebhakffjpafaaDoorW.PrintWords Go.Proofs.YtbebhakffjpafaaDoorW.PrintLast Go.Proofs.YtbebhakffjpafaaDoorW.PrintMore
attribute [local go_sem] max2_int min2_int max_two min_two max_three min_three max_four min_four   -- for this text's walks alone

/-! ### mode_Away: function 9 -/
/-- which neighbour a way takes -/
def awayB (m : Int) (neg odd : Bool) (half : Int) : Bool :=
  if m = 0 then !neg else if m = 1 then neg else if m = 2 then true else if m = 3 then false else if m = 4 then decide (0 < half) || (half == 0 && odd) else if m = 5 then decide (0 ≤ half) else if m = 6 then decide (0 < half) else false
def mode_Away.f (m : Int) (neg odd : Bool) (half : Int) : Option Bool := some (awayB m neg odd half)
set_option maxHeartbeats 4000000 in
theorem mode_Away.calls (m : Int) (neg odd : Bool) (half : Int) (r : Bool) (w : World) (hG : Fig.Glob w) (h : mode_Away.f m neg odd half = some r) :
    Calls Tryd.prog 9 #[.int .i64 m, .bool neg, .bool odd, .int .i64 half] w fun e w' => e = .returned (.bool r) ∧ Drawn0 w w' := by
  obtain rfl := Option.some.inj h
  clear h
  have h0 := hG.ways 0 _ rfl
  have h1 := hG.ways 1 _ rfl
  have h2 := hG.ways 2 _ rfl
  have h3 := hG.ways 3 _ rfl
  have h4 := hG.ways 4 _ rfl
  have h5 := hG.ways 5 _ rfl
  have h6 := hG.ways 6 _ rfl
  have h7 := hG.ways 7 _ rfl
  clear hG
  by_cases hm : 0 ≤ m ∧ m < 8
  · obtain ⟨k, rfl⟩ : ∃ k : Nat, m = k := ⟨m.toNat, by omega⟩
    have hk : k < 8 := by omega
    clear hm
    match k, hk with
    | 0, _ =>
      clear h1 h2 h3 h4 h5 h6 h7
      go_enter Tryd.func9, Tryd.ntmps9
      go_wp2
      go_ret
      exact ⟨by simp [awayB], Drawn0.refl _⟩
    | 1, _ =>
      clear h0 h2 h3 h4 h5 h6 h7
      go_enter Tryd.func9, Tryd.ntmps9
      go_wp2
      go_ret
      exact ⟨by simp [awayB], Drawn0.refl _⟩
    | 2, _ =>
      clear h0 h1 h3 h4 h5 h6 h7
      go_enter Tryd.func9, Tryd.ntmps9
      go_wp2
      go_ret
      exact ⟨by simp [awayB], Drawn0.refl _⟩
    | 3, _ =>
      clear h0 h1 h2 h4 h5 h6 h7
      go_enter Tryd.func9, Tryd.ntmps9
      go_wp2
      go_ret
      exact ⟨by simp [awayB], Drawn0.refl _⟩
    | 4, _ =>
      clear h0 h1 h2 h3 h5 h6 h7
      by_cases hp : 0 < half
      · have d1 : decide (0 < half) = true := decide_eq_true hp
        go_enter Tryd.func9, Tryd.ntmps9
        go_wp2
        go_ret
        exact ⟨by simp [awayB, hp], Drawn0.refl _⟩
      · have d1 : decide (0 < half) = false := decide_eq_false hp
        by_cases hz : half = 0
        · have d2 : (half == 0) = true := by simp [hz]
          go_enter Tryd.func9, Tryd.ntmps9
          go_wp2
          go_ret
          exact ⟨by simp [awayB, hz], Drawn0.refl _⟩
        · have d2 : (half == 0) = false := by simp [hz]
          go_enter Tryd.func9, Tryd.ntmps9
          go_wp2
          go_ret
          exact ⟨by simp [awayB, hp, hz], Drawn0.refl _⟩
    | 5, _ =>
      clear h0 h1 h2 h3 h4 h6 h7
      go_enter Tryd.func9, Tryd.ntmps9
      go_wp2
      go_ret
      exact ⟨by simp [awayB], Drawn0.refl _⟩
    | 6, _ =>
      clear h0 h1 h2 h3 h4 h5 h7
      go_enter Tryd.func9, Tryd.ntmps9
      go_wp2
      go_ret
      exact ⟨by simp [awayB], Drawn0.refl _⟩
    | 7, _ =>
      clear h0 h1 h2 h3 h4 h5 h6
      go_enter Tryd.func9, Tryd.ntmps9
      go_wp2
      go_ret
      exact ⟨by simp [awayB], Drawn0.refl _⟩
    | n + 8, hk => exact absurd hk (by omega)
  · clear h0 h1 h2 h3 h4 h5 h6 h7
    have hz : awayB m neg odd half = false := by unfold awayB; repeat (rw [if_neg (by omega)])
    rw [hz]
    by_cases h0 : 0 ≤ m
    · have d1 : decide (0 ≤ m) = true := decide_eq_true h0
      have d2 : decide (m < 8) = false := decide_eq_false (by omega)
      go_enter Tryd.func9, Tryd.ntmps9
      go_wp2
      go_ret
      exact ⟨rfl, Drawn0.refl _⟩
    · have d1 : decide (0 ≤ m) = false := decide_eq_false h0
      go_enter Tryd.func9, Tryd.ntmps9
      go_wp2
      go_ret
      exact ⟨rfl, Drawn0.refl _⟩

end Go.Proofs.YtbebhakffjpafaaDoor.Px

namespace Go.Proofs.YtbebhakffjpafaaDoor.Px
open Fig Go.RowKit Go.Proofs.YtbebhakffjpafaaDoorW.PrintWords Go.Proofs.YtbebhakffjpafaaDoorW.PrintLast Go.Proofs.YtbebhakffjpafaaDoorW.PrintMore
attribute [local go_sem] max2_int min2_int max_two min_two max_three min_three max_four min_four   -- for this text's walks alone

/-! ### figureheadlaw07_answers: function 7 -/
def figureheadlaw07_answers.f  : Option (Bool) := (mode_Good.f 7).bind fun t101 => (if t101 = true then ((mode_Good.f 8).bind fun t102 => (if t102 = true then (some false) else ((mode_Away.f 2 false false (-1)).bind fun t103 => (if t103 = true then ((mode_Away.f 4 false false 0).bind fun t104 => (if t104 = true then (some false) else ((mode_Away.f 4 false true 0).bind fun t105 => (some t105)))) else (some false))))) else (some false))
set_option maxHeartbeats 8000000 in
set_option maxRecDepth 100000 in
theorem figureheadlaw07_answers.calls  (r : Bool) (w : World) (hG : Fig.Glob w) (HT : Aside0 (r = true)) (h : figureheadlaw07_answers.f  = some r) :
    Calls Tryd.prog 7 #[] w fun e w' => e = .returned (.bool r) ∧ Drawn0 w w' := by
  have HG := Aside0.mk hG
  clear hG
  have H : ((mode_Good.f 7).bind fun t101 => (if t101 = true then ((mode_Good.f 8).bind fun t102 => (if t102 = true then (some false) else ((mode_Away.f 2 false false (-1)).bind fun t103 => (if t103 = true then ((mode_Away.f 4 false false 0).bind fun t104 => (if t104 = true then (some false) else ((mode_Away.f 4 false true 0).bind fun t105 => (some t105)))) else (some false))))) else (some false))) = some r := h
  clear h
  replace H := Option.bind_eq_some_iff.mp H
  obtain ⟨t101, A10, H⟩ := H
  replace H : (if t101 = true then ((mode_Good.f 8).bind fun t102 => (if t102 = true then (some false) else ((mode_Away.f 2 false false (-1)).bind fun t103 => (if t103 = true then ((mode_Away.f 4 false false 0).bind fun t104 => (if t104 = true then (some false) else ((mode_Away.f 4 false true 0).bind fun t105 => (some t105)))) else (some false))))) else (some false)) = some r := H
  have A1 := Aside0.mk A10
  clear A10
  by_cases c2 : t101 = true
  · subst c2
    have H1 : ((mode_Good.f 8).bind fun t102 => (if t102 = true then (some false) else ((mode_Away.f 2 false false (-1)).bind fun t103 => (if t103 = true then ((mode_Away.f 4 false false 0).bind fun t104 => (if t104 = true then (some false) else ((mode_Away.f 4 false true 0).bind fun t105 => (some t105)))) else (some false))))) = some r := by rw [if_pos rfl] at H; exact H
    clear H
    have H := H1
    clear H1
    replace H := Option.bind_eq_some_iff.mp H
    obtain ⟨t102, A30, H⟩ := H
    replace H : (if t102 = true then (some false) else ((mode_Away.f 2 false false (-1)).bind fun t103 => (if t103 = true then ((mode_Away.f 4 false false 0).bind fun t104 => (if t104 = true then (some false) else ((mode_Away.f 4 false true 0).bind fun t105 => (some t105)))) else (some false)))) = some r := H
    have A3 := Aside0.mk A30
    clear A30
    by_cases c4 : t102 = true
    · subst c4
      have H1 : (some false) = some r := by rw [if_pos rfl] at H; exact H
      clear H
      have H := H1
      clear H1
      exact absurd ((Option.some.inj H).trans HT.out) (by decide)
    · replace c4 := Bool.eq_false_iff.mpr c4
      subst c4
      have H1 : ((mode_Away.f 2 false false (-1)).bind fun t103 => (if t103 = true then ((mode_Away.f 4 false false 0).bind fun t104 => (if t104 = true then (some false) else ((mode_Away.f 4 false true 0).bind fun t105 => (some t105)))) else (some false))) = some r := by rw [if_neg (show ¬ (false = true) by decide)] at H; exact H
      clear H
      have H := H1
      clear H1
      replace H := Option.bind_eq_some_iff.mp H
      obtain ⟨t103, A50, H⟩ := H
      replace H : (if t103 = true then ((mode_Away.f 4 false false 0).bind fun t104 => (if t104 = true then (some false) else ((mode_Away.f 4 false true 0).bind fun t105 => (some t105)))) else (some false)) = some r := H
      have A5 := Aside0.mk A50
      clear A50
      by_cases c6 : t103 = true
      · subst c6
        have H1 : ((mode_Away.f 4 false false 0).bind fun t104 => (if t104 = true then (some false) else ((mode_Away.f 4 false true 0).bind fun t105 => (some t105)))) = some r := by rw [if_pos rfl] at H; exact H
        clear H
        have H := H1
        clear H1
        replace H := Option.bind_eq_some_iff.mp H
        obtain ⟨t104, A70, H⟩ := H
        replace H : (if t104 = true then (some false) else ((mode_Away.f 4 false true 0).bind fun t105 => (some t105))) = some r := H
        have A7 := Aside0.mk A70
        clear A70
        by_cases c8 : t104 = true
        · subst c8
          have H1 : (some false) = some r := by rw [if_pos rfl] at H; exact H
          clear H
          have H := H1
          clear H1
          exact absurd ((Option.some.inj H).trans HT.out) (by decide)
        · replace c8 := Bool.eq_false_iff.mpr c8
          subst c8
          have H1 : ((mode_Away.f 4 false true 0).bind fun t105 => (some t105)) = some r := by rw [if_neg (show ¬ (false = true) by decide)] at H; exact H
          clear H
          have H := H1
          clear H1
          replace H := Option.bind_eq_some_iff.mp H
          obtain ⟨t105, A90, H⟩ := H
          replace H : (some t105) = some r := H
          have A9 := Aside0.mk A90
          clear A90
          obtain rfl := Option.some.inj H
          go_enter Tryd.func7, Tryd.ntmps7
          go_wp2_with (first | ((with_reducible refine gate_callee (f := 8) rfl ?_); refine goesL_ (some 1) rfl rfl Tryd.func8 (by kernel_rfl) rfl #[.int .i64 7] rfl (by (try simp only [List.map_toArray, List.map_cons, List.map_nil]); first | done | rfl | (simp only [List.length_drop, List.length_take]; rfl)) ?_; (with_reducible refine (mode_Good.calls 7 true _ A1.out).mono ?_); rintro e w' ⟨rfl, ⟨nd, rfl⟩⟩; refine ⟨_, rfl, ?_⟩) | ((with_reducible refine gate_dst (N := 3) rfl ?_); (refine gate_guard (by rfl) ?_; dsimp only); (with_reducible refine gate_callee (f := 8) rfl ?_); refine goesL_ (some 3) rfl rfl Tryd.func8 (by kernel_rfl) rfl #[.int .i64 8] rfl (by (try simp only [List.map_toArray, List.map_cons, List.map_nil]); first | done | rfl | (simp only [List.length_drop, List.length_take]; rfl)) ?_; (with_reducible refine (mode_Good.calls 8 false _ A3.out).mono ?_); rintro e w' ⟨rfl, ⟨nd, rfl⟩⟩; refine ⟨_, rfl, ?_⟩) | ((with_reducible refine gate_dst (N := 7) rfl ?_); (refine gate_guard (by rfl) ?_; dsimp only); (with_reducible refine gate_callee (f := 9) rfl ?_); refine goesL_ (some 7) rfl rfl Tryd.func9 (by kernel_rfl) rfl #[.int .i64 2, .bool false, .bool false, .int .i64 (-1)] rfl (by (try simp only [List.map_toArray, List.map_cons, List.map_nil]); first | done | rfl | (simp only [List.length_drop, List.length_take]; rfl)) ?_; (with_reducible refine (mode_Away.calls 2 false false (-1) true _ ?side1 A5.out).mono ?_); (case side1 => repeat (first | exact HG.out | apply Fig.Glob.drewN | apply Fig.Glob.drew)); rintro e w' ⟨rfl, ⟨nd, rfl⟩⟩; refine ⟨_, rfl, ?_⟩) | ((with_reducible refine gate_dst (N := 10) rfl ?_); (refine gate_guard (by rfl) ?_; dsimp only); (with_reducible refine gate_callee (f := 9) rfl ?_); refine goesL_ (some 10) rfl rfl Tryd.func9 (by kernel_rfl) rfl #[.int .i64 4, .bool false, .bool false, .int .i64 0] rfl (by (try simp only [List.map_toArray, List.map_cons, List.map_nil]); first | done | rfl | (simp only [List.length_drop, List.length_take]; rfl)) ?_; (with_reducible refine (mode_Away.calls 4 false false 0 false _ ?side1 A7.out).mono ?_); (case side1 => repeat (first | exact HG.out | apply Fig.Glob.drewN | apply Fig.Glob.drew)); rintro e w' ⟨rfl, ⟨nd, rfl⟩⟩; refine ⟨_, rfl, ?_⟩) | ((with_reducible refine gate_dst (N := 14) rfl ?_); (refine gate_guard (by rfl) ?_; dsimp only); (with_reducible refine gate_callee (f := 9) rfl ?_); refine goesL_ (some 14) rfl rfl Tryd.func9 (by kernel_rfl) rfl #[.int .i64 4, .bool false, .bool true, .int .i64 0] rfl (by (try simp only [List.map_toArray, List.map_cons, List.map_nil]); first | done | rfl | (simp only [List.length_drop, List.length_take]; rfl)) ?_; (with_reducible refine (mode_Away.calls 4 false true 0 t105 _ ?side1 A9.out).mono ?_); (case side1 => repeat (first | exact HG.out | apply Fig.Glob.drewN | apply Fig.Glob.drew)); rintro e w' ⟨rfl, ⟨nd, rfl⟩⟩; refine ⟨_, rfl, ?_⟩))
          go_ret
          exact ⟨by first | rfl | (simp; done) | (simp [*]; done), by repeat (first | exact Drawn0.refl _ | apply Drawn0.step)⟩
      · replace c6 := Bool.eq_false_iff.mpr c6
        subst c6
        have H1 : (some false) = some r := by rw [if_neg (show ¬ (false = true) by decide)] at H; exact H
        clear H
        have H := H1
        clear H1
        exact absurd ((Option.some.inj H).trans HT.out) (by decide)
  · replace c2 := Bool.eq_false_iff.mpr c2
    subst c2
    have H1 : (some false) = some r := by rw [if_neg (show ¬ (false = true) by decide)] at H; exact H
    clear H
    have H := H1
    clear H1
    exact absurd ((Option.some.inj H).trans HT.out) (by decide)

end Go.Proofs.YtbebhakffjpafaaDoor.Px

namespace Go.Proofs.YtbebhakffjpafaaDoor.Px
open Fig Go.RowKit Go.Proofs.YtbebhakffjpafaaDoorW.PrintWords Go.Proofs.YtbebhakffjpafaaDoorW.PrintLast Go.Proofs.YtbebhakffjpafaaDoorW.PrintMore
attribute [local go_sem] max2_int min2_int max_two min_two max_three min_three max_four min_four   -- for this text's walks alone

/-! ### figureheadref05_Up: function 10 -/
def figureheadref05_Up.f (a0 : Int) (a1 : Bool) (a2 : Bool) (a3 : Int) : Option (Bool) := if a0 = 0 then (some (!a1)) else (if a0 = 1 then (some a1) else (if a0 = 2 then (some true) else (if a0 = 4 then (if a3 > 0 then (some true) else (if a3 = 0 then (some a2) else (some false))) else (if a0 = 5 then (some (decide (a3 ≥ 0))) else (if a0 = 6 then (some (decide (a3 > 0))) else (some false))))))
set_option maxHeartbeats 8000000 in
set_option maxRecDepth 100000 in
theorem figureheadref05_Up.calls (a0 : Int) (a1 : Bool) (a2 : Bool) (a3 : Int) (r : Bool) (w : World) (h : figureheadref05_Up.f a0 a1 a2 a3 = some r) :
    Calls Tryd.prog 10 #[.int .i64 a0, .bool a1, .bool a2, .int .i64 a3] w fun e w' => e = .returned (.bool r) ∧ Drawn0 w w' := by
  have H : (if a0 = 0 then (some (!a1)) else (if a0 = 1 then (some a1) else (if a0 = 2 then (some true) else (if a0 = 4 then (if a3 > 0 then (some true) else (if a3 = 0 then (some a2) else (some false))) else (if a0 = 5 then (some (decide (a3 ≥ 0))) else (if a0 = 6 then (some (decide (a3 > 0))) else (some false))))))) = some r := h
  clear h
  by_cases c5 : a0 = 0
  · rw [if_pos c5] at H
    have c5b0 : (a0 == 0) = true := beq_iff_eq.mpr c5
    have c5b1 : (a0 != 0) = false := bne_eq_false_iff_eq.mpr c5
    clear c5
    obtain rfl := Option.some.inj H
    go_enter Tryd.func10, Tryd.ntmps10
    go_wp2
    go_ret
    exact ⟨by first | rfl | (simp; done) | (simp [*]; done), by repeat (first | exact Drawn0.refl _ | apply Drawn0.step)⟩
  · rw [if_neg c5] at H
    have c5b0 : (a0 == 0) = false := beq_eq_false_iff_ne.mpr c5
    have c5b1 : (a0 != 0) = true := bne_iff_ne.mpr c5
    by_cases c6 : a0 = 1
    · rw [if_pos c6] at H
      have c6b0 : (a0 == 1) = true := beq_iff_eq.mpr c6
      have c6b1 : (a0 != 1) = false := bne_eq_false_iff_eq.mpr c6
      clear c6
      obtain rfl := Option.some.inj H
      go_enter Tryd.func10, Tryd.ntmps10
      go_wp2
      go_ret
      exact ⟨by first | rfl | (simp; done) | (simp [*]; done), by repeat (first | exact Drawn0.refl _ | apply Drawn0.step)⟩
    · rw [if_neg c6] at H
      have c6b0 : (a0 == 1) = false := beq_eq_false_iff_ne.mpr c6
      have c6b1 : (a0 != 1) = true := bne_iff_ne.mpr c6
      by_cases c7 : a0 = 2
      · rw [if_pos c7] at H
        have c7b0 : (a0 == 2) = true := beq_iff_eq.mpr c7
        have c7b1 : (a0 != 2) = false := bne_eq_false_iff_eq.mpr c7
        clear c7
        obtain rfl := Option.some.inj H
        go_enter Tryd.func10, Tryd.ntmps10
        go_wp2
        go_ret
        exact ⟨by first | rfl | (simp; done) | (simp [*]; done), by repeat (first | exact Drawn0.refl _ | apply Drawn0.step)⟩
      · rw [if_neg c7] at H
        have c7b0 : (a0 == 2) = false := beq_eq_false_iff_ne.mpr c7
        have c7b1 : (a0 != 2) = true := bne_iff_ne.mpr c7
        by_cases c8 : a0 = 4
        · rw [if_pos c8] at H
          have c8b0 : (a0 == 4) = true := beq_iff_eq.mpr c8
          have c8b1 : (a0 != 4) = false := bne_eq_false_iff_eq.mpr c8
          clear c8
          by_cases c9 : a3 > 0
          · rw [if_pos c9] at H
            have c9b0 : decide (0 < a3) = true := decide_eq_true c9
            clear c9
            obtain rfl := Option.some.inj H
            go_enter Tryd.func10, Tryd.ntmps10
            go_wp2
            go_ret
            exact ⟨by first | rfl | (simp; done) | (simp [*]; done), by repeat (first | exact Drawn0.refl _ | apply Drawn0.step)⟩
          · rw [if_neg c9] at H
            have c9b0 : decide (0 < a3) = false := decide_eq_false c9
            clear c9
            by_cases c10 : a3 = 0
            · rw [if_pos c10] at H
              have c10b0 : (a3 == 0) = true := beq_iff_eq.mpr c10
              have c10b1 : (a3 != 0) = false := bne_eq_false_iff_eq.mpr c10
              clear c10
              obtain rfl := Option.some.inj H
              go_enter Tryd.func10, Tryd.ntmps10
              go_wp2
              go_ret
              exact ⟨by first | rfl | (simp; done) | (simp [*]; done), by repeat (first | exact Drawn0.refl _ | apply Drawn0.step)⟩
            · rw [if_neg c10] at H
              have c10b0 : (a3 == 0) = false := beq_eq_false_iff_ne.mpr c10
              have c10b1 : (a3 != 0) = true := bne_iff_ne.mpr c10
              obtain rfl := Option.some.inj H
              go_enter Tryd.func10, Tryd.ntmps10
              go_wp2
              go_ret
              exact ⟨by first | rfl | (simp; done) | (simp [*]; done), by repeat (first | exact Drawn0.refl _ | apply Drawn0.step)⟩
        · rw [if_neg c8] at H
          have c8b0 : (a0 == 4) = false := beq_eq_false_iff_ne.mpr c8
          have c8b1 : (a0 != 4) = true := bne_iff_ne.mpr c8
          by_cases c11 : a0 = 5
          · rw [if_pos c11] at H
            have c11b0 : (a0 == 5) = true := beq_iff_eq.mpr c11
            have c11b1 : (a0 != 5) = false := bne_eq_false_iff_eq.mpr c11
            clear c11
            obtain rfl := Option.some.inj H
            go_enter Tryd.func10, Tryd.ntmps10
            go_wp2
            go_ret
            exact ⟨by first | rfl | (simp; done) | (simp [*]; done), by repeat (first | exact Drawn0.refl _ | apply Drawn0.step)⟩
          · rw [if_neg c11] at H
            have c11b0 : (a0 == 5) = false := beq_eq_false_iff_ne.mpr c11
            have c11b1 : (a0 != 5) = true := bne_iff_ne.mpr c11
            by_cases c12 : a0 = 6
            · rw [if_pos c12] at H
              have c12b0 : (a0 == 6) = true := beq_iff_eq.mpr c12
              have c12b1 : (a0 != 6) = false := bne_eq_false_iff_eq.mpr c12
              clear c12
              obtain rfl := Option.some.inj H
              go_enter Tryd.func10, Tryd.ntmps10
              go_wp2
              go_ret
              exact ⟨by first | rfl | (simp; done) | (simp [*]; done), by repeat (first | exact Drawn0.refl _ | apply Drawn0.step)⟩
            · rw [if_neg c12] at H
              have c12b0 : (a0 == 6) = false := beq_eq_false_iff_ne.mpr c12
              have c12b1 : (a0 != 6) = true := bne_iff_ne.mpr c12
              obtain rfl := Option.some.inj H
              go_enter Tryd.func10, Tryd.ntmps10
              go_wp2
              go_ret
              exact ⟨by first | rfl | (simp; done) | (simp [*]; done), by repeat (first | exact Drawn0.refl _ | apply Drawn0.step)⟩

end Go.Proofs.YtbebhakffjpafaaDoor.Px

namespace Go.Proofs.YtbebhakffjpafaaDoor.Px
open Fig Go.RowKit Go.Proofs.YtbebhakffjpafaaDoorW.PrintWords Go.Proofs.YtbebhakffjpafaaDoorW.PrintLast Go.Proofs.YtbebhakffjpafaaDoorW.PrintMore
attribute [local go_sem] max2_int min2_int max_two min_two max_three min_three max_four min_four   -- for this text's walks alone

/-! ### figureheadlaw07_ModeAways: function 3 -/
def figureheadlaw07_ModeAways.f (a0 : Int) (a1 : Bool) (a2 : Bool) (a3 : Int) : Option (Bool) := (figureheadlaw07_answers.f).bind fun t106 => (if t106 = true then ((mode_Good.f a0).bind fun t107 => (if a0 ≥ 0 then (if (t107 == (decide (a0 ≤ 7))) = true then ((mode_Away.f a0 a1 a2 a3).bind fun t108 => ((figureheadref05_Up.f a0 a1 a2 a3).bind fun t109 => (some (t108 == t109)))) else (some false)) else (if (t107 == false) = true then ((mode_Away.f a0 a1 a2 a3).bind fun t110 => ((figureheadref05_Up.f a0 a1 a2 a3).bind fun t111 => (some (t110 == t111)))) else (some false)))) else (some false))
set_option maxHeartbeats 8000000 in
set_option maxRecDepth 100000 in
theorem figureheadlaw07_ModeAways.calls (a0 : Int) (a1 : Bool) (a2 : Bool) (a3 : Int) (r : Bool) (w : World) (hG : Fig.Glob w) (HT : Aside0 (r = true)) (h : figureheadlaw07_ModeAways.f a0 a1 a2 a3 = some r) :
    Calls Tryd.prog 3 #[.int .i64 a0, .bool a1, .bool a2, .int .i64 a3] w fun e w' => e = .returned (.bool r) ∧ Drawn0 w w' := by
  have HG := Aside0.mk hG
  clear hG
  have H : ((figureheadlaw07_answers.f).bind fun t106 => (if t106 = true then ((mode_Good.f a0).bind fun t107 => (if a0 ≥ 0 then (if (t107 == (decide (a0 ≤ 7))) = true then ((mode_Away.f a0 a1 a2 a3).bind fun t108 => ((figureheadref05_Up.f a0 a1 a2 a3).bind fun t109 => (some (t108 == t109)))) else (some false)) else (if (t107 == false) = true then ((mode_Away.f a0 a1 a2 a3).bind fun t110 => ((figureheadref05_Up.f a0 a1 a2 a3).bind fun t111 => (some (t110 == t111)))) else (some false)))) else (some false))) = some r := h
  clear h
  replace H := Option.bind_eq_some_iff.mp H
  obtain ⟨t106, A50, H⟩ := H
  replace H : (if t106 = true then ((mode_Good.f a0).bind fun t107 => (if a0 ≥ 0 then (if (t107 == (decide (a0 ≤ 7))) = true then ((mode_Away.f a0 a1 a2 a3).bind fun t108 => ((figureheadref05_Up.f a0 a1 a2 a3).bind fun t109 => (some (t108 == t109)))) else (some false)) else (if (t107 == false) = true then ((mode_Away.f a0 a1 a2 a3).bind fun t110 => ((figureheadref05_Up.f a0 a1 a2 a3).bind fun t111 => (some (t110 == t111)))) else (some false)))) else (some false)) = some r := H
  have A5 := Aside0.mk A50
  clear A50
  by_cases c6 : t106 = true
  · subst c6
    have H1 : ((mode_Good.f a0).bind fun t107 => (if a0 ≥ 0 then (if (t107 == (decide (a0 ≤ 7))) = true then ((mode_Away.f a0 a1 a2 a3).bind fun t108 => ((figureheadref05_Up.f a0 a1 a2 a3).bind fun t109 => (some (t108 == t109)))) else (some false)) else (if (t107 == false) = true then ((mode_Away.f a0 a1 a2 a3).bind fun t110 => ((figureheadref05_Up.f a0 a1 a2 a3).bind fun t111 => (some (t110 == t111)))) else (some false)))) = some r := by rw [if_pos rfl] at H; exact H
    clear H
    have H := H1
    clear H1
    replace H := Option.bind_eq_some_iff.mp H
    obtain ⟨t107, A70, H⟩ := H
    replace H : (if a0 ≥ 0 then (if (t107 == (decide (a0 ≤ 7))) = true then ((mode_Away.f a0 a1 a2 a3).bind fun t108 => ((figureheadref05_Up.f a0 a1 a2 a3).bind fun t109 => (some (t108 == t109)))) else (some false)) else (if (t107 == false) = true then ((mode_Away.f a0 a1 a2 a3).bind fun t110 => ((figureheadref05_Up.f a0 a1 a2 a3).bind fun t111 => (some (t110 == t111)))) else (some false))) = some r := H
    have A7 := Aside0.mk A70
    clear A70
    by_cases c8 : a0 ≥ 0
    · rw [if_pos c8] at H
      have c8b0 : decide (0 ≤ a0) = true := decide_eq_true c8
      clear c8
      by_cases c9 : (t107 == (decide (a0 ≤ 7))) = true
      · rw [if_pos c9] at H
        have c9b0 : (t107 == (decide (a0 ≤ 7))) = true := c9
        (try (have c9b1 : decide (t107 = (decide (a0 ≤ 7))) = true := by simpa using c9))
        (try (have c9b2 : (t107 == (decide (a0 ≤ 7))) = true := by simpa using c9))
        clear c9
        replace H := Option.bind_eq_some_iff.mp H
        obtain ⟨t108, A100, H⟩ := H
        replace H : ((figureheadref05_Up.f a0 a1 a2 a3).bind fun t109 => (some (t108 == t109))) = some r := H
        have A10 := Aside0.mk A100
        clear A100
        replace H := Option.bind_eq_some_iff.mp H
        obtain ⟨t109, A110, H⟩ := H
        replace H : (some (t108 == t109)) = some r := H
        have A11 := Aside0.mk A110
        clear A110
        obtain rfl := Option.some.inj H
        go_enter Tryd.func3, Tryd.ntmps3
        go_wp2_with (first | ((with_reducible refine gate_callee (f := 7) rfl ?_); refine goesL_ (some 9) rfl rfl Tryd.func7 (by kernel_rfl) rfl #[] rfl (by (try simp only [List.map_toArray, List.map_cons, List.map_nil]); first | done | rfl | (simp only [List.length_drop, List.length_take]; rfl)) ?_; (with_reducible refine (figureheadlaw07_answers.calls  true _ ?side1 ?side2 A5.out).mono ?_); (case side1 => repeat (first | exact HG.out | apply Fig.Glob.drewN | apply Fig.Glob.drew)); (case side2 => exact ⟨by first | rfl | exact HT.out⟩); rintro e w' ⟨rfl, ⟨nd, rfl⟩⟩; refine ⟨_, rfl, ?_⟩) | ((with_reducible refine gate_dst (N := 12) rfl ?_); (refine gate_guard (by rfl) ?_; dsimp only); (with_reducible refine gate_callee (f := 8) rfl ?_); refine goesL_ (some 12) rfl rfl Tryd.func8 (by kernel_rfl) rfl #[.int .i64 a0] rfl (by (try simp only [List.map_toArray, List.map_cons, List.map_nil]); first | done | rfl | (simp only [List.length_drop, List.length_take]; rfl)) ?_; (with_reducible refine (mode_Good.calls a0 t107 _ A7.out).mono ?_); rintro e w' ⟨rfl, ⟨nd, rfl⟩⟩; refine ⟨_, rfl, ?_⟩) | ((with_reducible refine gate_dst (N := 26) rfl ?_); (refine gate_guard (by rfl) ?_; dsimp only); (with_reducible refine gate_callee (f := 9) rfl ?_); refine goesL_ (some 26) rfl rfl Tryd.func9 (by kernel_rfl) rfl #[.int .i64 a0, .bool a1, .bool a2, .int .i64 a3] rfl (by (try simp only [List.map_toArray, List.map_cons, List.map_nil]); first | done | rfl | (simp only [List.length_drop, List.length_take]; rfl)) ?_; (with_reducible refine (mode_Away.calls a0 a1 a2 a3 t108 _ ?side1 A10.out).mono ?_); (case side1 => repeat (first | exact HG.out | apply Fig.Glob.drewN | apply Fig.Glob.drew)); rintro e w' ⟨rfl, ⟨nd, rfl⟩⟩; refine ⟨_, rfl, ?_⟩) | ((with_reducible refine gate_dst (N := 31) rfl ?_); (refine gate_guard (by rfl) ?_; dsimp only); (with_reducible refine gate_callee (f := 10) rfl ?_); refine goesL_ (some 31) rfl rfl Tryd.func10 (by kernel_rfl) rfl #[.int .i64 a0, .bool a1, .bool a2, .int .i64 a3] rfl (by (try simp only [List.map_toArray, List.map_cons, List.map_nil]); first | done | rfl | (simp only [List.length_drop, List.length_take]; rfl)) ?_; (with_reducible refine (figureheadref05_Up.calls a0 a1 a2 a3 t109 _ A11.out).mono ?_); rintro e w' ⟨rfl, ⟨nd, rfl⟩⟩; refine ⟨_, rfl, ?_⟩))
        go_ret
        exact ⟨by first | rfl | (simp; done) | (simp [*]; done), by repeat (first | exact Drawn0.refl _ | apply Drawn0.step)⟩
      · rw [if_neg c9] at H
        have c9b0 : (t107 == (decide (a0 ≤ 7))) = false := by simpa using c9
        (try (have c9b1 : decide (t107 = (decide (a0 ≤ 7))) = false := by simpa using c9))
        (try (have c9b2 : (t107 == (decide (a0 ≤ 7))) = false := by simpa using c9))
        (try (have c9b3 : ¬ (t107 = (decide (a0 ≤ 7))) := by simpa using c9))
        clear c9
        exact absurd ((Option.some.inj H).trans HT.out) (by decide)
    · rw [if_neg c8] at H
      have c8b0 : decide (0 ≤ a0) = false := decide_eq_false c8
      clear c8
      by_cases c12 : (t107 == false) = true
      · rw [if_pos c12] at H
        have c12b0 : (t107 == false) = true := c12
        (try (have c12b1 : decide (t107 = false) = true := by simpa using c12))
        (try (have c12b2 : (t107 == false) = true := by simpa using c12))
        clear c12
        replace H := Option.bind_eq_some_iff.mp H
        obtain ⟨t110, A130, H⟩ := H
        replace H : ((figureheadref05_Up.f a0 a1 a2 a3).bind fun t111 => (some (t110 == t111))) = some r := H
        have A13 := Aside0.mk A130
        clear A130
        replace H := Option.bind_eq_some_iff.mp H
        obtain ⟨t111, A140, H⟩ := H
        replace H : (some (t110 == t111)) = some r := H
        have A14 := Aside0.mk A140
        clear A140
        obtain rfl := Option.some.inj H
        go_enter Tryd.func3, Tryd.ntmps3
        go_wp2_with (first | ((with_reducible refine gate_callee (f := 7) rfl ?_); refine goesL_ (some 9) rfl rfl Tryd.func7 (by kernel_rfl) rfl #[] rfl (by (try simp only [List.map_toArray, List.map_cons, List.map_nil]); first | done | rfl | (simp only [List.length_drop, List.length_take]; rfl)) ?_; (with_reducible refine (figureheadlaw07_answers.calls  true _ ?side1 ?side2 A5.out).mono ?_); (case side1 => repeat (first | exact HG.out | apply Fig.Glob.drewN | apply Fig.Glob.drew)); (case side2 => exact ⟨by first | rfl | exact HT.out⟩); rintro e w' ⟨rfl, ⟨nd, rfl⟩⟩; refine ⟨_, rfl, ?_⟩) | ((with_reducible refine gate_dst (N := 12) rfl ?_); (refine gate_guard (by rfl) ?_; dsimp only); (with_reducible refine gate_callee (f := 8) rfl ?_); refine goesL_ (some 12) rfl rfl Tryd.func8 (by kernel_rfl) rfl #[.int .i64 a0] rfl (by (try simp only [List.map_toArray, List.map_cons, List.map_nil]); first | done | rfl | (simp only [List.length_drop, List.length_take]; rfl)) ?_; (with_reducible refine (mode_Good.calls a0 t107 _ A7.out).mono ?_); rintro e w' ⟨rfl, ⟨nd, rfl⟩⟩; refine ⟨_, rfl, ?_⟩) | ((with_reducible refine gate_dst (N := 26) rfl ?_); (refine gate_guard (by rfl) ?_; dsimp only); (with_reducible refine gate_callee (f := 9) rfl ?_); refine goesL_ (some 26) rfl rfl Tryd.func9 (by kernel_rfl) rfl #[.int .i64 a0, .bool a1, .bool a2, .int .i64 a3] rfl (by (try simp only [List.map_toArray, List.map_cons, List.map_nil]); first | done | rfl | (simp only [List.length_drop, List.length_take]; rfl)) ?_; (with_reducible refine (mode_Away.calls a0 a1 a2 a3 t110 _ ?side1 A13.out).mono ?_); (case side1 => repeat (first | exact HG.out | apply Fig.Glob.drewN | apply Fig.Glob.drew)); rintro e w' ⟨rfl, ⟨nd, rfl⟩⟩; refine ⟨_, rfl, ?_⟩) | ((with_reducible refine gate_dst (N := 31) rfl ?_); (refine gate_guard (by rfl) ?_; dsimp only); (with_reducible refine gate_callee (f := 10) rfl ?_); refine goesL_ (some 31) rfl rfl Tryd.func10 (by kernel_rfl) rfl #[.int .i64 a0, .bool a1, .bool a2, .int .i64 a3] rfl (by (try simp only [List.map_toArray, List.map_cons, List.map_nil]); first | done | rfl | (simp only [List.length_drop, List.length_take]; rfl)) ?_; (with_reducible refine (figureheadref05_Up.calls a0 a1 a2 a3 t111 _ A14.out).mono ?_); rintro e w' ⟨rfl, ⟨nd, rfl⟩⟩; refine ⟨_, rfl, ?_⟩))
        go_ret
        exact ⟨by first | rfl | (simp; done) | (simp [*]; done), by repeat (first | exact Drawn0.refl _ | apply Drawn0.step)⟩
      · rw [if_neg c12] at H
        have c12b0 : (t107 == false) = false := by simpa using c12
        (try (have c12b1 : decide (t107 = false) = false := by simpa using c12))
        (try (have c12b2 : (t107 == false) = false := by simpa using c12))
        (try (have c12b3 : ¬ (t107 = false) := by simpa using c12))
        clear c12
        exact absurd ((Option.some.inj H).trans HT.out) (by decide)
  · replace c6 := Bool.eq_false_iff.mpr c6
    subst c6
    have H1 : (some false) = some r := by rw [if_neg (show ¬ (false = true) by decide)] at H; exact H
    clear H
    have H := H1
    clear H1
    exact absurd ((Option.some.inj H).trans HT.out) (by decide)

end Go.Proofs.YtbebhakffjpafaaDoor.Px

namespace Go.Proofs.YtbebhakffjpafaaDoor.Px
open Fig Go.RowKit Go.Proofs.YtbebhakffjpafaaDoorW.PrintWords Go.Proofs.YtbebhakffjpafaaDoorW.PrintLast Go.Proofs.YtbebhakffjpafaaDoorW.PrintMore
attribute [local go_sem] max2_int min2_int max_two min_two max_three min_three max_four min_four   -- for this text's walks alone

/-! plain facts: figureheadlaw07_answers -/
theorem answers07 : figureheadlaw07_answers.f = some true := by decide

end Go.Proofs.YtbebhakffjpafaaDoor.Px

namespace Go.Proofs.YtbebhakffjpafaaDoor.Px
open Fig Go.RowKit Go.Proofs.YtbebhakffjpafaaDoorW.PrintWords Go.Proofs.YtbebhakffjpafaaDoorW.PrintLast Go.Proofs.YtbebhakffjpafaaDoorW.PrintMore
attribute [local go_sem] max2_int min2_int max_two min_two max_three min_three max_four min_four   -- for this text's walks alone

/-! plain facts: figureheadref05_Up -/
theorem Up_eq (m : Int) (neg odd : Bool) (half : Int) : figureheadref05_Up.f m neg odd half = some (awayB m neg odd half) := by
  unfold figureheadref05_Up.f awayB
  by_cases h0 : m = 0 <;> by_cases h1 : m = 1 <;> by_cases h2 : m = 2 <;> by_cases h3 : m = 3 <;> by_cases h4 : m = 4 <;> by_cases h5 : m = 5 <;> by_cases h6 : m = 6 <;> simp_all
  by_cases hp : 0 < half
  · simp [hp]
  · by_cases hz : half = 0 <;> simp [hp, hz]

end Go.Proofs.YtbebhakffjpafaaDoor.Px

namespace Go.Proofs.YtbebhakffjpafaaDoor.Px
open Fig Go.RowKit Go.Proofs.YtbebhakffjpafaaDoorW.PrintWords Go.Proofs.YtbebhakffjpafaaDoorW.PrintLast Go.Proofs.YtbebhakffjpafaaDoorW.PrintMore
attribute [local go_sem] max2_int min2_int max_two min_two max_three min_three max_four min_four   -- for this text's walks alone

/-! plain facts: figureheadlaw07_ModeAways -/
theorem ModeAways_pure (a0 : Int) (a1 a2 : Bool) (a3 : Int) (w0 : (Lit.int .i64 a0).wf = true) (w3 : (Lit.int .i64 a3).wf = true) : figureheadlaw07_ModeAways.f a0 a1 a2 a3 = some true := by
  unfold figureheadlaw07_ModeAways.f
  rw [answers07]
  simp only [Option.bind_some, if_true, mode_Good.f, mode_Away.f, Up_eq, beq_self_eq_true]
  by_cases h : a0 ≥ 0
  · simp only [h, if_true, Option.bind_some]
    rw [show decide (a0 < 8) = decide (a0 ≤ 7) by rw [decide_eq_decide]; omega]
    simp
  · simp [h]

end Go.Proofs.YtbebhakffjpafaaDoor.Px
