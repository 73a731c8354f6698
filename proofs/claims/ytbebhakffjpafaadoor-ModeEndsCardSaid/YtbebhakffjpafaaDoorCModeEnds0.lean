/- The functions that the law ModeEnds reaches, told as plain functions, with what is proved of them (part 0). -/
import Derived.Test.YtbebhakffjpafaaDoorPx0
namespace Go.Proofs.YtbebhakffjpafaaDoor.Px
open Fig Go.RowKit Go.Proofs.YtbebhakffjpafaaDoorW.PrintWords Go.Proofs.YtbebhakffjpafaaDoorW.PrintLast Go.Proofs.YtbebhakffjpafaaDoorW.PrintMore
attribute [local go_sem] max2_int min2_int max_two min_two max_three min_three max_four min_four   -- for this text's walks alone

/-! ### mode_Away: function 9 -/
/-- which neighbour a way takes -/
def awayB (m : Int) (neg odd : Bool) (half : Int) : Bool :=
  if m = 0 then !neg else if m = 1 then neg else if m = 2 then true else if m = 3 then false else if m = 4 then decide (0 < half) || (half == 0 && odd) else if m = 5 then decide (0 ≤ half) else if m = 6 then decide (0 < half) else false
def mode_Away.f (m : Int) (neg odd : Bool) (half : Int) : Option Bool := some (awayB m neg odd half)
set_option maxHeartbeats 4000000 in
theorem mode_Away.calls (m : Int) (neg odd : Bool) (half : Int) (r : Bool) (w : World) (hG : Fig.Glob w) (h : mode_Away.f m neg odd half = some r) :
    Calls Tryd.prog 9 #[.int .i64 m, .bool neg, .bool odd, .int .i64 half] w fun e w' => e = .returned (.bool r) ∧ Drawn0 w w' := by
  obtain rfl := Option.some.inj h
  clear h
  have h0 := hG.ways 0 _ rfl
  have h1 := hG.ways 1 _ rfl
  have h2 := hG.ways 2 _ rfl
  have h3 := hG.ways 3 _ rfl
  have h4 := hG.ways 4 _ rfl
  have h5 := hG.ways 5 _ rfl
  have h6 := hG.ways 6 _ rfl
  have h7 := hG.ways 7 _ rfl
  clear hG
  by_cases hm : 0 ≤ m ∧ m < 8
  · obtain ⟨k, rfl⟩ : ∃ k : Nat, m = k := ⟨m.toNat, by omega⟩
    have hk : k < 8 := by omega
    clear hm
    match k, hk with
    | 0, _ =>
      clear h1 h2 h3 h4 h5 h6 h7
      go_enter Tryd.func9, Tryd.ntmps9
      go_wp2
      go_ret
      exact ⟨by simp [awayB], Drawn0.refl _⟩
    | 1, _ =>
      clear h0 h2 h3 h4 h5 h6 h7
      go_enter Tryd.func9, Tryd.ntmps9
      go_wp2
      go_ret
      exact ⟨by simp [awayB], Drawn0.refl _⟩
    | 2, _ =>
      clear h0 h1 h3 h4 h5 h6 h7
      go_enter Tryd.func9, Tryd.ntmps9
      go_wp2
      go_ret
      exact ⟨by simp [awayB], Drawn0.refl _⟩
    | 3, _ =>
      clear h0 h1 h2 h4 h5 h6 h7
      go_enter Tryd.func9, Tryd.ntmps9
      go_wp2
      go_ret
      exact ⟨by simp [awayB], Drawn0.refl _⟩
    | 4, _ =>
      clear h0 h1 h2 h3 h5 h6 h7
      by_cases hp : 0 < half
      · have d1 : decide (0 < half) = true := decide_eq_true hp
        go_enter Tryd.func9, Tryd.ntmps9
        go_wp2
        go_ret
        exact ⟨by simp [awayB, hp], Drawn0.refl _⟩
      · have d1 : decide (0 < half) = false := decide_eq_false hp
        by_cases hz : half = 0
        · have d2 : (half == 0) = true := by simp [hz]
          go_enter Tryd.func9, Tryd.ntmps9
          go_wp2
          go_ret
          exact ⟨by simp [awayB, hz], Drawn0.refl _⟩
        · have d2 : (half == 0) = false := by simp [hz]
          go_enter Tryd.func9, Tryd.ntmps9
          go_wp2
          go_ret
          exact ⟨by simp [awayB, hp, hz], Drawn0.refl _⟩
    | 5, _ =>
      clear h0 h1 h2 h3 h4 h6 h7
      go_enter Tryd.func9, Tryd.ntmps9
      go_wp2
      go_ret
      exact ⟨by simp [awayB], Drawn0.refl _⟩
    | 6, _ =>
      clear h0 h1 h2 h3 h4 h5 h7
      go_enter Tryd.func9, Tryd.ntmps9
      go_wp2
      go_ret
      exact ⟨by simp [awayB], Drawn0.refl _⟩
    | 7, _ =>
      clear h0 h1 h2 h3 h4 h5 h6
      go_enter Tryd.func9, Tryd.ntmps9
      go_wp2
      go_ret
      exact ⟨by simp [awayB], Drawn0.refl _⟩
    | n + 8, hk => exact absurd hk (by omega)
  · clear h0 h1 h2 h3 h4 h5 h6 h7
    have hz : awayB m neg odd half = false := by unfold awayB; repeat (rw [if_neg (by omega)])
    rw [hz]
    by_cases h0 : 0 ≤ m
    · have d1 : decide (0 ≤ m) = true := decide_eq_true h0
      have d2 : decide (m < 8) = false := decide_eq_false (by omega)
      go_enter Tryd.func9, Tryd.ntmps9
      go_wp2
      go_ret
      exact ⟨rfl, Drawn0.refl _⟩
    · have d1 : decide (0 ≤ m) = false := decide_eq_false h0
      go_enter Tryd.func9, Tryd.ntmps9
      go_wp2
      go_ret
      exact ⟨rfl, Drawn0.refl _⟩

end Go.Proofs.YtbebhakffjpafaaDoor.Px

namespace Go.Proofs.YtbebhakffjpafaaDoor.Px
open Fig Go.RowKit Go.Proofs.YtbebhakffjpafaaDoorW.PrintWords Go.Proofs.YtbebhakffjpafaaDoorW.PrintLast Go.Proofs.YtbebhakffjpafaaDoorW.PrintMore
attribute [local go_sem] max2_int min2_int max_two min_two max_three min_three max_four min_four   -- for this text's walks alone

/-! ### mode_Good: function 8 -/
def mode_Good.f (a0 : Int) : Option (Bool) := if a0 ≥ 0 then (some (decide (a0 < 8))) else (some false)
set_option maxHeartbeats 8000000 in
set_option maxRecDepth 100000 in
theorem mode_Good.calls (a0 : Int) (r : Bool) (w : World) (h : mode_Good.f a0 = some r) :
    Calls Tryd.prog 8 #[.int .i64 a0] w fun e w' => e = .returned (.bool r) ∧ Drawn0 w w' := by
  have H : (if a0 ≥ 0 then (some (decide (a0 < 8))) else (some false)) = some r := h
  clear h
  by_cases c2 : a0 ≥ 0
  · rw [if_pos c2] at H
    have c2b0 : decide (0 ≤ a0) = true := decide_eq_true c2
    clear c2
    obtain rfl := Option.some.inj H
    go_enter Tryd.func8, Tryd.ntmps8
    go_wp2
    go_ret
    exact ⟨by first | rfl | (simp; done) | (simp [*]; done), by repeat (first | exact Drawn0.refl _ | apply Drawn0.step)⟩
  · rw [if_neg c2] at H
    have c2b0 : decide (0 ≤ a0) = false := decide_eq_false c2
    clear c2
    obtain rfl := Option.some.inj H
    go_enter Tryd.func8, Tryd.ntmps8
    go_wp2
    go_ret
    exact ⟨by first | rfl | (simp; done) | (simp [*]; done), by repeat (first | exact Drawn0.refl _ | apply Drawn0.step)⟩

end Go.Proofs.YtbebhakffjpafaaDoor.Px

namespace Go.Proofs.YtbebhakffjpafaaDoor.Px
open Fig Go.RowKit Go.Proofs.YtbebhakffjpafaaDoorW.PrintWords Go.Proofs.YtbebhakffjpafaaDoorW.PrintLast Go.Proofs.YtbebhakffjpafaaDoorW.PrintMore
attribute [local go_sem] max2_int min2_int max_two min_two max_three min_three max_four min_four   -- for this text's walks alone

/-! ### figureheadlaw07_answers: function 7 -/
def figureheadlaw07_answers.f  : Option (Bool) := (mode_Good.f 7).bind fun t101 => (if t101 = true then ((mode_Good.f 8).bind fun t102 => (if t102 = true then (some false) else ((mode_Away.f 2 false false (-1)).bind fun t103 => (if t103 = true then ((mode_Away.f 4 false false 0).bind fun t104 => (if t104 = true then (some false) else ((mode_Away.f 4 false true 0).bind fun t105 => (some t105)))) else (some false))))) else (some false))
set_option maxHeartbeats 8000000 in
set_option maxRecDepth 100000 in
theorem figureheadlaw07_answers.calls  (r : Bool) (w : World) (hG : Fig.Glob w) (HT : Aside0 (r = true)) (h : figureheadlaw07_answers.f  = some r) :
    Calls Tryd.prog 7 #[] w fun e w' => e = .returned (.bool r) ∧ Drawn0 w w' := by
  have HG := Aside0.mk hG
  clear hG
  have H : ((mode_Good.f 7).bind fun t101 => (if t101 = true then ((mode_Good.f 8).bind fun t102 => (if t102 = true then (some false) else ((mode_Away.f 2 false false (-1)).bind fun t103 => (if t103 = true then ((mode_Away.f 4 false false 0).bind fun t104 => (if t104 = true then (some false) else ((mode_Away.f 4 false true 0).bind fun t105 => (some t105)))) else (some false))))) else (some false))) = some r := h
  clear h
  replace H := Option.bind_eq_some_iff.mp H
  obtain ⟨t101, A10, H⟩ := H
  replace H : (if t101 = true then ((mode_Good.f 8).bind fun t102 => (if t102 = true then (some false) else ((mode_Away.f 2 false false (-1)).bind fun t103 => (if t103 = true then ((mode_Away.f 4 false false 0).bind fun t104 => (if t104 = true then (some false) else ((mode_Away.f 4 false true 0).bind fun t105 => (some t105)))) else (some false))))) else (some false)) = some r := H
  have A1 := Aside0.mk A10
  clear A10
  by_cases c2 : t101 = true
  · subst c2
    have H1 : ((mode_Good.f 8).bind fun t102 => (if t102 = true then (some false) else ((mode_Away.f 2 false false (-1)).bind fun t103 => (if t103 = true then ((mode_Away.f 4 false false 0).bind fun t104 => (if t104 = true then (some false) else ((mode_Away.f 4 false true 0).bind fun t105 => (some t105)))) else (some false))))) = some r := by rw [if_pos rfl] at H; exact H
    clear H
    have H := H1
    clear H1
    replace H := Option.bind_eq_some_iff.mp H
    obtain ⟨t102, A30, H⟩ := H
    replace H : (if t102 = true then (some false) else ((mode_Away.f 2 false false (-1)).bind fun t103 => (if t103 = true then ((mode_Away.f 4 false false 0).bind fun t104 => (if t104 = true then (some false) else ((mode_Away.f 4 false true 0).bind fun t105 => (some t105)))) else (some false)))) = some r := H
    have A3 := Aside0.mk A30
    clear A30
    by_cases c4 : t102 = true
    · subst c4
      have H1 : (some false) = some r := by rw [if_pos rfl] at H; exact H
      clear H
      have H := H1
      clear H1
      exact absurd ((Option.some.inj H).trans HT.out) (by decide)
    · replace c4 := Bool.eq_false_iff.mpr c4
      subst c4
      have H1 : ((mode_Away.f 2 false false (-1)).bind fun t103 => (if t103 = true then ((mode_Away.f 4 false false 0).bind fun t104 => (if t104 = true then (some false) else ((mode_Away.f 4 false true 0).bind fun t105 => (some t105)))) else (some false))) = some r := by rw [if_neg (show ¬ (false = true) by decide)] at H; exact H
      clear H
      have H := H1
      clear H1
      replace H := Option.bind_eq_some_iff.mp H
      obtain ⟨t103, A50, H⟩ := H
      replace H : (if t103 = true then ((mode_Away.f 4 false false 0).bind fun t104 => (if t104 = true then (some false) else ((mode_Away.f 4 false true 0).bind fun t105 => (some t105)))) else (some false)) = some r := H
      have A5 := Aside0.mk A50
      clear A50
      by_cases c6 : t103 = true
      · subst c6
        have H1 : ((mode_Away.f 4 false false 0).bind fun t104 => (if t104 = true then (some false) else ((mode_Away.f 4 false true 0).bind fun t105 => (some t105)))) = some r := by rw [if_pos rfl] at H; exact H
        clear H
        have H := H1
        clear H1
        replace H := Option.bind_eq_some_iff.mp H
        obtain ⟨t104, A70, H⟩ := H
        replace H : (if t104 = true then (some false) else ((mode_Away.f 4 false true 0).bind fun t105 => (some t105))) = some r := H
        have A7 := Aside0.mk A70
        clear A70
        by_cases c8 : t104 = true
        · subst c8
          have H1 : (some false) = some r := by rw [if_pos rfl] at H; exact H
          clear H
          have H := H1
          clear H1
          exact absurd ((Option.some.inj H).trans HT.out) (by decide)
        · replace c8 := Bool.eq_false_iff.mpr c8
          subst c8
          have H1 : ((mode_Away.f 4 false true 0).bind fun t105 => (some t105)) = some r := by rw [if_neg (show ¬ (false = true) by decide)] at H; exact H
          clear H
          have H := H1
          clear H1
          replace H := Option.bind_eq_some_iff.mp H
          obtain ⟨t105, A90, H⟩ := H
          replace H : (some t105) = some r := H
          have A9 := Aside0.mk A90
          clear A90
          obtain rfl := Option.some.inj H
          go_enter Tryd.func7, Tryd.ntmps7
          go_wp2_with (first | ((with_reducible refine gate_callee (f := 8) rfl ?_); refine goesL_ (some 1) rfl rfl Tryd.func8 (by kernel_rfl) rfl #[.int .i64 7] rfl (by (try simp only [List.map_toArray, List.map_cons, List.map_nil]); first | done | rfl | (simp only [List.length_drop, List.length_take]; rfl)) ?_; (with_reducible refine (mode_Good.calls 7 true _ A1.out).mono ?_); rintro e w' ⟨rfl, ⟨nd, rfl⟩⟩; refine ⟨_, rfl, ?_⟩) | ((with_reducible refine gate_dst (N := 3) rfl ?_); (refine gate_guard (by rfl) ?_; dsimp only); (with_reducible refine gate_callee (f := 8) rfl ?_); refine goesL_ (some 3) rfl rfl Tryd.func8 (by kernel_rfl) rfl #[.int .i64 8] rfl (by (try simp only [List.map_toArray, List.map_cons, List.map_nil]); first | done | rfl | (simp only [List.length_drop, List.length_take]; rfl)) ?_; (with_reducible refine (mode_Good.calls 8 false _ A3.out).mono ?_); rintro e w' ⟨rfl, ⟨nd, rfl⟩⟩; refine ⟨_, rfl, ?_⟩) | ((with_reducible refine gate_dst (N := 7) rfl ?_); (refine gate_guard (by rfl) ?_; dsimp only); (with_reducible refine gate_callee (f := 9) rfl ?_); refine goesL_ (some 7) rfl rfl Tryd.func9 (by kernel_rfl) rfl #[.int .i64 2, .bool false, .bool false, .int .i64 (-1)] rfl (by (try simp only [List.map_toArray, List.map_cons, List.map_nil]); first | done | rfl | (simp only [List.length_drop, List.length_take]; rfl)) ?_; (with_reducible refine (mode_Away.calls 2 false false (-1) true _ ?side1 A5.out).mono ?_); (case side1 => repeat (first | exact HG.out | apply Fig.Glob.drewN | apply Fig.Glob.drew)); rintro e w' ⟨rfl, ⟨nd, rfl⟩⟩; refine ⟨_, rfl, ?_⟩) | ((with_reducible refine gate_dst (N := 10) rfl ?_); (refine gate_guard (by rfl) ?_; dsimp only); (with_reducible refine gate_callee (f := 9) rfl ?_); refine goesL_ (some 10) rfl rfl Tryd.func9 (by kernel_rfl) rfl #[.int .i64 4, .bool false, .bool false, .int .i64 0] rfl (by (try simp only [List.map_toArray, List.map_cons, List.map_nil]); first | done | rfl | (simp only [List.length_drop, List.length_take]; rfl)) ?_; (with_reducible refine (mode_Away.calls 4 false false 0 false _ ?side1 A7.out).mono ?_); (case side1 => repeat (first | exact HG.out | apply Fig.Glob.drewN | apply Fig.Glob.drew)); rintro e w' ⟨rfl, ⟨nd, rfl⟩⟩; refine ⟨_, rfl, ?_⟩) | ((with_reducible refine gate_dst (N := 14) rfl ?_); (refine gate_guard (by rfl) ?_; dsimp only); (with_reducible refine gate_callee (f := 9) rfl ?_); refine goesL_ (some 14) rfl rfl Tryd.func9 (by kernel_rfl) rfl #[.int .i64 4, .bool false, .bool true, .int .i64 0] rfl (by (try simp only [List.map_toArray, List.map_cons, List.map_nil]); first | done | rfl | (simp only [List.length_drop, List.length_take]; rfl)) ?_; (with_reducible refine (mode_Away.calls 4 false true 0 t105 _ ?side1 A9.out).mono ?_); (case side1 => repeat (first | exact HG.out | apply Fig.Glob.drewN | apply Fig.Glob.drew)); rintro e w' ⟨rfl, ⟨nd, rfl⟩⟩; refine ⟨_, rfl, ?_⟩))
          go_ret
          exact ⟨by first | rfl | (simp; done) | (simp [*]; done), by repeat (first | exact Drawn0.refl _ | apply Drawn0.step)⟩
      · replace c6 := Bool.eq_false_iff.mpr c6
        subst c6
        have H1 : (some false) = some r := by rw [if_neg (show ¬ (false = true) by decide)] at H; exact H
        clear H
        have H := H1
        clear H1
        exact absurd ((Option.some.inj H).trans HT.out) (by decide)
  · replace c2 := Bool.eq_false_iff.mpr c2
    subst c2
    have H1 : (some false) = some r := by rw [if_neg (show ¬ (false = true) by decide)] at H; exact H
    clear H
    have H := H1
    clear H1
    exact absurd ((Option.some.inj H).trans HT.out) (by decide)

end Go.Proofs.YtbebhakffjpafaaDoor.Px

namespace Go.Proofs.YtbebhakffjpafaaDoor.Px
open Fig Go.RowKit Go.Proofs.YtbebhakffjpafaaDoorW.PrintWords Go.Proofs.YtbebhakffjpafaaDoorW.PrintLast Go.Proofs.YtbebhakffjpafaaDoorW.PrintMore
attribute [local go_sem] max2_int min2_int max_two min_two max_three min_three max_four min_four   -- for this text's walks alone

/-! ### figureheadlaw07_ModeEnds: function 6 -/
def figureheadlaw07_ModeEnds.f (a0 : Bool) (a1 : Bool) (a2 : Int) : Option (Bool) := (figureheadlaw07_answers.f).bind fun t122 => (if t122 = true then ((mode_Away.f 2 a0 a1 a2).bind fun t123 => (if t123 = true then ((mode_Away.f 3 a0 a1 a2).bind fun t124 => (if t124 = true then (some false) else ((mode_Away.f 7 a0 a1 a2).bind fun t125 => (if t125 = true then (some false) else ((mode_Away.f 0 a0 a1 a2).bind fun t126 => ((mode_Away.f 1 a0 a1 a2).bind fun t127 => (if (t126 != t127) = true then ((mode_Away.f 5 a0 a1 a2).bind fun t128 => (if (t128 == (decide (a2 ≥ 0))) = true then ((mode_Away.f 6 a0 a1 a2).bind fun t129 => (if t129 = true then ((mode_Away.f 4 a0 a1 a2).bind fun t130 => (some t130)) else (some true))) else (some false))) else (some false)))))))) else (some false))) else (some false))
set_option maxHeartbeats 8000000 in
set_option maxRecDepth 100000 in
theorem figureheadlaw07_ModeEnds.calls (a0 : Bool) (a1 : Bool) (a2 : Int) (r : Bool) (w : World) (hG : Fig.Glob w) (HT : Aside0 (r = true)) (h : figureheadlaw07_ModeEnds.f a0 a1 a2 = some r) :
    Calls Tryd.prog 6 #[.bool a0, .bool a1, .int .i64 a2] w fun e w' => e = .returned (.bool r) ∧ Drawn0 w w' := by
  have HG := Aside0.mk hG
  clear hG
  have H : ((figureheadlaw07_answers.f).bind fun t122 => (if t122 = true then ((mode_Away.f 2 a0 a1 a2).bind fun t123 => (if t123 = true then ((mode_Away.f 3 a0 a1 a2).bind fun t124 => (if t124 = true then (some false) else ((mode_Away.f 7 a0 a1 a2).bind fun t125 => (if t125 = true then (some false) else ((mode_Away.f 0 a0 a1 a2).bind fun t126 => ((mode_Away.f 1 a0 a1 a2).bind fun t127 => (if (t126 != t127) = true then ((mode_Away.f 5 a0 a1 a2).bind fun t128 => (if (t128 == (decide (a2 ≥ 0))) = true then ((mode_Away.f 6 a0 a1 a2).bind fun t129 => (if t129 = true then ((mode_Away.f 4 a0 a1 a2).bind fun t130 => (some t130)) else (some true))) else (some false))) else (some false)))))))) else (some false))) else (some false))) = some r := h
  clear h
  replace H := Option.bind_eq_some_iff.mp H
  obtain ⟨t122, A40, H⟩ := H
  replace H : (if t122 = true then ((mode_Away.f 2 a0 a1 a2).bind fun t123 => (if t123 = true then ((mode_Away.f 3 a0 a1 a2).bind fun t124 => (if t124 = true then (some false) else ((mode_Away.f 7 a0 a1 a2).bind fun t125 => (if t125 = true then (some false) else ((mode_Away.f 0 a0 a1 a2).bind fun t126 => ((mode_Away.f 1 a0 a1 a2).bind fun t127 => (if (t126 != t127) = true then ((mode_Away.f 5 a0 a1 a2).bind fun t128 => (if (t128 == (decide (a2 ≥ 0))) = true then ((mode_Away.f 6 a0 a1 a2).bind fun t129 => (if t129 = true then ((mode_Away.f 4 a0 a1 a2).bind fun t130 => (some t130)) else (some true))) else (some false))) else (some false)))))))) else (some false))) else (some false)) = some r := H
  have A4 := Aside0.mk A40
  clear A40
  by_cases c5 : t122 = true
  · subst c5
    have H1 : ((mode_Away.f 2 a0 a1 a2).bind fun t123 => (if t123 = true then ((mode_Away.f 3 a0 a1 a2).bind fun t124 => (if t124 = true then (some false) else ((mode_Away.f 7 a0 a1 a2).bind fun t125 => (if t125 = true then (some false) else ((mode_Away.f 0 a0 a1 a2).bind fun t126 => ((mode_Away.f 1 a0 a1 a2).bind fun t127 => (if (t126 != t127) = true then ((mode_Away.f 5 a0 a1 a2).bind fun t128 => (if (t128 == (decide (a2 ≥ 0))) = true then ((mode_Away.f 6 a0 a1 a2).bind fun t129 => (if t129 = true then ((mode_Away.f 4 a0 a1 a2).bind fun t130 => (some t130)) else (some true))) else (some false))) else (some false)))))))) else (some false))) = some r := by rw [if_pos rfl] at H; exact H
    clear H
    have H := H1
    clear H1
    replace H := Option.bind_eq_some_iff.mp H
    obtain ⟨t123, A60, H⟩ := H
    replace H : (if t123 = true then ((mode_Away.f 3 a0 a1 a2).bind fun t124 => (if t124 = true then (some false) else ((mode_Away.f 7 a0 a1 a2).bind fun t125 => (if t125 = true then (some false) else ((mode_Away.f 0 a0 a1 a2).bind fun t126 => ((mode_Away.f 1 a0 a1 a2).bind fun t127 => (if (t126 != t127) = true then ((mode_Away.f 5 a0 a1 a2).bind fun t128 => (if (t128 == (decide (a2 ≥ 0))) = true then ((mode_Away.f 6 a0 a1 a2).bind fun t129 => (if t129 = true then ((mode_Away.f 4 a0 a1 a2).bind fun t130 => (some t130)) else (some true))) else (some false))) else (some false)))))))) else (some false)) = some r := H
    have A6 := Aside0.mk A60
    clear A60
    by_cases c7 : t123 = true
    · subst c7
      have H1 : ((mode_Away.f 3 a0 a1 a2).bind fun t124 => (if t124 = true then (some false) else ((mode_Away.f 7 a0 a1 a2).bind fun t125 => (if t125 = true then (some false) else ((mode_Away.f 0 a0 a1 a2).bind fun t126 => ((mode_Away.f 1 a0 a1 a2).bind fun t127 => (if (t126 != t127) = true then ((mode_Away.f 5 a0 a1 a2).bind fun t128 => (if (t128 == (decide (a2 ≥ 0))) = true then ((mode_Away.f 6 a0 a1 a2).bind fun t129 => (if t129 = true then ((mode_Away.f 4 a0 a1 a2).bind fun t130 => (some t130)) else (some true))) else (some false))) else (some false)))))))) = some r := by rw [if_pos rfl] at H; exact H
      clear H
      have H := H1
      clear H1
      replace H := Option.bind_eq_some_iff.mp H
      obtain ⟨t124, A80, H⟩ := H
      replace H : (if t124 = true then (some false) else ((mode_Away.f 7 a0 a1 a2).bind fun t125 => (if t125 = true then (some false) else ((mode_Away.f 0 a0 a1 a2).bind fun t126 => ((mode_Away.f 1 a0 a1 a2).bind fun t127 => (if (t126 != t127) = true then ((mode_Away.f 5 a0 a1 a2).bind fun t128 => (if (t128 == (decide (a2 ≥ 0))) = true then ((mode_Away.f 6 a0 a1 a2).bind fun t129 => (if t129 = true then ((mode_Away.f 4 a0 a1 a2).bind fun t130 => (some t130)) else (some true))) else (some false))) else (some false))))))) = some r := H
      have A8 := Aside0.mk A80
      clear A80
      by_cases c9 : t124 = true
      · subst c9
        have H1 : (some false) = some r := by rw [if_pos rfl] at H; exact H
        clear H
        have H := H1
        clear H1
        exact absurd ((Option.some.inj H).trans HT.out) (by decide)
      · replace c9 := Bool.eq_false_iff.mpr c9
        subst c9
        have H1 : ((mode_Away.f 7 a0 a1 a2).bind fun t125 => (if t125 = true then (some false) else ((mode_Away.f 0 a0 a1 a2).bind fun t126 => ((mode_Away.f 1 a0 a1 a2).bind fun t127 => (if (t126 != t127) = true then ((mode_Away.f 5 a0 a1 a2).bind fun t128 => (if (t128 == (decide (a2 ≥ 0))) = true then ((mode_Away.f 6 a0 a1 a2).bind fun t129 => (if t129 = true then ((mode_Away.f 4 a0 a1 a2).bind fun t130 => (some t130)) else (some true))) else (some false))) else (some false)))))) = some r := by rw [if_neg (show ¬ (false = true) by decide)] at H; exact H
        clear H
        have H := H1
        clear H1
        replace H := Option.bind_eq_some_iff.mp H
        obtain ⟨t125, A100, H⟩ := H
        replace H : (if t125 = true then (some false) else ((mode_Away.f 0 a0 a1 a2).bind fun t126 => ((mode_Away.f 1 a0 a1 a2).bind fun t127 => (if (t126 != t127) = true then ((mode_Away.f 5 a0 a1 a2).bind fun t128 => (if (t128 == (decide (a2 ≥ 0))) = true then ((mode_Away.f 6 a0 a1 a2).bind fun t129 => (if t129 = true then ((mode_Away.f 4 a0 a1 a2).bind fun t130 => (some t130)) else (some true))) else (some false))) else (some false))))) = some r := H
        have A10 := Aside0.mk A100
        clear A100
        by_cases c11 : t125 = true
        · subst c11
          have H1 : (some false) = some r := by rw [if_pos rfl] at H; exact H
          clear H
          have H := H1
          clear H1
          exact absurd ((Option.some.inj H).trans HT.out) (by decide)
        · replace c11 := Bool.eq_false_iff.mpr c11
          subst c11
          have H1 : ((mode_Away.f 0 a0 a1 a2).bind fun t126 => ((mode_Away.f 1 a0 a1 a2).bind fun t127 => (if (t126 != t127) = true then ((mode_Away.f 5 a0 a1 a2).bind fun t128 => (if (t128 == (decide (a2 ≥ 0))) = true then ((mode_Away.f 6 a0 a1 a2).bind fun t129 => (if t129 = true then ((mode_Away.f 4 a0 a1 a2).bind fun t130 => (some t130)) else (some true))) else (some false))) else (some false)))) = some r := by rw [if_neg (show ¬ (false = true) by decide)] at H; exact H
          clear H
          have H := H1
          clear H1
          replace H := Option.bind_eq_some_iff.mp H
          obtain ⟨t126, A120, H⟩ := H
          replace H : ((mode_Away.f 1 a0 a1 a2).bind fun t127 => (if (t126 != t127) = true then ((mode_Away.f 5 a0 a1 a2).bind fun t128 => (if (t128 == (decide (a2 ≥ 0))) = true then ((mode_Away.f 6 a0 a1 a2).bind fun t129 => (if t129 = true then ((mode_Away.f 4 a0 a1 a2).bind fun t130 => (some t130)) else (some true))) else (some false))) else (some false))) = some r := H
          have A12 := Aside0.mk A120
          clear A120
          replace H := Option.bind_eq_some_iff.mp H
          obtain ⟨t127, A130, H⟩ := H
          replace H : (if (t126 != t127) = true then ((mode_Away.f 5 a0 a1 a2).bind fun t128 => (if (t128 == (decide (a2 ≥ 0))) = true then ((mode_Away.f 6 a0 a1 a2).bind fun t129 => (if t129 = true then ((mode_Away.f 4 a0 a1 a2).bind fun t130 => (some t130)) else (some true))) else (some false))) else (some false)) = some r := H
          have A13 := Aside0.mk A130
          clear A130
          by_cases c14 : (t126 != t127) = true
          · rw [if_pos c14] at H
            have c14b0 : (t126 != t127) = true := c14
            (try (have c14b1 : decide (t126 = t127) = false := by simpa using c14))
            (try (have c14b2 : (t126 == t127) = false := by simpa using c14))
            (try (have c14b3 : ¬ (t126 = t127) := by simpa using c14))
            clear c14
            replace H := Option.bind_eq_some_iff.mp H
            obtain ⟨t128, A150, H⟩ := H
            replace H : (if (t128 == (decide (a2 ≥ 0))) = true then ((mode_Away.f 6 a0 a1 a2).bind fun t129 => (if t129 = true then ((mode_Away.f 4 a0 a1 a2).bind fun t130 => (some t130)) else (some true))) else (some false)) = some r := H
            have A15 := Aside0.mk A150
            clear A150
            by_cases c16 : (t128 == (decide (a2 ≥ 0))) = true
            · rw [if_pos c16] at H
              have c16b0 : (t128 == (decide (a2 ≥ 0))) = true := c16
              (try (have c16b1 : decide (t128 = (decide (a2 ≥ 0))) = true := by simpa using c16))
              (try (have c16b2 : (t128 == (decide (a2 ≥ 0))) = true := by simpa using c16))
              clear c16
              replace H := Option.bind_eq_some_iff.mp H
              obtain ⟨t129, A170, H⟩ := H
              replace H : (if t129 = true then ((mode_Away.f 4 a0 a1 a2).bind fun t130 => (some t130)) else (some true)) = some r := H
              have A17 := Aside0.mk A170
              clear A170
              by_cases c18 : t129 = true
              · subst c18
                have H1 : ((mode_Away.f 4 a0 a1 a2).bind fun t130 => (some t130)) = some r := by rw [if_pos rfl] at H; exact H
                clear H
                have H := H1
                clear H1
                replace H := Option.bind_eq_some_iff.mp H
                obtain ⟨t130, A190, H⟩ := H
                replace H : (some t130) = some r := H
                have A19 := Aside0.mk A190
                clear A190
                obtain rfl := Option.some.inj H
                go_enter Tryd.func6, Tryd.ntmps6
                go_wp2_with (first | ((with_reducible refine gate_callee (f := 7) rfl ?_); refine goesL_ (some 7) rfl rfl Tryd.func7 (by kernel_rfl) rfl #[] rfl (by (try simp only [List.map_toArray, List.map_cons, List.map_nil]); first | done | rfl | (simp only [List.length_drop, List.length_take]; rfl)) ?_; (with_reducible refine (figureheadlaw07_answers.calls  true _ ?side1 ?side2 A4.out).mono ?_); (case side1 => repeat (first | exact HG.out | apply Fig.Glob.drewN | apply Fig.Glob.drew)); (case side2 => exact ⟨by first | rfl | exact HT.out⟩); rintro e w' ⟨rfl, ⟨nd, rfl⟩⟩; refine ⟨_, rfl, ?_⟩) | ((with_reducible refine gate_dst (N := 12) rfl ?_); (refine gate_guard (by rfl) ?_; dsimp only); (with_reducible refine gate_callee (f := 9) rfl ?_); refine goesL_ (some 12) rfl rfl Tryd.func9 (by kernel_rfl) rfl #[.int .i64 2, .bool a0, .bool a1, .int .i64 a2] rfl (by (try simp only [List.map_toArray, List.map_cons, List.map_nil]); first | done | rfl | (simp only [List.length_drop, List.length_take]; rfl)) ?_; (with_reducible refine (mode_Away.calls 2 a0 a1 a2 true _ ?side1 A6.out).mono ?_); (case side1 => repeat (first | exact HG.out | apply Fig.Glob.drewN | apply Fig.Glob.drew)); rintro e w' ⟨rfl, ⟨nd, rfl⟩⟩; refine ⟨_, rfl, ?_⟩) | ((with_reducible refine gate_dst (N := 18) rfl ?_); (refine gate_guard (by rfl) ?_; dsimp only); (with_reducible refine gate_callee (f := 9) rfl ?_); refine goesL_ (some 18) rfl rfl Tryd.func9 (by kernel_rfl) rfl #[.int .i64 3, .bool a0, .bool a1, .int .i64 a2] rfl (by (try simp only [List.map_toArray, List.map_cons, List.map_nil]); first | done | rfl | (simp only [List.length_drop, List.length_take]; rfl)) ?_; (with_reducible refine (mode_Away.calls 3 a0 a1 a2 false _ ?side1 A8.out).mono ?_); (case side1 => repeat (first | exact HG.out | apply Fig.Glob.drewN | apply Fig.Glob.drew)); rintro e w' ⟨rfl, ⟨nd, rfl⟩⟩; refine ⟨_, rfl, ?_⟩) | ((with_reducible refine gate_dst (N := 25) rfl ?_); (refine gate_guard (by rfl) ?_; dsimp only); (with_reducible refine gate_callee (f := 9) rfl ?_); refine goesL_ (some 25) rfl rfl Tryd.func9 (by kernel_rfl) rfl #[.int .i64 7, .bool a0, .bool a1, .int .i64 a2] rfl (by (try simp only [List.map_toArray, List.map_cons, List.map_nil]); first | done | rfl | (simp only [List.length_drop, List.length_take]; rfl)) ?_; (with_reducible refine (mode_Away.calls 7 a0 a1 a2 false _ ?side1 A10.out).mono ?_); (case side1 => repeat (first | exact HG.out | apply Fig.Glob.drewN | apply Fig.Glob.drew)); rintro e w' ⟨rfl, ⟨nd, rfl⟩⟩; refine ⟨_, rfl, ?_⟩) | ((with_reducible refine gate_dst (N := 32) rfl ?_); (refine gate_guard (by rfl) ?_; dsimp only); (with_reducible refine gate_callee (f := 9) rfl ?_); refine goesL_ (some 32) rfl rfl Tryd.func9 (by kernel_rfl) rfl #[.int .i64 0, .bool a0, .bool a1, .int .i64 a2] rfl (by (try simp only [List.map_toArray, List.map_cons, List.map_nil]); first | done | rfl | (simp only [List.length_drop, List.length_take]; rfl)) ?_; (with_reducible refine (mode_Away.calls 0 a0 a1 a2 t126 _ ?side1 A12.out).mono ?_); (case side1 => repeat (first | exact HG.out | apply Fig.Glob.drewN | apply Fig.Glob.drew)); rintro e w' ⟨rfl, ⟨nd, rfl⟩⟩; refine ⟨_, rfl, ?_⟩) | ((with_reducible refine gate_dst (N := 36) rfl ?_); (refine gate_guard (by rfl) ?_; dsimp only); (with_reducible refine gate_callee (f := 9) rfl ?_); refine goesL_ (some 36) rfl rfl Tryd.func9 (by kernel_rfl) rfl #[.int .i64 1, .bool a0, .bool a1, .int .i64 a2] rfl (by (try simp only [List.map_toArray, List.map_cons, List.map_nil]); first | done | rfl | (simp only [List.length_drop, List.length_take]; rfl)) ?_; (with_reducible refine (mode_Away.calls 1 a0 a1 a2 t127 _ ?side1 A13.out).mono ?_); (case side1 => repeat (first | exact HG.out | apply Fig.Glob.drewN | apply Fig.Glob.drew)); rintro e w' ⟨rfl, ⟨nd, rfl⟩⟩; refine ⟨_, rfl, ?_⟩) | ((with_reducible refine gate_dst (N := 43) rfl ?_); (refine gate_guard (by rfl) ?_; dsimp only); (with_reducible refine gate_callee (f := 9) rfl ?_); refine goesL_ (some 43) rfl rfl Tryd.func9 (by kernel_rfl) rfl #[.int .i64 5, .bool a0, .bool a1, .int .i64 a2] rfl (by (try simp only [List.map_toArray, List.map_cons, List.map_nil]); first | done | rfl | (simp only [List.length_drop, List.length_take]; rfl)) ?_; (with_reducible refine (mode_Away.calls 5 a0 a1 a2 t128 _ ?side1 A15.out).mono ?_); (case side1 => repeat (first | exact HG.out | apply Fig.Glob.drewN | apply Fig.Glob.drew)); rintro e w' ⟨rfl, ⟨nd, rfl⟩⟩; refine ⟨_, rfl, ?_⟩) | ((with_reducible refine gate_dst (N := 52) rfl ?_); (refine gate_guard (by rfl) ?_; dsimp only); (with_reducible refine gate_callee (f := 9) rfl ?_); refine goesL_ (some 52) rfl rfl Tryd.func9 (by kernel_rfl) rfl #[.int .i64 6, .bool a0, .bool a1, .int .i64 a2] rfl (by (try simp only [List.map_toArray, List.map_cons, List.map_nil]); first | done | rfl | (simp only [List.length_drop, List.length_take]; rfl)) ?_; (with_reducible refine (mode_Away.calls 6 a0 a1 a2 true _ ?side1 A17.out).mono ?_); (case side1 => repeat (first | exact HG.out | apply Fig.Glob.drewN | apply Fig.Glob.drew)); rintro e w' ⟨rfl, ⟨nd, rfl⟩⟩; refine ⟨_, rfl, ?_⟩) | ((with_reducible refine gate_dst (N := 58) rfl ?_); (refine gate_guard (by rfl) ?_; dsimp only); (with_reducible refine gate_callee (f := 9) rfl ?_); refine goesL_ (some 58) rfl rfl Tryd.func9 (by kernel_rfl) rfl #[.int .i64 4, .bool a0, .bool a1, .int .i64 a2] rfl (by (try simp only [List.map_toArray, List.map_cons, List.map_nil]); first | done | rfl | (simp only [List.length_drop, List.length_take]; rfl)) ?_; (with_reducible refine (mode_Away.calls 4 a0 a1 a2 t130 _ ?side1 A19.out).mono ?_); (case side1 => repeat (first | exact HG.out | apply Fig.Glob.drewN | apply Fig.Glob.drew)); rintro e w' ⟨rfl, ⟨nd, rfl⟩⟩; refine ⟨_, rfl, ?_⟩))
                go_ret
                exact ⟨by first | rfl | (simp; done) | (simp [*]; done), by repeat (first | exact Drawn0.refl _ | apply Drawn0.step)⟩
              · replace c18 := Bool.eq_false_iff.mpr c18
                subst c18
                have H1 : (some true) = some r := by rw [if_neg (show ¬ (false = true) by decide)] at H; exact H
                clear H
                have H := H1
                clear H1
                obtain rfl := Option.some.inj H
                go_enter Tryd.func6, Tryd.ntmps6
                go_wp2_with (first | ((with_reducible refine gate_callee (f := 7) rfl ?_); refine goesL_ (some 7) rfl rfl Tryd.func7 (by kernel_rfl) rfl #[] rfl (by (try simp only [List.map_toArray, List.map_cons, List.map_nil]); first | done | rfl | (simp only [List.length_drop, List.length_take]; rfl)) ?_; (with_reducible refine (figureheadlaw07_answers.calls  true _ ?side1 ?side2 A4.out).mono ?_); (case side1 => repeat (first | exact HG.out | apply Fig.Glob.drewN | apply Fig.Glob.drew)); (case side2 => exact ⟨by first | rfl | exact HT.out⟩); rintro e w' ⟨rfl, ⟨nd, rfl⟩⟩; refine ⟨_, rfl, ?_⟩) | ((with_reducible refine gate_dst (N := 12) rfl ?_); (refine gate_guard (by rfl) ?_; dsimp only); (with_reducible refine gate_callee (f := 9) rfl ?_); refine goesL_ (some 12) rfl rfl Tryd.func9 (by kernel_rfl) rfl #[.int .i64 2, .bool a0, .bool a1, .int .i64 a2] rfl (by (try simp only [List.map_toArray, List.map_cons, List.map_nil]); first | done | rfl | (simp only [List.length_drop, List.length_take]; rfl)) ?_; (with_reducible refine (mode_Away.calls 2 a0 a1 a2 true _ ?side1 A6.out).mono ?_); (case side1 => repeat (first | exact HG.out | apply Fig.Glob.drewN | apply Fig.Glob.drew)); rintro e w' ⟨rfl, ⟨nd, rfl⟩⟩; refine ⟨_, rfl, ?_⟩) | ((with_reducible refine gate_dst (N := 18) rfl ?_); (refine gate_guard (by rfl) ?_; dsimp only); (with_reducible refine gate_callee (f := 9) rfl ?_); refine goesL_ (some 18) rfl rfl Tryd.func9 (by kernel_rfl) rfl #[.int .i64 3, .bool a0, .bool a1, .int .i64 a2] rfl (by (try simp only [List.map_toArray, List.map_cons, List.map_nil]); first | done | rfl | (simp only [List.length_drop, List.length_take]; rfl)) ?_; (with_reducible refine (mode_Away.calls 3 a0 a1 a2 false _ ?side1 A8.out).mono ?_); (case side1 => repeat (first | exact HG.out | apply Fig.Glob.drewN | apply Fig.Glob.drew)); rintro e w' ⟨rfl, ⟨nd, rfl⟩⟩; refine ⟨_, rfl, ?_⟩) | ((with_reducible refine gate_dst (N := 25) rfl ?_); (refine gate_guard (by rfl) ?_; dsimp only); (with_reducible refine gate_callee (f := 9) rfl ?_); refine goesL_ (some 25) rfl rfl Tryd.func9 (by kernel_rfl) rfl #[.int .i64 7, .bool a0, .bool a1, .int .i64 a2] rfl (by (try simp only [List.map_toArray, List.map_cons, List.map_nil]); first | done | rfl | (simp only [List.length_drop, List.length_take]; rfl)) ?_; (with_reducible refine (mode_Away.calls 7 a0 a1 a2 false _ ?side1 A10.out).mono ?_); (case side1 => repeat (first | exact HG.out | apply Fig.Glob.drewN | apply Fig.Glob.drew)); rintro e w' ⟨rfl, ⟨nd, rfl⟩⟩; refine ⟨_, rfl, ?_⟩) | ((with_reducible refine gate_dst (N := 32) rfl ?_); (refine gate_guard (by rfl) ?_; dsimp only); (with_reducible refine gate_callee (f := 9) rfl ?_); refine goesL_ (some 32) rfl rfl Tryd.func9 (by kernel_rfl) rfl #[.int .i64 0, .bool a0, .bool a1, .int .i64 a2] rfl (by (try simp only [List.map_toArray, List.map_cons, List.map_nil]); first | done | rfl | (simp only [List.length_drop, List.length_take]; rfl)) ?_; (with_reducible refine (mode_Away.calls 0 a0 a1 a2 t126 _ ?side1 A12.out).mono ?_); (case side1 => repeat (first | exact HG.out | apply Fig.Glob.drewN | apply Fig.Glob.drew)); rintro e w' ⟨rfl, ⟨nd, rfl⟩⟩; refine ⟨_, rfl, ?_⟩) | ((with_reducible refine gate_dst (N := 36) rfl ?_); (refine gate_guard (by rfl) ?_; dsimp only); (with_reducible refine gate_callee (f := 9) rfl ?_); refine goesL_ (some 36) rfl rfl Tryd.func9 (by kernel_rfl) rfl #[.int .i64 1, .bool a0, .bool a1, .int .i64 a2] rfl (by (try simp only [List.map_toArray, List.map_cons, List.map_nil]); first | done | rfl | (simp only [List.length_drop, List.length_take]; rfl)) ?_; (with_reducible refine (mode_Away.calls 1 a0 a1 a2 t127 _ ?side1 A13.out).mono ?_); (case side1 => repeat (first | exact HG.out | apply Fig.Glob.drewN | apply Fig.Glob.drew)); rintro e w' ⟨rfl, ⟨nd, rfl⟩⟩; refine ⟨_, rfl, ?_⟩) | ((with_reducible refine gate_dst (N := 43) rfl ?_); (refine gate_guard (by rfl) ?_; dsimp only); (with_reducible refine gate_callee (f := 9) rfl ?_); refine goesL_ (some 43) rfl rfl Tryd.func9 (by kernel_rfl) rfl #[.int .i64 5, .bool a0, .bool a1, .int .i64 a2] rfl (by (try simp only [List.map_toArray, List.map_cons, List.map_nil]); first | done | rfl | (simp only [List.length_drop, List.length_take]; rfl)) ?_; (with_reducible refine (mode_Away.calls 5 a0 a1 a2 t128 _ ?side1 A15.out).mono ?_); (case side1 => repeat (first | exact HG.out | apply Fig.Glob.drewN | apply Fig.Glob.drew)); rintro e w' ⟨rfl, ⟨nd, rfl⟩⟩; refine ⟨_, rfl, ?_⟩) | ((with_reducible refine gate_dst (N := 52) rfl ?_); (refine gate_guard (by rfl) ?_; dsimp only); (with_reducible refine gate_callee (f := 9) rfl ?_); refine goesL_ (some 52) rfl rfl Tryd.func9 (by kernel_rfl) rfl #[.int .i64 6, .bool a0, .bool a1, .int .i64 a2] rfl (by (try simp only [List.map_toArray, List.map_cons, List.map_nil]); first | done | rfl | (simp only [List.length_drop, List.length_take]; rfl)) ?_; (with_reducible refine (mode_Away.calls 6 a0 a1 a2 false _ ?side1 A17.out).mono ?_); (case side1 => repeat (first | exact HG.out | apply Fig.Glob.drewN | apply Fig.Glob.drew)); rintro e w' ⟨rfl, ⟨nd, rfl⟩⟩; refine ⟨_, rfl, ?_⟩))
                go_ret
                exact ⟨by first | rfl | (simp; done) | (simp [*]; done), by repeat (first | exact Drawn0.refl _ | apply Drawn0.step)⟩
            · rw [if_neg c16] at H
              have c16b0 : (t128 == (decide (a2 ≥ 0))) = false := by simpa using c16
              (try (have c16b1 : decide (t128 = (decide (a2 ≥ 0))) = false := by simpa using c16))
              (try (have c16b2 : (t128 == (decide (a2 ≥ 0))) = false := by simpa using c16))
              (try (have c16b3 : ¬ (t128 = (decide (a2 ≥ 0))) := by simpa using c16))
              clear c16
              exact absurd ((Option.some.inj H).trans HT.out) (by decide)
          · rw [if_neg c14] at H
            have c14b0 : (t126 != t127) = false := by simpa using c14
            (try (have c14b1 : decide (t126 = t127) = true := by simpa using c14))
            (try (have c14b2 : (t126 == t127) = true := by simpa using c14))
            clear c14
            exact absurd ((Option.some.inj H).trans HT.out) (by decide)
    · replace c7 := Bool.eq_false_iff.mpr c7
      subst c7
      have H1 : (some false) = some r := by rw [if_neg (show ¬ (false = true) by decide)] at H; exact H
      clear H
      have H := H1
      clear H1
      exact absurd ((Option.some.inj H).trans HT.out) (by decide)
  · replace c5 := Bool.eq_false_iff.mpr c5
    subst c5
    have H1 : (some false) = some r := by rw [if_neg (show ¬ (false = true) by decide)] at H; exact H
    clear H
    have H := H1
    clear H1
    exact absurd ((Option.some.inj H).trans HT.out) (by decide)

end Go.Proofs.YtbebhakffjpafaaDoor.Px

namespace Go.Proofs.YtbebhakffjpafaaDoor.Px
open Fig Go.RowKit Go.Proofs.YtbebhakffjpafaaDoorW.PrintWords Go.Proofs.YtbebhakffjpafaaDoorW.PrintLast Go.Proofs.YtbebhakffjpafaaDoorW.PrintMore
attribute [local go_sem] max2_int min2_int max_two min_two max_three min_three max_four min_four   -- for this text's walks alone

/-! plain facts: figureheadlaw07_answers -/
theorem answers07 : figureheadlaw07_answers.f = some true := by decide

end Go.Proofs.YtbebhakffjpafaaDoor.Px

namespace Go.Proofs.YtbebhakffjpafaaDoor.Px
open Fig Go.RowKit Go.Proofs.YtbebhakffjpafaaDoorW.PrintWords Go.Proofs.YtbebhakffjpafaaDoorW.PrintLast Go.Proofs.YtbebhakffjpafaaDoorW.PrintMore
attribute [local go_sem] max2_int min2_int max_two min_two max_three min_three max_four min_four   -- for this text's walks alone

/-! plain facts: figureheadlaw07_ModeEnds -/
theorem ModeEnds_pure (a0 a1 : Bool) (a2 : Int) (w2 : (Lit.int .i64 a2).wf = true) : figureheadlaw07_ModeEnds.f a0 a1 a2 = some true := by
  unfold figureheadlaw07_ModeEnds.f
  rw [answers07]
  simp only [Option.bind_some, if_true, mode_Away.f]
  by_cases hp : 0 < a2
  · cases a0 <;> simp [awayB, hp]
  · cases a0 <;> simp [awayB, hp]

end Go.Proofs.YtbebhakffjpafaaDoor.Px
