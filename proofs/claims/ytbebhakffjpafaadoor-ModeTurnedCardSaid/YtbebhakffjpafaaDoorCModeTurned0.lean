/- The functions that the law ModeTurned reaches, told as plain functions, with what is proved of them (part 0). -/
import Derived.Test.YtbebhakffjpafaaDoorPx0
namespace Go.Proofs.YtbebhakffjpafaaDoor.Px
open Fig Go.RowKit Go.Proofs.YtbebhakffjpafaaDoorW.PrintWords Go.Proofs.YtbebhakffjpafaaDoorW.PrintLast Go.Proofs.YtbebhakffjpafaaDoorW.PrintMore
attribute [local go_sem] max2_int min2_int max_two min_two max_three min_three max_four min_four   -- for this text's walks alone

/-! ### mode_Away: function 9 -/
/-- which neighbour a way takes -/
def awayB (m : Int) (neg odd : Bool) (half : Int) : Bool :=
  if m = 0 then !neg else if m = 1 then neg else if m = 2 then true else if m = 3 then false else if m = 4 then decide (0 < half) || (half == 0 && odd) else if m = 5 then decide (0 ≤ half) else if m = 6 then decide (0 < half) else false
def mode_Away.f (m : Int) (neg odd : Bool) (half : Int) : Option Bool := some (awayB m neg odd half)
set_option maxHeartbeats 4000000 in
theorem mode_Away.calls (m : Int) (neg odd : Bool) (half : Int) (r : Bool) (w : World) (hG : Fig.Glob w) (h : mode_Away.f m neg odd half = some r) :
    Calls Tryd.prog 9 #[.int .i64 m, .bool neg, .bool odd, .int .i64 half] w fun e w' => e = .returned (.bool r) ∧ Drawn0 w w' := by
  obtain rfl := Option.some.inj h
  clear h
  have h0 := hG.ways 0 _ rfl
  have h1 := hG.ways 1 _ rfl
  have h2 := hG.ways 2 _ rfl
  have h3 := hG.ways 3 _ rfl
  have h4 := hG.ways 4 _ rfl
  have h5 := hG.ways 5 _ rfl
  have h6 := hG.ways 6 _ rfl
  have h7 := hG.ways 7 _ rfl
  clear hG
  by_cases hm : 0 ≤ m ∧ m < 8
  · obtain ⟨k, rfl⟩ : ∃ k : Nat, m = k := ⟨m.toNat, by omega⟩
    have hk : k < 8 := by omega
    clear hm
    match k, hk with
    | 0, _ =>
      clear h1 h2 h3 h4 h5 h6 h7
      go_enter Tryd.func9, Tryd.ntmps9
      go_wp2
      go_ret
      exact ⟨by simp [awayB], Drawn0.refl _⟩
    | 1, _ =>
      clear h0 h2 h3 h4 h5 h6 h7
      go_enter Tryd.func9, Tryd.ntmps9
      go_wp2
      go_ret
      exact ⟨by simp [awayB], Drawn0.refl _⟩
    | 2, _ =>
      clear h0 h1 h3 h4 h5 h6 h7
      go_enter Tryd.func9, Tryd.ntmps9
      go_wp2
      go_ret
      exact ⟨by simp [awayB], Drawn0.refl _⟩
    | 3, _ =>
      clear h0 h1 h2 h4 h5 h6 h7
      go_enter Tryd.func9, Tryd.ntmps9
      go_wp2
      go_ret
      exact ⟨by simp [awayB], Drawn0.refl _⟩
    | 4, _ =>
      clear h0 h1 h2 h3 h5 h6 h7
      by_cases hp : 0 < half
      · have d1 : decide (0 < half) = true := decide_eq_true hp
        go_enter Tryd.func9, Tryd.ntmps9
        go_wp2
        go_ret
        exact ⟨by simp [awayB, hp], Drawn0.refl _⟩
      · have d1 : decide (0 < half) = false := decide_eq_false hp
        by_cases hz : half = 0
        · have d2 : (half == 0) = true := by simp [hz]
          go_enter Tryd.func9, Tryd.ntmps9
          go_wp2
          go_ret
          exact ⟨by simp [awayB, hz], Drawn0.refl _⟩
        · have d2 : (half == 0) = false := by simp [hz]
          go_enter Tryd.func9, Tryd.ntmps9
          go_wp2
          go_ret
          exact ⟨by simp [awayB, hp, hz], Drawn0.refl _⟩
    | 5, _ =>
      clear h0 h1 h2 h3 h4 h6 h7
      go_enter Tryd.func9, Tryd.ntmps9
      go_wp2
      go_ret
      exact ⟨by simp [awayB], Drawn0.refl _⟩
    | 6, _ =>
      clear h0 h1 h2 h3 h4 h5 h7
      go_enter Tryd.func9, Tryd.ntmps9
      go_wp2
      go_ret
      exact ⟨by simp [awayB], Drawn0.refl _⟩
    | 7, _ =>
      clear h0 h1 h2 h3 h4 h5 h6
      go_enter Tryd.func9, Tryd.ntmps9
      go_wp2
      go_ret
      exact ⟨by simp [awayB], Drawn0.refl _⟩
    | n + 8, hk => exact absurd hk (by omega)
  · clear h0 h1 h2 h3 h4 h5 h6 h7
    have hz : awayB m neg odd half = false := by unfold awayB; repeat (rw [if_neg (by omega)])
    rw [hz]
    by_cases h0 : 0 ≤ m
    · have d1 : decide (0 ≤ m) = true := decide_eq_true h0
      have d2 : decide (m < 8) = false := decide_eq_false (by omega)
      go_enter Tryd.func9, Tryd.ntmps9
      go_wp2
      go_ret
      exact ⟨rfl, Drawn0.refl _⟩
    · have d1 : decide (0 ≤ m) = false := decide_eq_false h0
      go_enter Tryd.func9, Tryd.ntmps9
      go_wp2
      go_ret
      exact ⟨rfl, Drawn0.refl _⟩

end Go.Proofs.YtbebhakffjpafaaDoor.Px

namespace Go.Proofs.YtbebhakffjpafaaDoor.Px
open Fig Go.RowKit Go.Proofs.YtbebhakffjpafaaDoorW.PrintWords Go.Proofs.YtbebhakffjpafaaDoorW.PrintLast Go.Proofs.YtbebhakffjpafaaDoorW.PrintMore
attribute [local go_sem] max2_int min2_int max_two min_two max_three min_three max_four min_four   -- for this text's walks alone

/-! ### mode_Good: function 8 -/
def mode_Good.f (a0 : Int) : Option (Bool) := if a0 ≥ 0 then (some (decide (a0 < 8))) else (some false)
set_option maxHeartbeats 8000000 in
set_option maxRecDepth 100000 in
theorem mode_Good.calls (a0 : Int) (r : Bool) (w : World) (h : mode_Good.f a0 = some r) :
    Calls Tryd.prog 8 #[.int .i64 a0] w fun e w' => e = .returned (.bool r) ∧ Drawn0 w w' := by
  have H : (if a0 ≥ 0 then (some (decide (a0 < 8))) else (some false)) = some r := h
  clear h
  by_cases c2 : a0 ≥ 0
  · rw [if_pos c2] at H
    have c2b0 : decide (0 ≤ a0) = true := decide_eq_true c2
    clear c2
    obtain rfl := Option.some.inj H
    go_enter Tryd.func8, Tryd.ntmps8
    go_wp2
    go_ret
    exact ⟨by first | rfl | (simp; done) | (simp [*]; done), by repeat (first | exact Drawn0.refl _ | apply Drawn0.step)⟩
  · rw [if_neg c2] at H
    have c2b0 : decide (0 ≤ a0) = false := decide_eq_false c2
    clear c2
    obtain rfl := Option.some.inj H
    go_enter Tryd.func8, Tryd.ntmps8
    go_wp2
    go_ret
    exact ⟨by first | rfl | (simp; done) | (simp [*]; done), by repeat (first | exact Drawn0.refl _ | apply Drawn0.step)⟩

end Go.Proofs.YtbebhakffjpafaaDoor.Px

namespace Go.Proofs.YtbebhakffjpafaaDoor.Px
open Fig Go.RowKit Go.Proofs.YtbebhakffjpafaaDoorW.PrintWords Go.Proofs.YtbebhakffjpafaaDoorW.PrintLast Go.Proofs.YtbebhakffjpafaaDoorW.PrintMore
attribute [local go_sem] max2_int min2_int max_two min_two max_three min_three max_four min_four   -- for this text's walks alone

/-! ### figureheadlaw07_answers: function 7 -/
def figureheadlaw07_answers.f  : Option (Bool) := (mode_Good.f 7).bind fun t101 => (if t101 = true then ((mode_Good.f 8).bind fun t102 => (if t102 = true then (some false) else ((mode_Away.f 2 false false (-1)).bind fun t103 => (if t103 = true then ((mode_Away.f 4 false false 0).bind fun t104 => (if t104 = true then (some false) else ((mode_Away.f 4 false true 0).bind fun t105 => (some t105)))) else (some false))))) else (some false))
set_option maxHeartbeats 8000000 in
set_option maxRecDepth 100000 in
theorem figureheadlaw07_answers.calls  (r : Bool) (w : World) (hG : Fig.Glob w) (HT : Aside0 (r = true)) (h : figureheadlaw07_answers.f  = some r) :
    Calls Tryd.prog 7 #[] w fun e w' => e = .returned (.bool r) ∧ Drawn0 w w' := by
  have HG := Aside0.mk hG
  clear hG
  have H : ((mode_Good.f 7).bind fun t101 => (if t101 = true then ((mode_Good.f 8).bind fun t102 => (if t102 = true then (some false) else ((mode_Away.f 2 false false (-1)).bind fun t103 => (if t103 = true then ((mode_Away.f 4 false false 0).bind fun t104 => (if t104 = true then (some false) else ((mode_Away.f 4 false true 0).bind fun t105 => (some t105)))) else (some false))))) else (some false))) = some r := h
  clear h
  replace H := Option.bind_eq_some_iff.mp H
  obtain ⟨t101, A10, H⟩ := H
  replace H : (if t101 = true then ((mode_Good.f 8).bind fun t102 => (if t102 = true then (some false) else ((mode_Away.f 2 false false (-1)).bind fun t103 => (if t103 = true then ((mode_Away.f 4 false false 0).bind fun t104 => (if t104 = true then (some false) else ((mode_Away.f 4 false true 0).bind fun t105 => (some t105)))) else (some false))))) else (some false)) = some r := H
  have A1 := Aside0.mk A10
  clear A10
  by_cases c2 : t101 = true
  · subst c2
    have H1 : ((mode_Good.f 8).bind fun t102 => (if t102 = true then (some false) else ((mode_Away.f 2 false false (-1)).bind fun t103 => (if t103 = true then ((mode_Away.f 4 false false 0).bind fun t104 => (if t104 = true then (some false) else ((mode_Away.f 4 false true 0).bind fun t105 => (some t105)))) else (some false))))) = some r := by rw [if_pos rfl] at H; exact H
    clear H
    have H := H1
    clear H1
    replace H := Option.bind_eq_some_iff.mp H
    obtain ⟨t102, A30, H⟩ := H
    replace H : (if t102 = true then (some false) else ((mode_Away.f 2 false false (-1)).bind fun t103 => (if t103 = true then ((mode_Away.f 4 false false 0).bind fun t104 => (if t104 = true then (some false) else ((mode_Away.f 4 false true 0).bind fun t105 => (some t105)))) else (some false)))) = some r := H
    have A3 := Aside0.mk A30
    clear A30
    by_cases c4 : t102 = true
    · subst c4
      have H1 : (some false) = some r := by rw [if_pos rfl] at H; exact H
      clear H
      have H := H1
      clear H1
      exact absurd ((Option.some.inj H).trans HT.out) (by decide)
    · replace c4 := Bool.eq_false_iff.mpr c4
      subst c4
      have H1 : ((mode_Away.f 2 false false (-1)).bind fun t103 => (if t103 = true then ((mode_Away.f 4 false false 0).bind fun t104 => (if t104 = true then (some false) else ((mode_Away.f 4 false true 0).bind fun t105 => (some t105)))) else (some false))) = some r := by rw [if_neg (show ¬ (false = true) by decide)] at H; exact H
      clear H
      have H := H1
      clear H1
      replace H := Option.bind_eq_some_iff.mp H
      obtain ⟨t103, A50, H⟩ := H
      replace H : (if t103 = true then ((mode_Away.f 4 false false 0).bind fun t104 => (if t104 = true then (some false) else ((mode_Away.f 4 false true 0).bind fun t105 => (some t105)))) else (some false)) = some r := H
      have A5 := Aside0.mk A50
      clear A50
      by_cases c6 : t103 = true
      · subst c6
        have H1 : ((mode_Away.f 4 false false 0).bind fun t104 => (if t104 = true then (some false) else ((mode_Away.f 4 false true 0).bind fun t105 => (some t105)))) = some r := by rw [if_pos rfl] at H; exact H
        clear H
        have H := H1
        clear H1
        replace H := Option.bind_eq_some_iff.mp H
        obtain ⟨t104, A70, H⟩ := H
        replace H : (if t104 = true then (some false) else ((mode_Away.f 4 false true 0).bind fun t105 => (some t105))) = some r := H
        have A7 := Aside0.mk A70
        clear A70
        by_cases c8 : t104 = true
        · subst c8
          have H1 : (some false) = some r := by rw [if_pos rfl] at H; exact H
          clear H
          have H := H1
          clear H1
          exact absurd ((Option.some.inj H).trans HT.out) (by decide)
        · replace c8 := Bool.eq_false_iff.mpr c8
          subst c8
          have H1 : ((mode_Away.f 4 false true 0).bind fun t105 => (some t105)) = some r := by rw [if_neg (show ¬ (false = true) by decide)] at H; exact H
          clear H
          have H := H1
          clear H1
          replace H := Option.bind_eq_some_iff.mp H
          obtain ⟨t105, A90, H⟩ := H
          replace H : (some t105) = some r := H
          have A9 := Aside0.mk A90
          clear A90
          obtain rfl := Option.some.inj H
          go_enter Tryd.func7, Tryd.ntmps7
          go_wp2_with (first | ((with_reducible refine gate_callee (f := 8) rfl ?_); refine goesL_ (some 1) rfl rfl Tryd.func8 (by kernel_rfl) rfl #[.int .i64 7] rfl (by (try simp only [List.map_toArray, List.map_cons, List.map_nil]); first | done | rfl | (simp only [List.length_drop, List.length_take]; rfl)) ?_; (with_reducible refine (mode_Good.calls 7 true _ A1.out).mono ?_); rintro e w' ⟨rfl, ⟨nd, rfl⟩⟩; refine ⟨_, rfl, ?_⟩) | ((with_reducible refine gate_dst (N := 3) rfl ?_); (refine gate_guard (by rfl) ?_; dsimp only); (with_reducible refine gate_callee (f := 8) rfl ?_); refine goesL_ (some 3) rfl rfl Tryd.func8 (by kernel_rfl) rfl #[.int .i64 8] rfl (by (try simp only [List.map_toArray, List.map_cons, List.map_nil]); first | done | rfl | (simp only [List.length_drop, List.length_take]; rfl)) ?_; (with_reducible refine (mode_Good.calls 8 false _ A3.out).mono ?_); rintro e w' ⟨rfl, ⟨nd, rfl⟩⟩; refine ⟨_, rfl, ?_⟩) | ((with_reducible refine gate_dst (N := 7) rfl ?_); (refine gate_guard (by rfl) ?_; dsimp only); (with_reducible refine gate_callee (f := 9) rfl ?_); refine goesL_ (some 7) rfl rfl Tryd.func9 (by kernel_rfl) rfl #[.int .i64 2, .bool false, .bool false, .int .i64 (-1)] rfl (by (try simp only [List.map_toArray, List.map_cons, List.map_nil]); first | done | rfl | (simp only [List.length_drop, List.length_take]; rfl)) ?_; (with_reducible refine (mode_Away.calls 2 false false (-1) true _ ?side1 A5.out).mono ?_); (case side1 => repeat (first | exact HG.out | apply Fig.Glob.drewN | apply Fig.Glob.drew)); rintro e w' ⟨rfl, ⟨nd, rfl⟩⟩; refine ⟨_, rfl, ?_⟩) | ((with_reducible refine gate_dst (N := 10) rfl ?_); (refine gate_guard (by rfl) ?_; dsimp only); (with_reducible refine gate_callee (f := 9) rfl ?_); refine goesL_ (some 10) rfl rfl Tryd.func9 (by kernel_rfl) rfl #[.int .i64 4, .bool false, .bool false, .int .i64 0] rfl (by (try simp only [List.map_toArray, List.map_cons, List.map_nil]); first | done | rfl | (simp only [List.length_drop, List.length_take]; rfl)) ?_; (with_reducible refine (mode_Away.calls 4 false false 0 false _ ?side1 A7.out).mono ?_); (case side1 => repeat (first | exact HG.out | apply Fig.Glob.drewN | apply Fig.Glob.drew)); rintro e w' ⟨rfl, ⟨nd, rfl⟩⟩; refine ⟨_, rfl, ?_⟩) | ((with_reducible refine gate_dst (N := 14) rfl ?_); (refine gate_guard (by rfl) ?_; dsimp only); (with_reducible refine gate_callee (f := 9) rfl ?_); refine goesL_ (some 14) rfl rfl Tryd.func9 (by kernel_rfl) rfl #[.int .i64 4, .bool false, .bool true, .int .i64 0] rfl (by (try simp only [List.map_toArray, List.map_cons, List.map_nil]); first | done | rfl | (simp only [List.length_drop, List.length_take]; rfl)) ?_; (with_reducible refine (mode_Away.calls 4 false true 0 t105 _ ?side1 A9.out).mono ?_); (case side1 => repeat (first | exact HG.out | apply Fig.Glob.drewN | apply Fig.Glob.drew)); rintro e w' ⟨rfl, ⟨nd, rfl⟩⟩; refine ⟨_, rfl, ?_⟩))
          go_ret
          exact ⟨by first | rfl | (simp; done) | (simp [*]; done), by repeat (first | exact Drawn0.refl _ | apply Drawn0.step)⟩
      · replace c6 := Bool.eq_false_iff.mpr c6
        subst c6
        have H1 : (some false) = some r := by rw [if_neg (show ¬ (false = true) by decide)] at H; exact H
        clear H
        have H := H1
        clear H1
        exact absurd ((Option.some.inj H).trans HT.out) (by decide)
  · replace c2 := Bool.eq_false_iff.mpr c2
    subst c2
    have H1 : (some false) = some r := by rw [if_neg (show ¬ (false = true) by decide)] at H; exact H
    clear H
    have H := H1
    clear H1
    exact absurd ((Option.some.inj H).trans HT.out) (by decide)

end Go.Proofs.YtbebhakffjpafaaDoor.Px

namespace Go.Proofs.YtbebhakffjpafaaDoor.Px
open Fig Go.RowKit Go.Proofs.YtbebhakffjpafaaDoorW.PrintWords Go.Proofs.YtbebhakffjpafaaDoorW.PrintLast Go.Proofs.YtbebhakffjpafaaDoorW.PrintMore
attribute [local go_sem] max2_int min2_int max_two min_two max_three min_three max_four min_four   -- for this text's walks alone

/-! ### figureheadlaw07_ModeTurned: function 4 -/
def figureheadlaw07_ModeTurned.j0 : Nat → Int → Bool → Bool → Int → Int → Option (Bool)
  | 0, _, _, _, _, _ => none
  | k + 1, x0, x1, x2, x3, x9 => if x0 = 1 then ((figureheadlaw07_answers.f).bind fun t112 => (if t112 = true then ((mode_Away.f x0 x1 x2 x3).bind fun t113 => ((mode_Away.f 0 (!x1) x2 x3).bind fun t114 => (some (t113 == t114)))) else (some false))) else ((figureheadlaw07_answers.f).bind fun t115 => (if t115 = true then ((mode_Away.f x0 x1 x2 x3).bind fun t116 => ((mode_Away.f x9 (!x1) x2 x3).bind fun t117 => (some (t116 == t117)))) else (some false)))
def figureheadlaw07_ModeTurned.f (k : Nat) (a0 : Int) (a1 : Bool) (a2 : Bool) (a3 : Int) : Option (Bool) := if a0 = 0 then (figureheadlaw07_ModeTurned.j0 k a0 a1 a2 a3 1) else (figureheadlaw07_ModeTurned.j0 k a0 a1 a2 a3 a0)
theorem figureheadlaw07_ModeTurned.mono_l : ∀ k, (∀ y0 y1 y2 y3 y4, LeO (figureheadlaw07_ModeTurned.j0 k y0 y1 y2 y3 y4) (figureheadlaw07_ModeTurned.j0 (k + 1) y0 y1 y2 y3 y4))
  | 0 => fun _ _ _ _ _ r h => by simp [figureheadlaw07_ModeTurned.j0] at h
  | k + 1 => by
    have ih0 := figureheadlaw07_ModeTurned.mono_l k
    · intro y0 y1 y2 y3 y4
      unfold figureheadlaw07_ModeTurned.j0
      repeat' first
      | (with_reducible exact ih0 _ _ _ _ _)
      | (with_reducible exact LeO.refl _)
      | (with_reducible exact LeO.none _)
      | (with_reducible refine LeO.ite ?_ ?_)
      | (with_reducible refine LeO.bind ?_ (fun _ => ?_))
      | exact ih0 _ _ _ _ _
      | exact LeO.none _
      | refine LeO.ite ?_ ?_
      | refine LeO.bind ?_ (fun _ => ?_)
theorem figureheadlaw07_ModeTurned.mono : ∀ a0 a1 a2 a3 k, LeO (figureheadlaw07_ModeTurned.f k a0 a1 a2 a3) (figureheadlaw07_ModeTurned.f (k + 1) a0 a1 a2 a3) := by
  intro a0 a1 a2 a3 k
  have ih0 := figureheadlaw07_ModeTurned.mono_l k
  unfold figureheadlaw07_ModeTurned.f
  repeat' first
      | (with_reducible exact ih0 _ _ _ _ _)
      | (with_reducible exact LeO.refl _)
      | (with_reducible exact LeO.none _)
      | (with_reducible refine LeO.ite ?_ ?_)
      | (with_reducible refine LeO.bind ?_ (fun _ => ?_))
      | exact ih0 _ _ _ _ _
      | exact LeO.none _
      | refine LeO.ite ?_ ?_
      | refine LeO.bind ?_ (fun _ => ?_)
set_option maxHeartbeats 8000000 in
set_option maxRecDepth 100000 in
theorem figureheadlaw07_ModeTurned.calls (k : Nat) (a0 : Int) (a1 : Bool) (a2 : Bool) (a3 : Int) (r : Bool) (w : World) (hG : Fig.Glob w) (HT : Aside0 (r = true)) (h : figureheadlaw07_ModeTurned.f k a0 a1 a2 a3 = some r) :
    Calls Tryd.prog 4 #[.int .i64 a0, .bool a1, .bool a2, .int .i64 a3] w fun e w' => e = .returned (.bool r) ∧ Drawn0 w w' := by
  have HG := Aside0.mk hG
  clear hG
  have H : (if a0 = 0 then (figureheadlaw07_ModeTurned.j0 k a0 a1 a2 a3 1) else (figureheadlaw07_ModeTurned.j0 k a0 a1 a2 a3 a0)) = some r := h
  clear h
  have HC5 := Aside0.mk H
  clear H
  go_enter Tryd.func4, Tryd.ntmps4
  go_upto_if 12 with (fail)
  go_cut [9] (fun v9 wc => ∃ (kq : Nat) (x9_4 : Int), v9 = .int .i64 x9_4 ∧ Aside0 (figureheadlaw07_ModeTurned.j0 kq a0 a1 a2 a3 x9_4 = some r) ∧ Aside0 (kq ≤ k) ∧ Drawn0 w wc)
  case first =>
    have H := HC5.out
    clear HC5
    by_cases c6 : a0 = 0
    · rw [if_pos c6] at H
      have c6b0 : (a0 == 0) = true := beq_iff_eq.mpr c6
      have c6b1 : (a0 != 0) = false := bne_eq_false_iff_eq.mpr c6
      clear c6
      (first | rw [c6b0] | (simp only [i64_w, i32_w]; rw [c6b0]) | skip)
      have H' := Aside0.mk H
      clear H
      go_wp2
      go_meet
      case rel => exact ⟨_, (1), (by first | rfl | (simp; done) | (simp [*]; done)), H', ⟨by first | omega | exact Nat.le_refl _⟩, by repeat (first | exact Drawn0.refl _ | apply Drawn0.step)⟩
    · rw [if_neg c6] at H
      have c6b0 : (a0 == 0) = false := beq_eq_false_iff_ne.mpr c6
      have c6b1 : (a0 != 0) = true := bne_iff_ne.mpr c6
      (first | rw [c6b0] | (simp only [i64_w, i32_w]; rw [c6b0]) | skip)
      have H' := Aside0.mk H
      clear H
      go_wp2
      go_meet
      case rel => exact ⟨_, (a0), (by first | rfl | (simp; done) | (simp [*]; done)), H', ⟨by first | omega | exact Nat.le_refl _⟩, by repeat (first | exact Drawn0.refl _ | apply Drawn0.step)⟩
  case rest =>
    clear HC5
    try clear p2
    try clear c4
    try clear c6
    try clear c6b0
    try clear c6b1
    obtain ⟨kq, x9_4, rfl, HA, HJ4, ⟨mc4, rfl⟩⟩ := hcut
    cases kq with
    | zero => exact absurd HA.out (by simp [figureheadlaw07_ModeTurned.j0])
    | succ kj4 =>
      have H := HA.out
      clear HA
      simp only [figureheadlaw07_ModeTurned.j0] at H
      by_cases c7 : a0 = 1
      · rw [if_pos c7] at H
        have c7b0 : (a0 == 1) = true := beq_iff_eq.mpr c7
        have c7b1 : (a0 != 1) = false := bne_eq_false_iff_eq.mpr c7
        clear c7
        replace H := Option.bind_eq_some_iff.mp H
        obtain ⟨t112, A80, H⟩ := H
        replace H : (if t112 = true then ((mode_Away.f a0 a1 a2 a3).bind fun t113 => ((mode_Away.f 0 (!a1) a2 a3).bind fun t114 => (some (t113 == t114)))) else (some false)) = some r := H
        have A8 := Aside0.mk A80
        clear A80
        by_cases c9 : t112 = true
        · subst c9
          have H1 : ((mode_Away.f a0 a1 a2 a3).bind fun t113 => ((mode_Away.f 0 (!a1) a2 a3).bind fun t114 => (some (t113 == t114)))) = some r := by rw [if_pos rfl] at H; exact H
          clear H
          have H := H1
          clear H1
          replace H := Option.bind_eq_some_iff.mp H
          obtain ⟨t113, A100, H⟩ := H
          replace H : ((mode_Away.f 0 (!a1) a2 a3).bind fun t114 => (some (t113 == t114))) = some r := H
          have A10 := Aside0.mk A100
          clear A100
          replace H := Option.bind_eq_some_iff.mp H
          obtain ⟨t114, A110, H⟩ := H
          replace H : (some (t113 == t114)) = some r := H
          have A11 := Aside0.mk A110
          clear A110
          obtain rfl := Option.some.inj H
          go_wp2_with (first | ((with_reducible refine gate_callee (f := 7) rfl ?_); refine goesL_ (some 15) rfl rfl Tryd.func7 (by kernel_rfl) rfl #[] rfl (by (try simp only [List.map_toArray, List.map_cons, List.map_nil]); first | done | rfl | (simp only [List.length_drop, List.length_take]; rfl)) ?_; (with_reducible refine (figureheadlaw07_answers.calls  true _ ?side1 ?side2 A8.out).mono ?_); (case side1 => repeat (first | exact HG.out | apply Fig.Glob.drewN | apply Fig.Glob.drew)); (case side2 => exact ⟨by first | rfl | exact HT.out⟩); rintro e w' ⟨rfl, ⟨nd, rfl⟩⟩; refine ⟨_, rfl, ?_⟩) | ((with_reducible refine gate_dst (N := 21) rfl ?_); (refine gate_guard (by rfl) ?_; dsimp only); (with_reducible refine gate_callee (f := 9) rfl ?_); refine goesL_ (some 21) rfl rfl Tryd.func9 (by kernel_rfl) rfl #[.int .i64 a0, .bool a1, .bool a2, .int .i64 a3] rfl (by (try simp only [List.map_toArray, List.map_cons, List.map_nil]); first | done | rfl | (simp only [List.length_drop, List.length_take]; rfl)) ?_; (with_reducible refine (mode_Away.calls a0 a1 a2 a3 t113 _ ?side1 A10.out).mono ?_); (case side1 => repeat (first | exact HG.out | apply Fig.Glob.drewN | apply Fig.Glob.drew)); rintro e w' ⟨rfl, ⟨nd, rfl⟩⟩; refine ⟨_, rfl, ?_⟩) | ((with_reducible refine gate_dst (N := 27) rfl ?_); (refine gate_guard (by rfl) ?_; dsimp only); (with_reducible refine gate_callee (f := 9) rfl ?_); refine goesL_ (some 27) rfl rfl Tryd.func9 (by kernel_rfl) rfl #[.int .i64 0, .bool (!a1), .bool a2, .int .i64 a3] rfl (by (try simp only [List.map_toArray, List.map_cons, List.map_nil]); first | done | rfl | (simp only [List.length_drop, List.length_take]; rfl)) ?_; (with_reducible refine (mode_Away.calls 0 (!a1) a2 a3 t114 _ ?side1 A11.out).mono ?_); (case side1 => repeat (first | exact HG.out | apply Fig.Glob.drewN | apply Fig.Glob.drew)); rintro e w' ⟨rfl, ⟨nd, rfl⟩⟩; refine ⟨_, rfl, ?_⟩))
          go_ret
          exact ⟨by first | rfl | (simp; done) | (simp [*]; done), by repeat (first | exact Drawn0.refl _ | apply Drawn0.step)⟩
        · replace c9 := Bool.eq_false_iff.mpr c9
          subst c9
          have H1 : (some false) = some r := by rw [if_neg (show ¬ (false = true) by decide)] at H; exact H
          clear H
          have H := H1
          clear H1
          exact absurd ((Option.some.inj H).trans HT.out) (by decide)
      · rw [if_neg c7] at H
        have c7b0 : (a0 == 1) = false := beq_eq_false_iff_ne.mpr c7
        have c7b1 : (a0 != 1) = true := bne_iff_ne.mpr c7
        replace H := Option.bind_eq_some_iff.mp H
        obtain ⟨t115, A120, H⟩ := H
        replace H : (if t115 = true then ((mode_Away.f a0 a1 a2 a3).bind fun t116 => ((mode_Away.f x9_4 (!a1) a2 a3).bind fun t117 => (some (t116 == t117)))) else (some false)) = some r := H
        have A12 := Aside0.mk A120
        clear A120
        by_cases c13 : t115 = true
        · subst c13
          have H1 : ((mode_Away.f a0 a1 a2 a3).bind fun t116 => ((mode_Away.f x9_4 (!a1) a2 a3).bind fun t117 => (some (t116 == t117)))) = some r := by rw [if_pos rfl] at H; exact H
          clear H
          have H := H1
          clear H1
          replace H := Option.bind_eq_some_iff.mp H
          obtain ⟨t116, A140, H⟩ := H
          replace H : ((mode_Away.f x9_4 (!a1) a2 a3).bind fun t117 => (some (t116 == t117))) = some r := H
          have A14 := Aside0.mk A140
          clear A140
          replace H := Option.bind_eq_some_iff.mp H
          obtain ⟨t117, A150, H⟩ := H
          replace H : (some (t116 == t117)) = some r := H
          have A15 := Aside0.mk A150
          clear A150
          obtain rfl := Option.some.inj H
          go_wp2_with (first | ((with_reducible refine gate_callee (f := 7) rfl ?_); refine goesL_ (some 15) rfl rfl Tryd.func7 (by kernel_rfl) rfl #[] rfl (by (try simp only [List.map_toArray, List.map_cons, List.map_nil]); first | done | rfl | (simp only [List.length_drop, List.length_take]; rfl)) ?_; (with_reducible refine (figureheadlaw07_answers.calls  true _ ?side1 ?side2 A12.out).mono ?_); (case side1 => repeat (first | exact HG.out | apply Fig.Glob.drewN | apply Fig.Glob.drew)); (case side2 => exact ⟨by first | rfl | exact HT.out⟩); rintro e w' ⟨rfl, ⟨nd, rfl⟩⟩; refine ⟨_, rfl, ?_⟩) | ((with_reducible refine gate_dst (N := 21) rfl ?_); (refine gate_guard (by rfl) ?_; dsimp only); (with_reducible refine gate_callee (f := 9) rfl ?_); refine goesL_ (some 21) rfl rfl Tryd.func9 (by kernel_rfl) rfl #[.int .i64 a0, .bool a1, .bool a2, .int .i64 a3] rfl (by (try simp only [List.map_toArray, List.map_cons, List.map_nil]); first | done | rfl | (simp only [List.length_drop, List.length_take]; rfl)) ?_; (with_reducible refine (mode_Away.calls a0 a1 a2 a3 t116 _ ?side1 A14.out).mono ?_); (case side1 => repeat (first | exact HG.out | apply Fig.Glob.drewN | apply Fig.Glob.drew)); rintro e w' ⟨rfl, ⟨nd, rfl⟩⟩; refine ⟨_, rfl, ?_⟩) | ((with_reducible refine gate_dst (N := 27) rfl ?_); (refine gate_guard (by rfl) ?_; dsimp only); (with_reducible refine gate_callee (f := 9) rfl ?_); refine goesL_ (some 27) rfl rfl Tryd.func9 (by kernel_rfl) rfl #[.int .i64 x9_4, .bool (!a1), .bool a2, .int .i64 a3] rfl (by (try simp only [List.map_toArray, List.map_cons, List.map_nil]); first | done | rfl | (simp only [List.length_drop, List.length_take]; rfl)) ?_; (with_reducible refine (mode_Away.calls x9_4 (!a1) a2 a3 t117 _ ?side1 A15.out).mono ?_); (case side1 => repeat (first | exact HG.out | apply Fig.Glob.drewN | apply Fig.Glob.drew)); rintro e w' ⟨rfl, ⟨nd, rfl⟩⟩; refine ⟨_, rfl, ?_⟩))
          go_ret
          exact ⟨by first | rfl | (simp; done) | (simp [*]; done), by repeat (first | exact Drawn0.refl _ | apply Drawn0.step)⟩
        · replace c13 := Bool.eq_false_iff.mpr c13
          subst c13
          have H1 : (some false) = some r := by rw [if_neg (show ¬ (false = true) by decide)] at H; exact H
          clear H
          have H := H1
          clear H1
          exact absurd ((Option.some.inj H).trans HT.out) (by decide)

end Go.Proofs.YtbebhakffjpafaaDoor.Px

namespace Go.Proofs.YtbebhakffjpafaaDoor.Px
open Fig Go.RowKit Go.Proofs.YtbebhakffjpafaaDoorW.PrintWords Go.Proofs.YtbebhakffjpafaaDoorW.PrintLast Go.Proofs.YtbebhakffjpafaaDoorW.PrintMore
attribute [local go_sem] max2_int min2_int max_two min_two max_three min_three max_four min_four   -- for this text's walks alone

/-! plain facts: figureheadlaw07_answers -/
theorem answers07 : figureheadlaw07_answers.f = some true := by decide

end Go.Proofs.YtbebhakffjpafaaDoor.Px

namespace Go.Proofs.YtbebhakffjpafaaDoor.Px
open Fig Go.RowKit Go.Proofs.YtbebhakffjpafaaDoorW.PrintWords Go.Proofs.YtbebhakffjpafaaDoorW.PrintLast Go.Proofs.YtbebhakffjpafaaDoorW.PrintMore
attribute [local go_sem] max2_int min2_int max_two min_two max_three min_three max_four min_four   -- for this text's walks alone

/-! plain facts: figureheadlaw07_ModeTurned -/
theorem ModeTurned_pure (a0 : Int) (a1 a2 : Bool) (a3 : Int) (w0 : (Lit.int .i64 a0).wf = true) (w3 : (Lit.int .i64 a3).wf = true) : ∃ k, figureheadlaw07_ModeTurned.f k a0 a1 a2 a3 = some true := by
  refine ⟨1, ?_⟩
  unfold figureheadlaw07_ModeTurned.f
  simp only [figureheadlaw07_ModeTurned.j0, answers07, Option.bind_some, if_true, mode_Away.f]
  by_cases h0 : a0 = 0
  · subst h0; simp [awayB]
  · by_cases h1 : a0 = 1
    · subst h1; simp [awayB]
    · simp [h0, h1, awayB]

end Go.Proofs.YtbebhakffjpafaaDoor.Px
