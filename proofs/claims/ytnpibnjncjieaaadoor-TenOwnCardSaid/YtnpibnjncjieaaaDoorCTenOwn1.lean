/- The functions that the law TenOwn reaches, told as plain functions, with what is proved of them (part 1). -/
import Derived.Test.YtnpibnjncjieaaaDoorPx0
import Derived.Test.YtnpibnjncjieaaaDoorCTenOwn0
namespace Go.Proofs.YtnpibnjncjieaaaDoor.Px
open Fig Go.RowKit Go.Proofs.YtnpibnjncjieaaaDoorW.PrintWords Go.Proofs.YtnpibnjncjieaaaDoorW.PrintLast Go.Proofs.YtnpibnjncjieaaaDoorW.PrintMore
attribute [local go_sem] max2_int min2_int max_two min_two max_three min_three max_four min_four   -- for this text's walks alone

/-! ### figureheadlaw04_TenOwn: function 7 -/
mutual
def figureheadlaw04_TenOwn.l0 : Nat → List Int → List Int → List Int → List Int → List Int → Int → Option (Bool)
  | 0, _, _, _, _, _, _ => none
  | k + 1, x0, x5, x6, x7, x8, x9 => if x9 < (x6.length : Int) then (if 0 ≤ x9 then (figureheadlaw04_TenOwn.l0 k x0 x5 (x6.set (x9 : Int).toNat 5) x7 x8 (wrap64 (x9 + 1))) else (none)) else (figureheadlaw04_TenOwn.l1 k x0 x5 x7 x8 0)
def figureheadlaw04_TenOwn.l1 : Nat → List Int → List Int → List Int → List Int → Int → Option (Bool)
  | 0, _, _, _, _, _ => none
  | k + 1, x0, x5, x7, x8, x10 => if x10 < (x7.length : Int) then (if 0 ≤ x10 then (figureheadlaw04_TenOwn.l1 k x0 x5 (x7.set (x10 : Int).toNat 5) x8 (wrap64 (x10 + 1))) else (none)) else (figureheadlaw04_TenOwn.l2 k x0 x5 x8 0)
def figureheadlaw04_TenOwn.l2 : Nat → List Int → List Int → List Int → Int → Option (Bool)
  | 0, _, _, _, _ => none
  | k + 1, x0, x5, x8, x11 => if x11 < (x8.length : Int) then (if 0 ≤ x11 then (figureheadlaw04_TenOwn.l2 k x0 x5 (x8.set (x11 : Int).toNat 5) (wrap64 (x11 + 1))) else (none)) else ((figureheadlaw04_answers.f).bind fun t284 => (if t284 = true then (if 0 ≤ (x0.length : Int) then (if (x0.length : Int) ≤ (x5.length : Int) then ((figureheadref01_Same.f k (x5.take ((x0.length : Int) : Int).toNat) x0).bind fun t289 => (if t289 = true then (if (x0.length : Int) < (x5.length : Int) then (some ((rd x5 (x0.length : Int)) == 7)) else (none)) else (some false))) else (none)) else (none)) else (some false)))
end
def figureheadlaw04_TenOwn.f (k : Nat) (l0 : List Int) (a1 : Int) : Option (Bool) := (figureheadlaw04_good.f k l0).bind fun t250 => (if t250 = true then ((some (([] : List Int) : List Int)).bind fun y252 => (if y252.length + l0.length < 35184372088832 then ((some (y252 ++ l0 : List Int)).bind fun y255 => ((some (([7, 7] : List Int) : List Int)).bind fun y258 => (if y255.length + y258.length < 35184372088832 then ((some (y255 ++ y258 : List Int)).bind fun y261 => (if 0 ≤ (l0.length : Int) then (if (l0.length : Int) ≤ (y261.length : Int) then ((ten_Shift.f (y261.take ((l0.length : Int) : Int).toNat) (wrap64 (a1))).bind fun t268 => ((ten_Cut.f (y261.take ((l0.length : Int) : Int).toNat) (wrap64 (a1))).bind fun bt275 => (figureheadlaw04_TenOwn.l0 k l0 y261 t268 bt275.1 bt275.2 0))) else (none)) else (none))) else (none)))) else (none))) else ((figureheadlaw04_answers.f).bind fun t251 => (some t251)))
theorem figureheadlaw04_TenOwn.mono_l : ∀ k, (∀ y0 y1 y2 y3 y4 y5, LeO (figureheadlaw04_TenOwn.l0 k y0 y1 y2 y3 y4 y5) (figureheadlaw04_TenOwn.l0 (k + 1) y0 y1 y2 y3 y4 y5)) ∧ (∀ y0 y1 y2 y3 y4, LeO (figureheadlaw04_TenOwn.l1 k y0 y1 y2 y3 y4) (figureheadlaw04_TenOwn.l1 (k + 1) y0 y1 y2 y3 y4)) ∧ (∀ y0 y1 y2 y3, LeO (figureheadlaw04_TenOwn.l2 k y0 y1 y2 y3) (figureheadlaw04_TenOwn.l2 (k + 1) y0 y1 y2 y3))
  | 0 => ⟨fun _ _ _ _ _ _ r h => by simp [figureheadlaw04_TenOwn.l0] at h, fun _ _ _ _ _ r h => by simp [figureheadlaw04_TenOwn.l1] at h, fun _ _ _ _ r h => by simp [figureheadlaw04_TenOwn.l2] at h⟩
  | k + 1 => by
    obtain ⟨ih0, ih1, ih2⟩ := figureheadlaw04_TenOwn.mono_l k
    refine ⟨?_, ?_, ?_⟩
    · intro y0 y1 y2 y3 y4 y5
      unfold figureheadlaw04_TenOwn.l0
      repeat' first
      | (with_reducible exact ih0 _ _ _ _ _ _)
      | (with_reducible exact ih1 _ _ _ _ _)
      | (with_reducible exact ih2 _ _ _ _)
      | (with_reducible exact figureheadlaw04_good.mono _ _)
      | (with_reducible exact figureheadref01_Same.mono _ _ _)
      | (with_reducible exact LeO.refl _)
      | (with_reducible exact LeO.none _)
      | (with_reducible refine LeO.ite ?_ ?_)
      | (with_reducible refine LeO.bind ?_ (fun _ => ?_))
      | exact ih0 _ _ _ _ _ _
      | exact ih1 _ _ _ _ _
      | exact ih2 _ _ _ _
      | exact figureheadlaw04_good.mono _ _
      | exact figureheadref01_Same.mono _ _ _
      | exact LeO.none _
      | refine LeO.ite ?_ ?_
      | refine LeO.bind ?_ (fun _ => ?_)
    · intro y0 y1 y2 y3 y4
      unfold figureheadlaw04_TenOwn.l1
      repeat' first
      | (with_reducible exact ih0 _ _ _ _ _ _)
      | (with_reducible exact ih1 _ _ _ _ _)
      | (with_reducible exact ih2 _ _ _ _)
      | (with_reducible exact figureheadlaw04_good.mono _ _)
      | (with_reducible exact figureheadref01_Same.mono _ _ _)
      | (with_reducible exact LeO.refl _)
      | (with_reducible exact LeO.none _)
      | (with_reducible refine LeO.ite ?_ ?_)
      | (with_reducible refine LeO.bind ?_ (fun _ => ?_))
      | exact ih0 _ _ _ _ _ _
      | exact ih1 _ _ _ _ _
      | exact ih2 _ _ _ _
      | exact figureheadlaw04_good.mono _ _
      | exact figureheadref01_Same.mono _ _ _
      | exact LeO.none _
      | refine LeO.ite ?_ ?_
      | refine LeO.bind ?_ (fun _ => ?_)
    · intro y0 y1 y2 y3
      unfold figureheadlaw04_TenOwn.l2
      repeat' first
      | (with_reducible exact ih0 _ _ _ _ _ _)
      | (with_reducible exact ih1 _ _ _ _ _)
      | (with_reducible exact ih2 _ _ _ _)
      | (with_reducible exact figureheadlaw04_good.mono _ _)
      | (with_reducible exact figureheadref01_Same.mono _ _ _)
      | (with_reducible exact LeO.refl _)
      | (with_reducible exact LeO.none _)
      | (with_reducible refine LeO.ite ?_ ?_)
      | (with_reducible refine LeO.bind ?_ (fun _ => ?_))
      | exact ih0 _ _ _ _ _ _
      | exact ih1 _ _ _ _ _
      | exact ih2 _ _ _ _
      | exact figureheadlaw04_good.mono _ _
      | exact figureheadref01_Same.mono _ _ _
      | exact LeO.none _
      | refine LeO.ite ?_ ?_
      | refine LeO.bind ?_ (fun _ => ?_)
theorem figureheadlaw04_TenOwn.mono : ∀ a0 a1 k, LeO (figureheadlaw04_TenOwn.f k a0 a1) (figureheadlaw04_TenOwn.f (k + 1) a0 a1) := by
  intro a0 a1 k
  obtain ⟨ih0, ih1, ih2⟩ := figureheadlaw04_TenOwn.mono_l k
  unfold figureheadlaw04_TenOwn.f
  repeat' first
      | (with_reducible exact ih0 _ _ _ _ _ _)
      | (with_reducible exact ih1 _ _ _ _ _)
      | (with_reducible exact ih2 _ _ _ _)
      | (with_reducible exact figureheadlaw04_good.mono _ _)
      | (with_reducible exact figureheadref01_Same.mono _ _ _)
      | (with_reducible exact LeO.refl _)
      | (with_reducible exact LeO.none _)
      | (with_reducible refine LeO.ite ?_ ?_)
      | (with_reducible refine LeO.bind ?_ (fun _ => ?_))
      | exact ih0 _ _ _ _ _ _
      | exact ih1 _ _ _ _ _
      | exact ih2 _ _ _ _
      | exact figureheadlaw04_good.mono _ _
      | exact figureheadref01_Same.mono _ _ _
      | exact LeO.none _
      | refine LeO.ite ?_ ?_
      | refine LeO.bind ?_ (fun _ => ?_)
set_option maxHeartbeats 8000000 in
set_option maxRecDepth 100000 in
theorem figureheadlaw04_TenOwn.calls (k : Nat) (A0 : Option Addr) (c0 : Nat) (l0 : List Int) (a1 : Int) (r : Bool) (w : World) (hG : Fig.Glob w) (HT : Aside0 (r = true)) (hr0 : Kd.C (Kd.int .u32) w A0 l0.length l0) (hc0 : l0.length ≤ c0) (h : figureheadlaw04_TenOwn.f k l0 a1 = some r) :
    Calls Tryd.prog 7 #[.slice A0 l0.length c0, .int .u8 a1] w fun e w' => e = .returned (.bool r) ∧ Below w.heap.size w w' := by
  have HG := Aside0.mk hG
  clear hG
  have HR0 := Aside0.mk hr0
  have HC0 := Aside0.mk hc0
  clear hr0 hc0
  have HB := Aside0.mk (Below.refl w.heap.size w)
  have H : ((figureheadlaw04_good.f k l0).bind fun t250 => (if t250 = true then ((some (([] : List Int) : List Int)).bind fun y252 => (if y252.length + l0.length < 35184372088832 then ((some (y252 ++ l0 : List Int)).bind fun y255 => ((some (([7, 7] : List Int) : List Int)).bind fun y258 => (if y255.length + y258.length < 35184372088832 then ((some (y255 ++ y258 : List Int)).bind fun y261 => (if 0 ≤ (l0.length : Int) then (if (l0.length : Int) ≤ (y261.length : Int) then ((ten_Shift.f (y261.take ((l0.length : Int) : Int).toNat) (wrap64 (a1))).bind fun t268 => ((ten_Cut.f (y261.take ((l0.length : Int) : Int).toNat) (wrap64 (a1))).bind fun bt275 => (figureheadlaw04_TenOwn.l0 k l0 y261 t268 bt275.1 bt275.2 0))) else (none)) else (none))) else (none)))) else (none))) else ((figureheadlaw04_answers.f).bind fun t251 => (some t251)))) = some r := h
  clear h
  replace H := Option.bind_eq_some_iff.mp H
  obtain ⟨t250, A30, H⟩ := H
  replace H : (if t250 = true then ((some (([] : List Int) : List Int)).bind fun y252 => (if y252.length + l0.length < 35184372088832 then ((some (y252 ++ l0 : List Int)).bind fun y255 => ((some (([7, 7] : List Int) : List Int)).bind fun y258 => (if y255.length + y258.length < 35184372088832 then ((some (y255 ++ y258 : List Int)).bind fun y261 => (if 0 ≤ (l0.length : Int) then (if (l0.length : Int) ≤ (y261.length : Int) then ((ten_Shift.f (y261.take ((l0.length : Int) : Int).toNat) (wrap64 (a1))).bind fun t268 => ((ten_Cut.f (y261.take ((l0.length : Int) : Int).toNat) (wrap64 (a1))).bind fun bt275 => (figureheadlaw04_TenOwn.l0 k l0 y261 t268 bt275.1 bt275.2 0))) else (none)) else (none))) else (none)))) else (none))) else ((figureheadlaw04_answers.f).bind fun t251 => (some t251))) = some r := H
  have A3 := Aside0.mk A30
  clear A30
  by_cases c4 : t250 = true
  · subst c4
    have H1 : ((some (([] : List Int) : List Int)).bind fun y252 => (if y252.length + l0.length < 35184372088832 then ((some (y252 ++ l0 : List Int)).bind fun y255 => ((some (([7, 7] : List Int) : List Int)).bind fun y258 => (if y255.length + y258.length < 35184372088832 then ((some (y255 ++ y258 : List Int)).bind fun y261 => (if 0 ≤ (l0.length : Int) then (if (l0.length : Int) ≤ (y261.length : Int) then ((ten_Shift.f (y261.take ((l0.length : Int) : Int).toNat) (wrap64 (a1))).bind fun t268 => ((ten_Cut.f (y261.take ((l0.length : Int) : Int).toNat) (wrap64 (a1))).bind fun bt275 => (figureheadlaw04_TenOwn.l0 k l0 y261 t268 bt275.1 bt275.2 0))) else (none)) else (none))) else (none)))) else (none))) = some r := by rw [if_pos rfl] at H; exact H
    clear H
    have H := H1
    clear H1
    obtain ⟨y252, hy252⟩ : ∃ y_ : List Int, y_ = (([] : List Int)) := ⟨_, rfl⟩
    replace H : (if y252.length + l0.length < 35184372088832 then ((some (y252 ++ l0 : List Int)).bind fun y255 => ((some (([7, 7] : List Int) : List Int)).bind fun y258 => (if y255.length + y258.length < 35184372088832 then ((some (y255 ++ y258 : List Int)).bind fun y261 => (if 0 ≤ (l0.length : Int) then (if (l0.length : Int) ≤ (y261.length : Int) then ((ten_Shift.f (y261.take ((l0.length : Int) : Int).toNat) (wrap64 (a1))).bind fun t268 => ((ten_Cut.f (y261.take ((l0.length : Int) : Int).toNat) (wrap64 (a1))).bind fun bt275 => (figureheadlaw04_TenOwn.l0 k l0 y261 t268 bt275.1 bt275.2 0))) else (none)) else (none))) else (none)))) else (none)) = some r := by first | (rw [hy252]; with_reducible exact H) | (have H2_ := (Option.bind_some _ _).symm.trans H; rw [hy252]; with_reducible exact H2_) | (have H2_ := (Option.bind_some _ _).symm.trans H; with_reducible exact H2_) | with_reducible exact H | (rw [hy252]; exact H) | exact H
    have Ny252 := Aside0.mk hy252
    clear hy252
    by_cases c5 : y252.length + l0.length < 35184372088832
    · rw [if_pos c5] at H
      have LMc5 := Aside0.mk c5
      clear c5
      obtain ⟨y255, hy255⟩ : ∃ y_ : List Int, y_ = (y252 ++ l0) := ⟨_, rfl⟩
      replace H : ((some (([7, 7] : List Int) : List Int)).bind fun y258 => (if y255.length + y258.length < 35184372088832 then ((some (y255 ++ y258 : List Int)).bind fun y261 => (if 0 ≤ (l0.length : Int) then (if (l0.length : Int) ≤ (y261.length : Int) then ((ten_Shift.f (y261.take ((l0.length : Int) : Int).toNat) (wrap64 (a1))).bind fun t268 => ((ten_Cut.f (y261.take ((l0.length : Int) : Int).toNat) (wrap64 (a1))).bind fun bt275 => (figureheadlaw04_TenOwn.l0 k l0 y261 t268 bt275.1 bt275.2 0))) else (none)) else (none))) else (none))) = some r := by first | (rw [hy255]; with_reducible exact H) | (have H2_ := (Option.bind_some _ _).symm.trans H; rw [hy255]; with_reducible exact H2_) | (have H2_ := (Option.bind_some _ _).symm.trans H; with_reducible exact H2_) | with_reducible exact H | (rw [hy255]; exact H) | exact H
      have Ny255 := Aside0.mk hy255
      clear hy255
      obtain ⟨y258, hy258⟩ : ∃ y_ : List Int, y_ = (([7, 7] : List Int)) := ⟨_, rfl⟩
      replace H : (if y255.length + y258.length < 35184372088832 then ((some (y255 ++ y258 : List Int)).bind fun y261 => (if 0 ≤ (l0.length : Int) then (if (l0.length : Int) ≤ (y261.length : Int) then ((ten_Shift.f (y261.take ((l0.length : Int) : Int).toNat) (wrap64 (a1))).bind fun t268 => ((ten_Cut.f (y261.take ((l0.length : Int) : Int).toNat) (wrap64 (a1))).bind fun bt275 => (figureheadlaw04_TenOwn.l0 k l0 y261 t268 bt275.1 bt275.2 0))) else (none)) else (none))) else (none)) = some r := by first | (rw [hy258]; with_reducible exact H) | (have H2_ := (Option.bind_some _ _).symm.trans H; rw [hy258]; with_reducible exact H2_) | (have H2_ := (Option.bind_some _ _).symm.trans H; with_reducible exact H2_) | with_reducible exact H | (rw [hy258]; exact H) | exact H
      have Ny258 := Aside0.mk hy258
      clear hy258
      by_cases c6 : y255.length + y258.length < 35184372088832
      · rw [if_pos c6] at H
        have LMc6 := Aside0.mk c6
        clear c6
        obtain ⟨y261, hy261⟩ : ∃ y_ : List Int, y_ = (y255 ++ y258) := ⟨_, rfl⟩
        replace H : (if 0 ≤ (l0.length : Int) then (if (l0.length : Int) ≤ (y261.length : Int) then ((ten_Shift.f (y261.take ((l0.length : Int) : Int).toNat) (wrap64 (a1))).bind fun t268 => ((ten_Cut.f (y261.take ((l0.length : Int) : Int).toNat) (wrap64 (a1))).bind fun bt275 => (figureheadlaw04_TenOwn.l0 k l0 y261 t268 bt275.1 bt275.2 0))) else (none)) else (none)) = some r := by first | (rw [hy261]; with_reducible exact H) | (have H2_ := (Option.bind_some _ _).symm.trans H; rw [hy261]; with_reducible exact H2_) | (have H2_ := (Option.bind_some _ _).symm.trans H; with_reducible exact H2_) | with_reducible exact H | (rw [hy261]; exact H) | exact H
        have Ny261 := Aside0.mk hy261
        clear hy261
        by_cases c7 : 0 ≤ (l0.length : Int)
        · rw [if_pos c7] at H
          have c7b0 := eq_true c7
          have c7b1 : decide (0 ≤ (l0.length : Int)) = true := decide_eq_true c7
          clear c7
          by_cases c8 : (l0.length : Int) ≤ (y261.length : Int)
          · rw [if_pos c8] at H
            have c8b0 := eq_true c8
            have c8b1 : decide ((l0.length : Int) ≤ (y261.length : Int)) = true := decide_eq_true c8
            clear c8
            obtain ⟨y264, hy264⟩ : ∃ y_ : List Int, y_ = (y261.take ((l0.length : Int) : Int).toNat) := ⟨_, rfl⟩
            replace H : ((ten_Shift.f y264 (wrap64 (a1))).bind fun t268 => ((ten_Cut.f (y261.take ((l0.length : Int) : Int).toNat) (wrap64 (a1))).bind fun bt275 => (figureheadlaw04_TenOwn.l0 k l0 y261 t268 bt275.1 bt275.2 0))) = some r := by first | (rw [hy264]; with_reducible exact H) | (have H2_ := (Option.bind_some _ _).symm.trans H; rw [hy264]; with_reducible exact H2_) | (have H2_ := (Option.bind_some _ _).symm.trans H; with_reducible exact H2_) | with_reducible exact H | (rw [hy264]; exact H) | exact H
            have Ny264 := Aside0.mk hy264
            clear hy264
            replace H := Option.bind_eq_some_iff.mp H
            obtain ⟨t268, A90, H⟩ := H
            replace H : ((ten_Cut.f (y261.take ((l0.length : Int) : Int).toNat) (wrap64 (a1))).bind fun bt275 => (figureheadlaw04_TenOwn.l0 k l0 y261 t268 bt275.1 bt275.2 0)) = some r := H
            have A9 := Aside0.mk A90
            clear A90
            have c10b0 := eq_true (of_decide_eq_true (by first | (with_reducible assumption) | assumption) : 0 ≤ (l0.length : Int))
            have c11b0 := eq_true (of_decide_eq_true (by first | (with_reducible assumption) | assumption) : (l0.length : Int) ≤ (y261.length : Int))
            obtain ⟨y271, hy271⟩ : ∃ y_ : List Int, y_ = (y261.take ((l0.length : Int) : Int).toNat) := ⟨_, rfl⟩
            replace H : ((ten_Cut.f y271 (wrap64 (a1))).bind fun bt275 => (figureheadlaw04_TenOwn.l0 k l0 y261 t268 bt275.1 bt275.2 0)) = some r := by first | (rw [hy271]; with_reducible exact H) | (have H2_ := (Option.bind_some _ _).symm.trans H; rw [hy271]; with_reducible exact H2_) | (have H2_ := (Option.bind_some _ _).symm.trans H; with_reducible exact H2_) | with_reducible exact H | (rw [hy271]; exact H) | exact H
            have Ny271 := Aside0.mk hy271
            clear hy271
            replace H := Option.bind_eq_some_iff.mp H
            obtain ⟨⟨t275, t276⟩, A120, H⟩ := H
            replace H : (figureheadlaw04_TenOwn.l0 k l0 y261 t268 t275 t276 0) = some r := H
            have A12 := Aside0.mk A120
            clear A120
            have H' := Aside0.mk H
            clear H
            go_enter Tryd.func7, Tryd.ntmps7
            go_wp2_with (first | ((with_reducible refine gate_callee (f := 8) rfl ?_); refine goesL_ (some 13) rfl rfl Tryd.func8 (by kernel_rfl) rfl #[.slice A0 l0.length c0] rfl (by (try simp only [List.map_toArray, List.map_cons, List.map_nil]); first | done | rfl | (simp only [List.length_drop, List.length_take]; rfl)) ?_; (with_reducible refine (figureheadlaw04_good.calls k _ _ l0 true _ ?side1 ?side2 A3.out).mono ?_); (case side1 => repeat (first | exact HR0.out | (with_reducible refine Kd.C_alloc ?_ _) | (with_reducible refine Kd.C_drewN ?_ _) | (with_reducible refine Kd.C_drew ?_))); (case side2 => exact HC0.out); rintro e w' ⟨rfl, ⟨nd, rfl⟩⟩; refine ⟨_, rfl, ?_⟩) | ((with_reducible refine gate_dst (N := 16) rfl ?_); (try (refine gate_guard (by rfl) ?_; dsimp only)); refine Kd.R_lit (Kd.int .u32) _ 39 ?hg (N := 16) ?hd (xs := ([] : List Int)) (inner := []) (ok := fun _ => True) (okp := fun _ => True) ?hr ?hp (fun _ hk => hk) trivial (Below.refl _ _) (Nat.le_refl _) (by simp) ?_; (case hd => rfl); (case hg => rfl); (case hr => first | (go_simp; done) | (go_simp; rfl)); (case hp => exact (Reps.none _ _)); intro v253 w13 ho14 hb hg_ hnew_; clear hg_ hnew_; (first | rw [← Ny252.out] at ho14 | (simp only [Int.reduceToNat] at ho14; rw [← Ny252.out] at ho14)); have n0_ := Aside0.mk (Kd.R_lower ho14 (below_size (by repeat (first | (with_reducible first | exact HB.out | apply below_alloc | apply pw_below_drewN | apply below_drew1) | exact HB.out)))); have n1_ := Aside0.mk (below_step (by repeat (first | (with_reducible first | exact HB.out | apply below_alloc | apply pw_below_drewN | apply below_drew1) | exact HB.out)) hb); clear HB; have HO254 := n0_; have HB := n1_; clear n0_ n1_; clear hb ho14) | ((with_reducible refine gate_builtin (b := .append) (xs := #[.tmp 16, .tmp 17]) rfl ?_); (try (refine gate_guard (by rfl) ?_; dsimp only)); at_builtin; refine Kd.R_append_rows (Kd.int .u32) (w0 := w) w.heap.size rfl (.tmp 16) (.tmp 17) 22 39 (.int .u32 0) 4 rfl Tryd.underlying22 info39 rfl (by decide) (by omega) v253 y252 l0 _ _ _ (fun _ => True) (fun _ => False) rfl rfl ?aO ?aR (fun _ _ h => h) (fun _ h => h.elim) ?aF ?aB ?aS ?aL ?_; (case aR => repeat (first | exact (Kd.C_below HR0.out HB.out) | (with_reducible refine Kd.C_alloc ?_ _) | (with_reducible refine Kd.C_drewN ?_ _) | (with_reducible refine Kd.C_drew ?_))); (case aB => exact (by repeat (first | (with_reducible first | exact HB.out | apply below_alloc | apply pw_below_drewN | apply below_drew1) | exact HB.out))); (case aF => exact (fun _ _ => trivial)); (case aO => exact (by (with_reducible repeat (first | apply Kd.R_alloc | apply Kd.R_drewN | apply Kd.R_drew)); exact HO254.out)); (case aS => exact (below_size (by repeat (first | (with_reducible first | exact HB.out | apply below_alloc | apply pw_below_drewN | apply below_drew1) | exact HB.out)))); (case aL => have := LMc5.out; omega); intro v256 w15 ho hb hg hat; rw [← Ny255.out] at ho; have n0_ := Aside0.mk (hb); have n1_ := Aside0.mk (ho); clear HB; clear HO254; have HB := n0_; have HO257 := n1_; clear n0_ n1_; clear ho hb hg hat) | ((with_reducible refine gate_dst (N := 19) rfl ?_); (try (refine gate_guard (by rfl) ?_; dsimp only)); refine Kd.R_lit (Kd.int .u32) _ 39 ?hg (N := 19) ?hd (xs := ([7, 7] : List Int)) (inner := [.int .u32 7, .int .u32 7]) (ok := fun _ => True) (okp := fun _ => True) ?hr ?hp (fun _ hk => hk) trivial (Below.refl _ _) (Nat.le_refl _) (by simp) ?_; (case hd => rfl); (case hg => rfl); (case hr => first | (go_simp; done) | (go_simp; rfl)); (case hp => exact (Reps.one (show Kd.M (Kd.int .u32) _ _ _ 7 [.int .u32 7] from rfl) (Reps.one (show Kd.M (Kd.int .u32) _ _ _ 7 [.int .u32 7] from rfl) (Reps.none _ _)))); intro v259 w16 ho17 hb hg_ hnew_; clear hg_ hnew_; (first | rw [← Ny258.out] at ho17 | (simp only [Int.reduceToNat] at ho17; rw [← Ny258.out] at ho17)); have n0_ := Aside0.mk (Kd.R_elder' (by (with_reducible repeat (first | apply Kd.R_alloc | apply Kd.R_drewN | apply Kd.R_drew)); exact HO257.out) (Kd.R_base ho17) hb); have n1_ := Aside0.mk (Kd.R_lower (Kd.R_new' ho17 (Kd.R_lt (by (with_reducible repeat (first | apply Kd.R_alloc | apply Kd.R_drewN | apply Kd.R_drew)); exact HO257.out))) (below_size (by repeat (first | (with_reducible first | exact HB.out | apply below_alloc | apply pw_below_drewN | apply below_drew1) | exact HB.out)))); have n2_ := Aside0.mk (below_step (by repeat (first | (with_reducible first | exact HB.out | apply below_alloc | apply pw_below_drewN | apply below_drew1) | exact HB.out)) hb); clear HO257; clear HB; have HO257 := n0_; have HO260 := n1_; have HB := n2_; clear n0_ n1_ n2_; clear hb ho17; obtain ⟨Ao19, co19, eo19⟩ := Kd.R_slice HO260.out; subst eo19) | ((with_reducible refine gate_builtin (b := .append) (xs := #[.tmp 18, .tmp 19]) rfl ?_); (try (refine gate_guard (by rfl) ?_; dsimp only)); at_builtin; refine Kd.R_append_rows (Kd.int .u32) (w0 := w) w.heap.size rfl (.tmp 18) (.tmp 19) 22 39 (.int .u32 0) 4 rfl Tryd.underlying22 info39 rfl (by decide) (by omega) v256 y255 y258 _ _ _ (fun k_ => some k_ ≠ (.slice Ao19 y258.length co19 : Value).ownBlock) (fun _ => False) rfl rfl ?aO ?aR (fun _ _ h => h) (fun _ h => h.elim) ?aF ?aB ?aS ?aL ?_; (case aR => repeat (first | exact (Kd.R_reads' HO260.out).2.2 | (with_reducible refine Kd.C_alloc ?_ _) | (with_reducible refine Kd.C_drewN ?_ _) | (with_reducible refine Kd.C_drew ?_))); (case aB => exact (by repeat (first | (with_reducible first | exact HB.out | apply below_alloc | apply pw_below_drewN | apply below_drew1) | exact HB.out))); (case aF => exact (fun k_ hk => Kd.fresh' (Kd.R_lt (by (with_reducible repeat (first | apply Kd.R_alloc | apply Kd.R_drewN | apply Kd.R_drew)); exact HO260.out)) k_ hk)); (case aO => exact (by (with_reducible repeat (first | apply Kd.R_alloc | apply Kd.R_drewN | apply Kd.R_drew)); exact Kd.R_mono HO257.out (fun _ hk => hk.2))); (case aS => exact (below_size (by repeat (first | (with_reducible first | exact HB.out | apply below_alloc | apply pw_below_drewN | apply below_drew1) | exact HB.out)))); (case aL => have := LMc6.out; omega); intro v262 w18 ho hb hg hat; rw [← Ny261.out] at ho; have n0_ := Aside0.mk (Kd.R_after (ok := (fun _ => True)) (by (with_reducible repeat (first | apply Kd.R_alloc | apply Kd.R_drewN | apply Kd.R_drew)); exact HO260.out) hg hat); have n1_ := Aside0.mk (hb); have n2_ := Aside0.mk (ho); clear HO260; clear HB; clear HO257; have HO260 := n0_; have HB := n1_; have HO263 := n2_; clear n0_ n1_ n2_; clear ho hb hg hat; obtain ⟨Ao21, co21, eo21⟩ := Kd.R_slice HO263.out; subst eo21; have q20 : ((l0.length : Int) : Int) ≤ ((y261.length : Int) : Int) := of_decide_eq_true (by first | (with_reducible assumption) | assumption); obtain ⟨i020, hi020, _, hsz20, _⟩ := info_parts info39; have hroom20 : y261.length ≤ co21 := (Kd.R_reads' HO263.out).2.1; have hC20 : Kd.C (Kd.int .u32) _ Ao21 y261.length y261 := (Kd.R_reads' HO263.out).2.2; (try clear hcut23); have hcut20 := cut_to (P := Tryd.prog) 22 39 .i64 Tryd.underlying22 hi020 Ao21 y261.length co21 (l0.length : Int) (of_decide_eq_true (by first | (with_reducible assumption) | assumption)) q20 hroom20; have hr20 := Kd.C_take (m := ((l0.length : Int) : Int).toNat) hC20 (by omega); have hy20 : y264.length = ((l0.length : Int) : Int).toNat := (by rw [Ny264.out, List.length_take]; omega); rw [← Ny264.out] at hr20; rw [← hy20] at hcut20; have HR267 := Aside0.mk hr20; have HC267 := Aside0.mk (show y264.length ≤ co21 from by omega); clear hr20 hC20 hroom20 hi020 hsz20; have KY20 := Aside0.mk hy20; clear hy20; have KL20 := Aside0.mk (show ((l0.length : Int) : Int).toNat ≤ y261.length from by omega); replace q20 := eq_true q20) | ((with_reducible refine gate_callee (f := 20) rfl ?_); refine goesL_ (some 27) rfl rfl Tryd.func20 (by kernel_rfl) rfl #[.slice Ao21 y264.length co21, .int .i64 (wrap64 (a1))] rfl (by (try simp only [List.map_toArray, List.map_cons, List.map_nil]); first | done | rfl | (simp only [List.length_drop, List.length_take]; rfl)) ?_; (with_reducible refine (ten_Shift.calls _ _ y264 (wrap64 (a1)) t268 _ ?side1 ?side2 ?side3 A9.out).mono ?_); (case side1 => exact Fig.Glob.below HG.out (by repeat (first | (with_reducible first | exact HB.out | apply below_alloc | apply pw_below_drewN | apply below_drew1) | exact HB.out))); (case side2 => repeat (first | exact (by repeat (first | (with_reducible exact HR267.out) | (with_reducible refine Kd.C_alloc ?_ _) | (with_reducible refine Kd.C_drewN ?_ _) | (with_reducible refine Kd.C_drew ?_) | exact HR267.out)) | (with_reducible refine Kd.C_alloc ?_ _) | (with_reducible refine Kd.C_drewN ?_ _) | (with_reducible refine Kd.C_drew ?_))); (case side3 => exact HC267.out); rintro e w22 ⟨v269, rfl, ho0, hb⟩; refine ⟨_, rfl, ?_⟩; have n0_ := Aside0.mk (Kd.R_elder' (by (with_reducible repeat (first | apply Kd.R_alloc | apply Kd.R_drewN | apply Kd.R_drew)); exact HO260.out) (Kd.R_base ho0) hb); have n1_ := Aside0.mk (Kd.R_elder' (by (with_reducible repeat (first | apply Kd.R_alloc | apply Kd.R_drewN | apply Kd.R_drew)); exact HO263.out) (Kd.R_base ho0) hb); have n2_ := Aside0.mk (Kd.R_lower (Kd.R_new' (Kd.R_new' ho0 (Kd.R_lt (by (with_reducible repeat (first | apply Kd.R_alloc | apply Kd.R_drewN | apply Kd.R_drew)); exact HO260.out))) (Kd.R_lt (by (with_reducible repeat (first | apply Kd.R_alloc | apply Kd.R_drewN | apply Kd.R_drew)); exact HO263.out))) (below_size (by repeat (first | (with_reducible first | exact HB.out | apply below_alloc | apply pw_below_drewN | apply below_drew1) | exact HB.out)))); have n3_ := Aside0.mk (Kd.C_below (by repeat (first | (with_reducible exact HR267.out) | (with_reducible refine Kd.C_alloc ?_ _) | (with_reducible refine Kd.C_drewN ?_ _) | (with_reducible refine Kd.C_drew ?_) | exact HR267.out)) hb); have n4_ := Aside0.mk (below_step (by repeat (first | (with_reducible first | exact HB.out | apply below_alloc | apply pw_below_drewN | apply below_drew1) | exact HB.out)) hb); clear HO260; clear HO263; clear HR267; clear HB; have HO260 := n0_; have HO263 := n1_; have HO270 := n2_; have HR267 := n3_; have HB := n4_; clear n0_ n1_ n2_ n3_ n4_; (try clear hb); (try clear hb2); (try clear hk); (try clear hi); (try clear ho0); have q23 : ((l0.length : Int) : Int) ≤ ((y261.length : Int) : Int) := of_decide_eq_true (by first | (with_reducible assumption) | assumption); obtain ⟨i023, hi023, _, hsz23, _⟩ := info_parts info39; have hroom23 : y261.length ≤ co21 := (Kd.R_reads' HO263.out).2.1; have hC23 : Kd.C (Kd.int .u32) _ Ao21 y261.length y261 := (Kd.R_reads' HO263.out).2.2; (try clear hcut20); (try clear hcut20); have hcut23 := cut_to (P := Tryd.prog) 22 39 .i64 Tryd.underlying22 hi023 Ao21 y261.length co21 (l0.length : Int) (of_decide_eq_true (by first | (with_reducible assumption) | assumption)) q23 hroom23; have hr23 := Kd.C_take (m := ((l0.length : Int) : Int).toNat) hC23 (by omega); have hy23 : y271.length = ((l0.length : Int) : Int).toNat := (by rw [Ny271.out, List.length_take]; omega); rw [← Ny271.out] at hr23; rw [← hy23] at hcut23; have HR274 := Aside0.mk hr23; have HC274 := Aside0.mk (show y271.length ≤ co21 from by omega); clear hr23 hC23 hroom23 hi023 hsz23; have KY23 := Aside0.mk hy23; clear hy23; have KL23 := Aside0.mk (show ((l0.length : Int) : Int).toNat ≤ y261.length from by omega); replace q23 := eq_true q23) | ((with_reducible refine gate_callee (f := 19) rfl ?_); refine goesL_ (some 35) rfl rfl Tryd.func19 (by kernel_rfl) rfl #[.slice Ao21 y271.length co21, .int .i64 (wrap64 (a1))] rfl (by (try simp only [List.map_toArray, List.map_cons, List.map_nil]); first | done | rfl | (simp only [List.length_drop, List.length_take]; rfl)) ?_; (with_reducible refine (ten_Cut.calls _ _ y271 (wrap64 (a1)) t275 t276 _ ?side1 ?side2 ?side3 A12.out).mono ?_); (case side1 => exact Fig.Glob.below HG.out (by repeat (first | (with_reducible first | exact HB.out | apply below_alloc | apply pw_below_drewN | apply below_drew1) | exact HB.out))); (case side2 => repeat (first | exact (by repeat (first | (with_reducible exact HR274.out) | (with_reducible refine Kd.C_alloc ?_ _) | (with_reducible refine Kd.C_drewN ?_ _) | (with_reducible refine Kd.C_drew ?_) | exact HR274.out)) | (with_reducible refine Kd.C_alloc ?_ _) | (with_reducible refine Kd.C_drewN ?_ _) | (with_reducible refine Kd.C_drew ?_))); (case side3 => exact HC274.out); rintro e w24 ⟨v277, v279, rfl, ho0, ho1, hb⟩; refine ⟨_, rfl, ?_⟩; have n0_ := Aside0.mk (Kd.R_mono (Kd.R_told (Kd.R_told (Kd.R_old (by (with_reducible repeat (first | apply Kd.R_alloc | apply Kd.R_drewN | apply Kd.R_drew)); exact HO260.out) hb) (Kd.R_base ho0)) (Kd.R_base ho1)) (fun _ h_ => h_.1)); have n1_ := Aside0.mk (Kd.R_mono (Kd.R_told (Kd.R_told (Kd.R_old (by (with_reducible repeat (first | apply Kd.R_alloc | apply Kd.R_drewN | apply Kd.R_drew)); exact HO263.out) hb) (Kd.R_base ho0)) (Kd.R_base ho1)) (fun _ h_ => h_.1)); have n2_ := Aside0.mk (Kd.R_mono (Kd.R_told (Kd.R_told (Kd.R_old (by (with_reducible repeat (first | apply Kd.R_alloc | apply Kd.R_drewN | apply Kd.R_drew)); exact HO270.out) hb) (Kd.R_base ho0)) (Kd.R_base ho1)) (fun _ h_ => h_.1)); have n3_ := Aside0.mk (Kd.R_lower (Kd.R_new' (Kd.R_new' (Kd.R_new' ho0 (Kd.R_lt (by (with_reducible repeat (first | apply Kd.R_alloc | apply Kd.R_drewN | apply Kd.R_drew)); exact HO260.out))) (Kd.R_lt (by (with_reducible repeat (first | apply Kd.R_alloc | apply Kd.R_drewN | apply Kd.R_drew)); exact HO263.out))) (Kd.R_lt (by (with_reducible repeat (first | apply Kd.R_alloc | apply Kd.R_drewN | apply Kd.R_drew)); exact HO270.out))) (below_size (by repeat (first | (with_reducible first | exact HB.out | apply below_alloc | apply pw_below_drewN | apply below_drew1) | exact HB.out)))); have n4_ := Aside0.mk (Kd.R_lower (Kd.R_new' (Kd.R_new' (Kd.R_new' ho1 (Kd.R_lt (by (with_reducible repeat (first | apply Kd.R_alloc | apply Kd.R_drewN | apply Kd.R_drew)); exact HO260.out))) (Kd.R_lt (by (with_reducible repeat (first | apply Kd.R_alloc | apply Kd.R_drewN | apply Kd.R_drew)); exact HO263.out))) (Kd.R_lt (by (with_reducible repeat (first | apply Kd.R_alloc | apply Kd.R_drewN | apply Kd.R_drew)); exact HO270.out))) (below_size (by repeat (first | (with_reducible first | exact HB.out | apply below_alloc | apply pw_below_drewN | apply below_drew1) | exact HB.out)))); have n5_ := Aside0.mk (Kd.C_below (by repeat (first | (with_reducible exact HR267.out) | (with_reducible refine Kd.C_alloc ?_ _) | (with_reducible refine Kd.C_drewN ?_ _) | (with_reducible refine Kd.C_drew ?_) | exact HR267.out)) hb); have n6_ := Aside0.mk (Kd.C_below (by repeat (first | (with_reducible exact HR274.out) | (with_reducible refine Kd.C_alloc ?_ _) | (with_reducible refine Kd.C_drewN ?_ _) | (with_reducible refine Kd.C_drew ?_) | exact HR274.out)) hb); have n7_ := Aside0.mk (below_step (by repeat (first | (with_reducible first | exact HB.out | apply below_alloc | apply pw_below_drewN | apply below_drew1) | exact HB.out)) hb); clear HO260; clear HO263; clear HO270; clear HR267; clear HR274; clear HB; have HO260 := n0_; have HO263 := n1_; have HO270 := n2_; have HO278 := n3_; have HO280 := n4_; have HR267 := n5_; have HR274 := n6_; have HB := n7_; clear n0_ n1_ n2_ n3_ n4_ n5_ n6_ n7_; (try clear hb); (try clear hb2); (try clear hk); (try clear hi); (try clear ho0); (try clear ho1)))
            go_loopg [9] k (fun kq v9 w' => ∃ (x6_1 : List Int) (x9_1 : Int), v9 = .int .i64 x9_1 ∧ Aside0 (figureheadlaw04_TenOwn.l0 kq l0 y261 x6_1 t275 t276 x9_1 = some r) ∧ Aside0 (kq ≤ k) ∧ Aside0 (Kd.R (Kd.int .u32) 39 w' w.heap.size (fun k_ => some k_ ≠ (v269 : Value).ownBlock ∧ some k_ ≠ (v277 : Value).ownBlock ∧ some k_ ≠ (v279 : Value).ownBlock) (.slice Ao21 y261.length co21) y261) ∧ Aside0 (Kd.R (Kd.int .u32) 39 w' w.heap.size (fun k_ => some k_ ≠ ((.slice Ao21 y261.length co21) : Value).ownBlock ∧ some k_ ≠ (v277 : Value).ownBlock ∧ some k_ ≠ (v279 : Value).ownBlock) v269 x6_1) ∧ Aside0 (Kd.R (Kd.int .u32) 39 w' w.heap.size (fun k_ => some k_ ≠ ((.slice Ao21 y261.length co21) : Value).ownBlock ∧ some k_ ≠ (v269 : Value).ownBlock ∧ some k_ ≠ (v279 : Value).ownBlock) v277 t275) ∧ Aside0 (Kd.R (Kd.int .u32) 39 w' w.heap.size (fun k_ => some k_ ≠ ((.slice Ao21 y261.length co21) : Value).ownBlock ∧ some k_ ≠ (v269 : Value).ownBlock ∧ some k_ ≠ (v277 : Value).ownBlock) v279 t276) ∧ Aside0 (Below w.heap.size w w'))
            case atStart => exact ⟨(t268), (0), (by first | rfl | (simp; done) | (simp [*]; done) | (simp [*, Fig.bne_nil]; done)), H', ⟨Nat.le_refl _⟩, ⟨by (with_reducible repeat (first | apply Kd.R_alloc | apply Kd.R_drewN | apply Kd.R_drew)); exact Kd.R_mono HO263.out (fun _ hk => ⟨hk.1.1.2, ⟨hk.1.2, hk.2⟩⟩)⟩, ⟨by (with_reducible repeat (first | apply Kd.R_alloc | apply Kd.R_drewN | apply Kd.R_drew)); exact Kd.R_mono HO270.out (fun _ hk => ⟨hk.1.1.2, ⟨hk.1.2, hk.2⟩⟩)⟩, ⟨by (with_reducible repeat (first | apply Kd.R_alloc | apply Kd.R_drewN | apply Kd.R_drew)); exact Kd.R_mono HO278.out (fun _ hk => ⟨hk.1.2, ⟨hk.2, hk.1.1.1⟩⟩)⟩, ⟨by (with_reducible repeat (first | apply Kd.R_alloc | apply Kd.R_drewN | apply Kd.R_drew)); exact Kd.R_mono HO280.out (fun _ hk => ⟨hk.1.2, ⟨hk.2, hk.1.1.1⟩⟩)⟩, ⟨by repeat (first | (with_reducible first | exact HB.out | apply below_alloc | apply pw_below_drewN | apply below_drew1) | exact HB.out)⟩⟩
            case round =>
              clear H'
              try clear c1
              try clear c2
              try clear p2
              try clear q2
              try clear c4
              try clear c5
              try clear c6
              try clear p6
              try clear c7
              try clear c7b0
              try clear c7b1
              try clear c8
              try clear c8b0
              try clear c8b1
              try clear c10
              try clear c10b0
              try clear c11
              try clear c11b0
              try clear c19
              try clear c20
              try clear q20
              try clear q23
              try clear hcut20
              try clear hcut23
              try clear q20
              try clear q23
              obtain ⟨x6_1, x9_1, rfl, HA, HK1, HO_5, HO_6, HO_7, HO_8, HB⟩ := hrel
              cases gk with
              | zero => exact absurd HA.out (by simp [figureheadlaw04_TenOwn.l0])
              | succ k1 =>
                have H := HA.out
                clear HA
                simp only [figureheadlaw04_TenOwn.l0] at H
                by_cases c25 : x9_1 < (x6_1.length : Int)
                · rw [if_pos c25] at H
                  have c25b0 : decide (x9_1 < (x6_1.length : Int)) = true := decide_eq_true c25
                  clear c25
                  by_cases c26 : 0 ≤ x9_1
                  · rw [if_pos c26] at H
                    have c26b0 : decide (0 ≤ x9_1) = true := decide_eq_true c26
                    clear c26
                    obtain ⟨y281, hy281⟩ : ∃ y_ : List Int, y_ = (x6_1.set (x9_1 : Int).toNat 5) := ⟨_, rfl⟩
                    replace H : (figureheadlaw04_TenOwn.l0 k1 l0 y261 y281 t275 t276 (wrap64 (x9_1 + 1))) = some r := by first | (rw [hy281]; with_reducible exact H) | (have H2_ := (Option.bind_some _ _).symm.trans H; rw [hy281]; with_reducible exact H2_) | (have H2_ := (Option.bind_some _ _).symm.trans H; with_reducible exact H2_) | with_reducible exact H | (rw [hy281]; exact H) | exact H
                    have Ny281 := Aside0.mk hy281
                    clear hy281
                    have H' := Aside0.mk H
                    clear H
                    obtain ⟨Ao28, co28, eo28⟩ := Kd.R_slice HO_6.out
                    subst eo28
                    have p27 : 0 ≤ (x9_1 : Int) := of_decide_eq_true (by first | (with_reducible assumption) | assumption)
                    have q27 : (x9_1 : Int) < ((x6_1.length : Int) : Int) := of_decide_eq_true (by first | (with_reducible assumption) | assumption)
                    obtain ⟨go27, co27, eo27, gb27, gl27, cl27, HG27⟩ := Kd.R_form HO_6.out (by omega)
                    (first | cases eo27 | (injection eo27 with ea_ en_ ec_; (first | subst ea_ | (injection ea_ with ea_; subst ea_)); subst ec_; clear en_))
                    have GB27 := Aside0.mk gb27
                    have GG27 := Aside0.mk HG27
                    clear gb27 gl27 HG27
                    obtain ⟨hx27_0, hf27_0⟩ := Kd.R_celln 0 HO_6.out (x9_1 : Int) p27 q27
                    replace p27 := eq_true p27
                    replace q27 := eq_true q27
                    have HP29 := Kd.R_putg HO_6.out (x9_1 : Int) 5
                    go_wp2_with (first | ((with_reducible refine gate_store (t := 39) (p := 46) rfl ?_); refine store_event (t := 39) (p := 46) (v := ?vo_w30) (w1 := (wr.setCell ⟨go27, (x9_1 : Int).toNat, none⟩ (.int .u32 5))) ?hg ?ho ?hn ?hr ?_; (case ho => rfl); (case hg => rfl); (case hn => rfl); (case hr => first | (go_simp; done) | (go_simp; rfl)); intro w30 hw; have hg : wr.grownBy w30 (some go27) := (by rw [hw]; exact HP29.2); have hp_ : Kd.R (Kd.int .u32) 39 w30 w.heap.size (fun k_ => some k_ ≠ (.slice Ao21 y261.length co21 : Value).ownBlock ∧ some k_ ≠ (v277 : Value).ownBlock ∧ some k_ ≠ (v279 : Value).ownBlock) (.slice (some ⟨go27, 0, none⟩) x6_1.length co28) y281 := (by rw [hw, Ny281.out]; exact HP29.1); clear HP29; have n0_ := Aside0.mk (Kd.R_after (v := (.slice (some ⟨go27, 0, none⟩) x6_1.length co28)) (v1 := (.slice (some ⟨go27, 0, none⟩) x6_1.length co28)) (ok := (fun k_ => some k_ ≠ (v277 : Value).ownBlock ∧ some k_ ≠ (v279 : Value).ownBlock)) (by (with_reducible repeat (first | apply Kd.R_alloc | apply Kd.R_drewN | apply Kd.R_drew)); exact Kd.R_mono HO_5.out (fun _ hk => ⟨⟨hk.2.1, hk.2.2⟩, hk.1⟩)) hg (.inl rfl)); have n1_ := Aside0.mk (hp_); have n2_ := Aside0.mk (Kd.R_after (v := (.slice (some ⟨go27, 0, none⟩) x6_1.length co28)) (v1 := (.slice (some ⟨go27, 0, none⟩) x6_1.length co28)) (ok := (fun k_ => some k_ ≠ (.slice Ao21 y261.length co21 : Value).ownBlock ∧ some k_ ≠ (v279 : Value).ownBlock)) (by (with_reducible repeat (first | apply Kd.R_alloc | apply Kd.R_drewN | apply Kd.R_drew)); exact Kd.R_mono HO_7.out (fun _ hk => ⟨⟨hk.1, hk.2.2⟩, hk.2.1⟩)) hg (.inl rfl)); have n3_ := Aside0.mk (Kd.R_after (v := (.slice (some ⟨go27, 0, none⟩) x6_1.length co28)) (v1 := (.slice (some ⟨go27, 0, none⟩) x6_1.length co28)) (ok := (fun k_ => some k_ ≠ (.slice Ao21 y261.length co21 : Value).ownBlock ∧ some k_ ≠ (v277 : Value).ownBlock)) (by (with_reducible repeat (first | apply Kd.R_alloc | apply Kd.R_drewN | apply Kd.R_drew)); exact Kd.R_mono HO_8.out (fun _ hk => ⟨⟨hk.1, hk.2.2⟩, hk.2.1⟩)) hg (.inl rfl)); have n4_ := Aside0.mk ((by rw [hw]; exact below_set (HB.out) GB27.out : Below w.heap.size w w30)); clear HO_5; clear HO_6; clear HO_7; clear HO_8; clear HB; have HO_5 := n0_; have HO_6 := n1_; have HO_7 := n2_; have HO_8 := n3_; have HB := n4_; clear n0_ n1_ n2_ n3_ n4_; clear hg hw hp_))
                    go_roundg k1
                    case measure => have := HK1.out; omega
                    case rel => exact ⟨(y281), (wrap64 (x9_1 + 1)), (by first | rfl | (simp; done) | (simp [*]; done) | (simp [*, Fig.bne_nil]; done)), H', ⟨by have := HK1.out; omega⟩, ⟨by (with_reducible repeat (first | apply Kd.R_alloc | apply Kd.R_drewN | apply Kd.R_drew)); exact Kd.R_mono HO_5.out (fun _ hk => ⟨hk.2, ⟨hk.1.1, hk.1.2⟩⟩)⟩, ⟨by (with_reducible repeat (first | apply Kd.R_alloc | apply Kd.R_drewN | apply Kd.R_drew)); exact HO_6.out⟩, ⟨by (with_reducible repeat (first | apply Kd.R_alloc | apply Kd.R_drewN | apply Kd.R_drew)); exact Kd.R_mono HO_7.out (fun _ hk => ⟨hk.1.1, ⟨hk.2, hk.1.2⟩⟩)⟩, ⟨by (with_reducible repeat (first | apply Kd.R_alloc | apply Kd.R_drewN | apply Kd.R_drew)); exact Kd.R_mono HO_8.out (fun _ hk => ⟨hk.1.1, ⟨hk.2, hk.1.2⟩⟩)⟩, ⟨by repeat (first | (with_reducible first | exact HB.out | apply below_alloc | apply pw_below_drewN | apply below_drew1) | exact HB.out)⟩⟩
                  · rw [if_neg c26] at H
                    exact absurd H (by simp)
                · rw [if_neg c25] at H
                  have c25b0 : decide (x9_1 < (x6_1.length : Int)) = false := decide_eq_false c25
                  clear c25
                  have H' := Aside0.mk H
                  clear H
                  obtain ⟨Ao31, co31, eo31⟩ := Kd.R_slice HO_6.out
                  subst eo31
                  go_wp2
                  go_loopg [10] k1 (fun kq v10 w' => ∃ (x7_2 : List Int) (x10_2 : Int), v10 = .int .i64 x10_2 ∧ Aside0 (figureheadlaw04_TenOwn.l1 kq l0 y261 x7_2 t276 x10_2 = some r) ∧ Aside0 (kq ≤ k1) ∧ Aside0 (Kd.R (Kd.int .u32) 39 w' w.heap.size (fun k_ => some k_ ≠ (v277 : Value).ownBlock ∧ some k_ ≠ (v279 : Value).ownBlock) (.slice Ao21 y261.length co21) y261) ∧ Aside0 (Kd.R (Kd.int .u32) 39 w' w.heap.size (fun k_ => some k_ ≠ ((.slice Ao21 y261.length co21) : Value).ownBlock ∧ some k_ ≠ (v279 : Value).ownBlock) v277 x7_2) ∧ Aside0 (Kd.R (Kd.int .u32) 39 w' w.heap.size (fun k_ => some k_ ≠ ((.slice Ao21 y261.length co21) : Value).ownBlock ∧ some k_ ≠ (v277 : Value).ownBlock) v279 t276) ∧ Aside0 (Below w.heap.size w w'))
                  case atStart => exact ⟨(t275), (0), (by first | rfl | (simp; done) | (simp [*]; done) | (simp [*, Fig.bne_nil]; done)), H', ⟨Nat.le_refl _⟩, ⟨by (with_reducible repeat (first | apply Kd.R_alloc | apply Kd.R_drewN | apply Kd.R_drew)); exact Kd.R_mono HO_5.out (fun _ hk => ⟨hk.2.1, hk.2.2⟩)⟩, ⟨by (with_reducible repeat (first | apply Kd.R_alloc | apply Kd.R_drewN | apply Kd.R_drew)); exact Kd.R_mono HO_7.out (fun _ hk => ⟨hk.1, hk.2.2⟩)⟩, ⟨by (with_reducible repeat (first | apply Kd.R_alloc | apply Kd.R_drewN | apply Kd.R_drew)); exact Kd.R_mono HO_8.out (fun _ hk => ⟨hk.1, hk.2.2⟩)⟩, ⟨by repeat (first | (with_reducible first | exact HB.out | apply below_alloc | apply pw_below_drewN | apply below_drew1) | exact HB.out)⟩⟩
                  case round =>
                    clear H'
                    try clear c1
                    try clear c2
                    try clear p2
                    try clear q2
                    try clear hx2
                    try clear hf2
                    try clear c4
                    try clear c5
                    try clear c6
                    try clear p6
                    try clear c7
                    try clear c7b0
                    try clear c7b1
                    try clear c8
                    try clear c8b0
                    try clear c8b1
                    try clear c10
                    try clear c10b0
                    try clear c11
                    try clear c11b0
                    try clear c19
                    try clear c20
                    try clear q20
                    try clear q23
                    try clear c25
                    try clear c25b0
                    try clear c26
                    try clear c26b0
                    try clear p27
                    try clear q27
                    try clear hx27
                    try clear hf27
                    try clear hcut20
                    try clear hcut23
                    try clear hx27_0
                    try clear p2
                    try clear p27
                    try clear p6
                    try clear q2
                    try clear q20
                    try clear q23
                    try clear q27
                    obtain ⟨x7_2, x10_2, rfl, HA, HK2, HO_5, HO_7, HO_8, HB⟩ := hrel
                    cases gk with
                    | zero => exact absurd HA.out (by simp [figureheadlaw04_TenOwn.l1])
                    | succ k2 =>
                      have H := HA.out
                      clear HA
                      simp only [figureheadlaw04_TenOwn.l1] at H
                      by_cases c32 : x10_2 < (x7_2.length : Int)
                      · rw [if_pos c32] at H
                        have c32b0 : decide (x10_2 < (x7_2.length : Int)) = true := decide_eq_true c32
                        clear c32
                        by_cases c33 : 0 ≤ x10_2
                        · rw [if_pos c33] at H
                          have c33b0 : decide (0 ≤ x10_2) = true := decide_eq_true c33
                          clear c33
                          obtain ⟨y282, hy282⟩ : ∃ y_ : List Int, y_ = (x7_2.set (x10_2 : Int).toNat 5) := ⟨_, rfl⟩
                          replace H : (figureheadlaw04_TenOwn.l1 k2 l0 y261 y282 t276 (wrap64 (x10_2 + 1))) = some r := by first | (rw [hy282]; with_reducible exact H) | (have H2_ := (Option.bind_some _ _).symm.trans H; rw [hy282]; with_reducible exact H2_) | (have H2_ := (Option.bind_some _ _).symm.trans H; with_reducible exact H2_) | with_reducible exact H | (rw [hy282]; exact H) | exact H
                          have Ny282 := Aside0.mk hy282
                          clear hy282
                          have H' := Aside0.mk H
                          clear H
                          obtain ⟨Ao35, co35, eo35⟩ := Kd.R_slice HO_7.out
                          subst eo35
                          have p34 : 0 ≤ (x10_2 : Int) := of_decide_eq_true (by first | (with_reducible assumption) | assumption)
                          have q34 : (x10_2 : Int) < ((x7_2.length : Int) : Int) := of_decide_eq_true (by first | (with_reducible assumption) | assumption)
                          obtain ⟨go34, co34, eo34, gb34, gl34, cl34, HG34⟩ := Kd.R_form HO_7.out (by omega)
                          (first | cases eo34 | (injection eo34 with ea_ en_ ec_; (first | subst ea_ | (injection ea_ with ea_; subst ea_)); subst ec_; clear en_))
                          have GB34 := Aside0.mk gb34
                          have GG34 := Aside0.mk HG34
                          clear gb34 gl34 HG34
                          obtain ⟨hx34_0, hf34_0⟩ := Kd.R_celln 0 HO_7.out (x10_2 : Int) p34 q34
                          replace p34 := eq_true p34
                          replace q34 := eq_true q34
                          have HP36 := Kd.R_putg HO_7.out (x10_2 : Int) 5
                          go_wp2_with (first | ((with_reducible refine gate_store (t := 39) (p := 55) rfl ?_); refine store_event (t := 39) (p := 55) (v := ?vo_w37) (w1 := (wr.setCell ⟨go34, (x10_2 : Int).toNat, none⟩ (.int .u32 5))) ?hg ?ho ?hn ?hr ?_; (case ho => rfl); (case hg => rfl); (case hn => rfl); (case hr => first | (go_simp; done) | (go_simp; rfl)); intro w37 hw; have hg : wr.grownBy w37 (some go34) := (by rw [hw]; exact HP36.2); have hp_ : Kd.R (Kd.int .u32) 39 w37 w.heap.size (fun k_ => some k_ ≠ (.slice Ao21 y261.length co21 : Value).ownBlock ∧ some k_ ≠ (v279 : Value).ownBlock) (.slice (some ⟨go34, 0, none⟩) x7_2.length co35) y282 := (by rw [hw, Ny282.out]; exact HP36.1); clear HP36; have n0_ := Aside0.mk (Kd.R_after (v := (.slice (some ⟨go34, 0, none⟩) x7_2.length co35)) (v1 := (.slice (some ⟨go34, 0, none⟩) x7_2.length co35)) (ok := (fun k_ => some k_ ≠ (v279 : Value).ownBlock)) (by (with_reducible repeat (first | apply Kd.R_alloc | apply Kd.R_drewN | apply Kd.R_drew)); exact Kd.R_mono HO_5.out (fun _ hk => ⟨hk.2, hk.1⟩)) hg (.inl rfl)); have n1_ := Aside0.mk (hp_); have n2_ := Aside0.mk (Kd.R_after (v := (.slice (some ⟨go34, 0, none⟩) x7_2.length co35)) (v1 := (.slice (some ⟨go34, 0, none⟩) x7_2.length co35)) (ok := (fun k_ => some k_ ≠ (.slice Ao21 y261.length co21 : Value).ownBlock)) (by (with_reducible repeat (first | apply Kd.R_alloc | apply Kd.R_drewN | apply Kd.R_drew)); exact HO_8.out) hg (.inl rfl)); have n3_ := Aside0.mk ((by rw [hw]; exact below_set (HB.out) GB34.out : Below w.heap.size w w37)); clear HO_5; clear HO_7; clear HO_8; clear HB; have HO_5 := n0_; have HO_7 := n1_; have HO_8 := n2_; have HB := n3_; clear n0_ n1_ n2_ n3_; clear hg hw hp_))
                          go_roundg k2
                          case measure => have := HK1.out; have := HK2.out; omega
                          case rel => exact ⟨(y282), (wrap64 (x10_2 + 1)), (by first | rfl | (simp; done) | (simp [*]; done) | (simp [*, Fig.bne_nil]; done)), H', ⟨by have := HK1.out; have := HK2.out; omega⟩, ⟨by (with_reducible repeat (first | apply Kd.R_alloc | apply Kd.R_drewN | apply Kd.R_drew)); exact Kd.R_mono HO_5.out (fun _ hk => ⟨hk.2, hk.1⟩)⟩, ⟨by (with_reducible repeat (first | apply Kd.R_alloc | apply Kd.R_drewN | apply Kd.R_drew)); exact HO_7.out⟩, ⟨by (with_reducible repeat (first | apply Kd.R_alloc | apply Kd.R_drewN | apply Kd.R_drew)); exact HO_8.out⟩, ⟨by repeat (first | (with_reducible first | exact HB.out | apply below_alloc | apply pw_below_drewN | apply below_drew1) | exact HB.out)⟩⟩
                        · rw [if_neg c33] at H
                          exact absurd H (by simp)
                      · rw [if_neg c32] at H
                        have c32b0 : decide (x10_2 < (x7_2.length : Int)) = false := decide_eq_false c32
                        clear c32
                        have H' := Aside0.mk H
                        clear H
                        obtain ⟨Ao38, co38, eo38⟩ := Kd.R_slice HO_7.out
                        subst eo38
                        go_wp2
                        go_loopg [11] k2 (fun kq v11 w' => ∃ (x8_3 : List Int) (x11_3 : Int), v11 = .int .i64 x11_3 ∧ Aside0 (figureheadlaw04_TenOwn.l2 kq l0 y261 x8_3 x11_3 = some r) ∧ Aside0 (kq ≤ k2) ∧ Aside0 (Kd.R (Kd.int .u32) 39 w' w.heap.size (fun k_ => some k_ ≠ (v279 : Value).ownBlock) (.slice Ao21 y261.length co21) y261) ∧ Aside0 (Kd.R (Kd.int .u32) 39 w' w.heap.size (fun k_ => some k_ ≠ ((.slice Ao21 y261.length co21) : Value).ownBlock) v279 x8_3) ∧ Aside0 (Below w.heap.size w w'))
                        case atStart => exact ⟨(t276), (0), (by first | rfl | (simp; done) | (simp [*]; done) | (simp [*, Fig.bne_nil]; done)), H', ⟨Nat.le_refl _⟩, ⟨by (with_reducible repeat (first | apply Kd.R_alloc | apply Kd.R_drewN | apply Kd.R_drew)); exact Kd.R_mono HO_5.out (fun _ hk => hk.2)⟩, ⟨by (with_reducible repeat (first | apply Kd.R_alloc | apply Kd.R_drewN | apply Kd.R_drew)); exact Kd.R_mono HO_8.out (fun _ hk => hk.1)⟩, ⟨by repeat (first | (with_reducible first | exact HB.out | apply below_alloc | apply pw_below_drewN | apply below_drew1) | exact HB.out)⟩⟩
                        case round =>
                          clear H'
                          try clear c1
                          try clear c2
                          try clear p2
                          try clear q2
                          try clear hx2
                          try clear hf2
                          try clear c3
                          try clear p3
                          try clear q3
                          try clear hx3
                          try clear hf3
                          try clear c4
                          try clear c5
                          try clear c6
                          try clear p6
                          try clear c7
                          try clear c7b0
                          try clear c7b1
                          try clear c8
                          try clear c8b0
                          try clear c8b1
                          try clear c10
                          try clear c10b0
                          try clear c11
                          try clear c11b0
                          try clear c19
                          try clear c20
                          try clear q20
                          try clear q23
                          try clear c25
                          try clear c25b0
                          try clear c26
                          try clear c26b0
                          try clear p27
                          try clear q27
                          try clear hx27
                          try clear hf27
                          try clear c32
                          try clear c32b0
                          try clear c33
                          try clear c33b0
                          try clear p34
                          try clear q34
                          try clear hx34
                          try clear hf34
                          try clear hcut20
                          try clear hcut23
                          try clear hx27_0
                          try clear hx34_0
                          try clear p2
                          try clear p27
                          try clear p34
                          try clear p6
                          try clear q2
                          try clear q20
                          try clear q23
                          try clear q27
                          try clear q34
                          obtain ⟨x8_3, x11_3, rfl, HA, HK3, HO_5, HO_8, HB⟩ := hrel
                          cases gk with
                          | zero => exact absurd HA.out (by simp [figureheadlaw04_TenOwn.l2])
                          | succ k3 =>
                            have H := HA.out
                            clear HA
                            simp only [figureheadlaw04_TenOwn.l2] at H
                            by_cases c39 : x11_3 < (x8_3.length : Int)
                            · rw [if_pos c39] at H
                              have c39b0 : decide (x11_3 < (x8_3.length : Int)) = true := decide_eq_true c39
                              clear c39
                              by_cases c40 : 0 ≤ x11_3
                              · rw [if_pos c40] at H
                                have c40b0 : decide (0 ≤ x11_3) = true := decide_eq_true c40
                                clear c40
                                obtain ⟨y283, hy283⟩ : ∃ y_ : List Int, y_ = (x8_3.set (x11_3 : Int).toNat 5) := ⟨_, rfl⟩
                                replace H : (figureheadlaw04_TenOwn.l2 k3 l0 y261 y283 (wrap64 (x11_3 + 1))) = some r := by first | (rw [hy283]; with_reducible exact H) | (have H2_ := (Option.bind_some _ _).symm.trans H; rw [hy283]; with_reducible exact H2_) | (have H2_ := (Option.bind_some _ _).symm.trans H; with_reducible exact H2_) | with_reducible exact H | (rw [hy283]; exact H) | exact H
                                have Ny283 := Aside0.mk hy283
                                clear hy283
                                have H' := Aside0.mk H
                                clear H
                                obtain ⟨Ao42, co42, eo42⟩ := Kd.R_slice HO_8.out
                                subst eo42
                                have p41 : 0 ≤ (x11_3 : Int) := of_decide_eq_true (by first | (with_reducible assumption) | assumption)
                                have q41 : (x11_3 : Int) < ((x8_3.length : Int) : Int) := of_decide_eq_true (by first | (with_reducible assumption) | assumption)
                                obtain ⟨go41, co41, eo41, gb41, gl41, cl41, HG41⟩ := Kd.R_form HO_8.out (by omega)
                                (first | cases eo41 | (injection eo41 with ea_ en_ ec_; (first | subst ea_ | (injection ea_ with ea_; subst ea_)); subst ec_; clear en_))
                                have GB41 := Aside0.mk gb41
                                have GG41 := Aside0.mk HG41
                                clear gb41 gl41 HG41
                                obtain ⟨hx41_0, hf41_0⟩ := Kd.R_celln 0 HO_8.out (x11_3 : Int) p41 q41
                                replace p41 := eq_true p41
                                replace q41 := eq_true q41
                                have HP43 := Kd.R_putg HO_8.out (x11_3 : Int) 5
                                go_wp2_with (first | ((with_reducible refine gate_store (t := 39) (p := 64) rfl ?_); refine store_event (t := 39) (p := 64) (v := ?vo_w44) (w1 := (wr.setCell ⟨go41, (x11_3 : Int).toNat, none⟩ (.int .u32 5))) ?hg ?ho ?hn ?hr ?_; (case ho => rfl); (case hg => rfl); (case hn => rfl); (case hr => first | (go_simp; done) | (go_simp; rfl)); intro w44 hw; have hg : wr.grownBy w44 (some go41) := (by rw [hw]; exact HP43.2); have hp_ : Kd.R (Kd.int .u32) 39 w44 w.heap.size (fun k_ => some k_ ≠ (.slice Ao21 y261.length co21 : Value).ownBlock) (.slice (some ⟨go41, 0, none⟩) x8_3.length co42) y283 := (by rw [hw, Ny283.out]; exact HP43.1); clear HP43; have n0_ := Aside0.mk (Kd.R_after (v := (.slice (some ⟨go41, 0, none⟩) x8_3.length co42)) (v1 := (.slice (some ⟨go41, 0, none⟩) x8_3.length co42)) (ok := (fun _ => True)) (by (with_reducible repeat (first | apply Kd.R_alloc | apply Kd.R_drewN | apply Kd.R_drew)); exact Kd.R_mono HO_5.out (fun _ hk => ⟨trivial, hk⟩)) hg (.inl rfl)); have n1_ := Aside0.mk (hp_); have n2_ := Aside0.mk ((by rw [hw]; exact below_set (HB.out) GB41.out : Below w.heap.size w w44)); clear HO_5; clear HO_8; clear HB; have HO_5 := n0_; have HO_8 := n1_; have HB := n2_; clear n0_ n1_ n2_; clear hg hw hp_))
                                go_roundg k3
                                case measure => have := HK1.out; have := HK2.out; have := HK3.out; omega
                                case rel => exact ⟨(y283), (wrap64 (x11_3 + 1)), (by first | rfl | (simp; done) | (simp [*]; done) | (simp [*, Fig.bne_nil]; done)), H', ⟨by have := HK1.out; have := HK2.out; have := HK3.out; omega⟩, ⟨by (with_reducible repeat (first | apply Kd.R_alloc | apply Kd.R_drewN | apply Kd.R_drew)); exact Kd.R_mono HO_5.out (fun _ hk => hk.2)⟩, ⟨by (with_reducible repeat (first | apply Kd.R_alloc | apply Kd.R_drewN | apply Kd.R_drew)); exact HO_8.out⟩, ⟨by repeat (first | (with_reducible first | exact HB.out | apply below_alloc | apply pw_below_drewN | apply below_drew1) | exact HB.out)⟩⟩
                              · rw [if_neg c40] at H
                                exact absurd H (by simp)
                            · rw [if_neg c39] at H
                              have c39b0 : decide (x11_3 < (x8_3.length : Int)) = false := decide_eq_false c39
                              clear c39
                              replace H := Option.bind_eq_some_iff.mp H
                              obtain ⟨t284, A450, H⟩ := H
                              replace H : (if t284 = true then (if 0 ≤ (l0.length : Int) then (if (l0.length : Int) ≤ (y261.length : Int) then ((figureheadref01_Same.f k3 (y261.take ((l0.length : Int) : Int).toNat) l0).bind fun t289 => (if t289 = true then (if (l0.length : Int) < (y261.length : Int) then (some ((rd y261 (l0.length : Int)) == 7)) else (none)) else (some false))) else (none)) else (none)) else (some false)) = some r := H
                              have A45 := Aside0.mk A450
                              clear A450
                              by_cases c46 : t284 = true
                              · subst c46
                                have H1 : (if 0 ≤ (l0.length : Int) then (if (l0.length : Int) ≤ (y261.length : Int) then ((figureheadref01_Same.f k3 (y261.take ((l0.length : Int) : Int).toNat) l0).bind fun t289 => (if t289 = true then (if (l0.length : Int) < (y261.length : Int) then (some ((rd y261 (l0.length : Int)) == 7)) else (none)) else (some false))) else (none)) else (none)) = some r := by rw [if_pos rfl] at H; exact H
                                clear H
                                have H := H1
                                clear H1
                                by_cases c47 : 0 ≤ (l0.length : Int)
                                · rw [if_pos c47] at H
                                  have c47b0 := eq_true c47
                                  have c47b1 : decide (0 ≤ (l0.length : Int)) = true := decide_eq_true c47
                                  clear c47
                                  by_cases c48 : (l0.length : Int) ≤ (y261.length : Int)
                                  · rw [if_pos c48] at H
                                    have c48b0 := eq_true c48
                                    have c48b1 : decide ((l0.length : Int) ≤ (y261.length : Int)) = true := decide_eq_true c48
                                    clear c48
                                    obtain ⟨y285, hy285⟩ : ∃ y_ : List Int, y_ = (y261.take ((l0.length : Int) : Int).toNat) := ⟨_, rfl⟩
                                    replace H : ((figureheadref01_Same.f k3 y285 l0).bind fun t289 => (if t289 = true then (if (l0.length : Int) < (y261.length : Int) then (some ((rd y261 (l0.length : Int)) == 7)) else (none)) else (some false))) = some r := by first | (rw [hy285]; with_reducible exact H) | (have H2_ := (Option.bind_some _ _).symm.trans H; rw [hy285]; with_reducible exact H2_) | (have H2_ := (Option.bind_some _ _).symm.trans H; with_reducible exact H2_) | with_reducible exact H | (rw [hy285]; exact H) | exact H
                                    have Ny285 := Aside0.mk hy285
                                    clear hy285
                                    replace H := Option.bind_eq_some_iff.mp H
                                    obtain ⟨t289, A490, H⟩ := H
                                    replace H : (if t289 = true then (if (l0.length : Int) < (y261.length : Int) then (some ((rd y261 (l0.length : Int)) == 7)) else (none)) else (some false)) = some r := H
                                    have A49 := Aside0.mk A490
                                    clear A490
                                    by_cases c50 : t289 = true
                                    · subst c50
                                      have H1 : (if (l0.length : Int) < (y261.length : Int) then (some ((rd y261 (l0.length : Int)) == 7)) else (none)) = some r := by rw [if_pos rfl] at H; exact H
                                      clear H
                                      have H := H1
                                      clear H1
                                      by_cases c51 : (l0.length : Int) < (y261.length : Int)
                                      · rw [if_pos c51] at H
                                        have c51b0 : decide ((l0.length : Int) < (y261.length : Int)) = true := decide_eq_true c51
                                        have c51b1 : decide (l0.length < y261.length) = true := decide_eq_true (Int.ofNat_lt.mp c51)
                                        clear c51
                                        obtain rfl := Option.some.inj H
                                        obtain ⟨Ao52, co52, eo52⟩ := Kd.R_slice HO_8.out
                                        subst eo52
                                        go_wp2_with (first | ((with_reducible refine gate_callee (f := 9) rfl ?_); refine goesL_ (some 65) rfl rfl Tryd.func9 (by kernel_rfl) rfl #[] rfl (by (try simp only [List.map_toArray, List.map_cons, List.map_nil]); first | done | rfl | (simp only [List.length_drop, List.length_take]; rfl)) ?_; (with_reducible refine (figureheadlaw04_answers.calls  true _ ?side1 ?side2 A45.out).mono ?_); (case side1 => exact Fig.Glob.below HG.out (by repeat (first | (with_reducible first | exact HB.out | apply below_alloc | apply pw_below_drewN | apply below_drew1) | exact HB.out))); (case side2 => exact ⟨by first | rfl | exact HT.out⟩); rintro e w53 ⟨rfl, hb⟩; refine ⟨_, rfl, ?_⟩; have n0_ := Aside0.mk (Kd.R_below (by (with_reducible repeat (first | apply Kd.R_alloc | apply Kd.R_drewN | apply Kd.R_drew)); exact HO_5.out) hb); have n1_ := Aside0.mk (Kd.R_below (by (with_reducible repeat (first | apply Kd.R_alloc | apply Kd.R_drewN | apply Kd.R_drew)); exact HO_8.out) hb); have n2_ := Aside0.mk (below_step (by repeat (first | (with_reducible first | exact HB.out | apply below_alloc | apply pw_below_drewN | apply below_drew1) | exact HB.out)) hb); clear HO_5; clear HO_8; clear HB; have HO_5 := n0_; have HO_8 := n1_; have HB := n2_; clear n0_ n1_ n2_; (try clear hb); (try clear hb2); (try clear hk); (try clear hi); have q54 : ((l0.length : Int) : Int) ≤ ((y261.length : Int) : Int) := of_decide_eq_true (by first | (with_reducible assumption) | assumption); obtain ⟨i054, hi054, _, hsz54, _⟩ := info_parts info39; have hroom54 : y261.length ≤ co21 := (Kd.R_reads' HO_5.out).2.1; have hC54 : Kd.C (Kd.int .u32) _ Ao21 y261.length y261 := (Kd.R_reads' HO_5.out).2.2; (try clear hcut20); (try clear hcut23); (try clear hcut20); (try clear hcut23); have hcut54 := cut_to (P := Tryd.prog) 22 39 .i64 Tryd.underlying22 hi054 Ao21 y261.length co21 (l0.length : Int) (of_decide_eq_true (by first | (with_reducible assumption) | assumption)) q54 hroom54; have hr54 := Kd.C_take (m := ((l0.length : Int) : Int).toNat) hC54 (by omega); have hy54 : y285.length = ((l0.length : Int) : Int).toNat := (by rw [Ny285.out, List.length_take]; omega); rw [← Ny285.out] at hr54; rw [← hy54] at hcut54; have HR288 := Aside0.mk hr54; have HC288 := Aside0.mk (show y285.length ≤ co21 from by omega); clear hr54 hC54 hroom54 hi054 hsz54; have KY54 := Aside0.mk hy54; clear hy54; have KL54 := Aside0.mk (show ((l0.length : Int) : Int).toNat ≤ y261.length from by omega); replace q54 := eq_true q54) | ((with_reducible refine gate_dst (N := 72) rfl ?_); (try (refine gate_guard (by rfl) ?_; dsimp only)); (refine gate_guard (by rfl) ?_; dsimp only); (with_reducible refine gate_callee (f := 15) rfl ?_); refine goesL_ (some 72) rfl rfl Tryd.func15 (by kernel_rfl) rfl #[.slice Ao21 y285.length co21, .slice A0 l0.length c0] rfl (by (try simp only [List.map_toArray, List.map_cons, List.map_nil]); first | done | rfl | (simp only [List.length_drop, List.length_take]; rfl)) ?_; (with_reducible refine (figureheadref01_Same.calls k3 _ _ y285 _ _ l0 true _ ?side1 ?side2 ?side3 ?side4 A49.out).mono ?_); (case side1 => repeat (first | exact (by repeat (first | (with_reducible exact HR288.out) | (with_reducible refine Kd.C_alloc ?_ _) | (with_reducible refine Kd.C_drewN ?_ _) | (with_reducible refine Kd.C_drew ?_) | exact HR288.out)) | (with_reducible refine Kd.C_alloc ?_ _) | (with_reducible refine Kd.C_drewN ?_ _) | (with_reducible refine Kd.C_drew ?_))); (case side2 => exact HC288.out); (case side3 => repeat (first | exact (Kd.C_below HR0.out HB.out) | (with_reducible refine Kd.C_alloc ?_ _) | (with_reducible refine Kd.C_drewN ?_ _) | (with_reducible refine Kd.C_drew ?_))); (case side4 => exact HC0.out); rintro e w' ⟨rfl, ⟨nd, rfl⟩⟩; refine ⟨_, rfl, ?_⟩; have p290 : 0 ≤ ((l0.length : Int) : Int) := of_decide_eq_true (by first | (with_reducible assumption) | assumption); have q290 : (l0.length : Int) < (y261.length : Int) := of_decide_eq_true (by first | (with_reducible assumption) | assumption); obtain ⟨ad290, e290, hx290_0⟩ := Kd.at_int (Kd.R_reads' HO_5.out).2.2 (l0.length : Int) p290 q290; cases e290; (try simp only [Go.IntWalk.toNatUp] at hx290_0); replace p290 := eq_true p290; replace q290 := eq_true q290))
                                        go_ret
                                        exact ⟨by first | rfl | (simp [errW_none, errW_some] <;> rfl) | (simp [*, errW_none, errW_some] <;> rfl), by repeat (first | (with_reducible first | exact HB.out | apply below_alloc | apply pw_below_drewN | apply below_drew1) | exact HB.out)⟩
                                      · rw [if_neg c51] at H
                                        exact absurd H (by simp)
                                    · replace c50 := Bool.eq_false_iff.mpr c50
                                      subst c50
                                      have H1 : (some false) = some r := by rw [if_neg (show ¬ (false = true) by decide)] at H; exact H
                                      clear H
                                      have H := H1
                                      clear H1
                                      exact absurd ((Option.some.inj H).trans HT.out) (by decide)
                                  · rw [if_neg c48] at H
                                    exact absurd H (by simp)
                                · rw [if_neg c47] at H
                                  exact absurd H (by simp)
                              · replace c46 := Bool.eq_false_iff.mpr c46
                                subst c46
                                have H1 : (some false) = some r := by rw [if_neg (show ¬ (false = true) by decide)] at H; exact H
                                clear H
                                have H := H1
                                clear H1
                                exact absurd ((Option.some.inj H).trans HT.out) (by decide)
          · rw [if_neg c8] at H
            exact absurd H (by simp)
        · rw [if_neg c7] at H
          exact absurd H (by simp)
      · rw [if_neg c6] at H
        exact absurd H (by simp)
    · rw [if_neg c5] at H
      exact absurd H (by simp)
  · replace c4 := Bool.eq_false_iff.mpr c4
    subst c4
    have H1 : ((figureheadlaw04_answers.f).bind fun t251 => (some t251)) = some r := by rw [if_neg (show ¬ (false = true) by decide)] at H; exact H
    clear H
    have H := H1
    clear H1
    replace H := Option.bind_eq_some_iff.mp H
    obtain ⟨t251, A550, H⟩ := H
    replace H : (some t251) = some r := H
    have A55 := Aside0.mk A550
    clear A550
    obtain rfl := Option.some.inj H
    go_enter Tryd.func7, Tryd.ntmps7
    go_wp2_with (first | ((with_reducible refine gate_callee (f := 8) rfl ?_); refine goesL_ (some 13) rfl rfl Tryd.func8 (by kernel_rfl) rfl #[.slice A0 l0.length c0] rfl (by (try simp only [List.map_toArray, List.map_cons, List.map_nil]); first | done | rfl | (simp only [List.length_drop, List.length_take]; rfl)) ?_; (with_reducible refine (figureheadlaw04_good.calls k _ _ l0 false _ ?side1 ?side2 A3.out).mono ?_); (case side1 => repeat (first | exact HR0.out | (with_reducible refine Kd.C_alloc ?_ _) | (with_reducible refine Kd.C_drewN ?_ _) | (with_reducible refine Kd.C_drew ?_))); (case side2 => exact HC0.out); rintro e w' ⟨rfl, ⟨nd, rfl⟩⟩; refine ⟨_, rfl, ?_⟩) | ((with_reducible refine gate_callee (f := 9) rfl ?_); refine goesL_ (some 15) rfl rfl Tryd.func9 (by kernel_rfl) rfl #[] rfl (by (try simp only [List.map_toArray, List.map_cons, List.map_nil]); first | done | rfl | (simp only [List.length_drop, List.length_take]; rfl)) ?_; (with_reducible refine (figureheadlaw04_answers.calls  t251 _ ?side1 ?side2 A55.out).mono ?_); (case side1 => exact Fig.Glob.below HG.out (by repeat (first | (with_reducible first | exact HB.out | apply below_alloc | apply pw_below_drewN | apply below_drew1) | exact HB.out))); (case side2 => exact ⟨by first | rfl | exact HT.out⟩); rintro e w56 ⟨rfl, hb⟩; refine ⟨_, rfl, ?_⟩; have n0_ := Aside0.mk (below_step (by repeat (first | (with_reducible first | exact HB.out | apply below_alloc | apply pw_below_drewN | apply below_drew1) | exact HB.out)) hb); clear HB; have HB := n0_; clear n0_; (try clear hb); (try clear hb2); (try clear hk); (try clear hi)))
    go_ret
    exact ⟨by first | rfl | (simp [errW_none, errW_some] <;> rfl) | (simp [*, errW_none, errW_some] <;> rfl), by repeat (first | (with_reducible first | exact HB.out | apply below_alloc | apply pw_below_drewN | apply below_drew1) | exact HB.out)⟩

end Go.Proofs.YtnpibnjncjieaaaDoor.Px

namespace Go.Proofs.YtnpibnjncjieaaaDoor.Px
open Fig Go.RowKit Go.Proofs.YtnpibnjncjieaaaDoorW.PrintWords Go.Proofs.YtnpibnjncjieaaaDoorW.PrintLast Go.Proofs.YtnpibnjncjieaaaDoorW.PrintMore
attribute [local go_sem] max2_int min2_int max_two min_two max_three min_three max_four min_four   -- for this text's walks alone

/-! plain facts: figureheadref01_Good -/
theorem Good_loop (l : List Int) (hl : l.length ≤ 4611686018427387904) (h0 : ∀ x ∈ l, 0 ≤ x) : ∀ (d n : Nat), l.length - n = d → n ≤ l.length → Ev (fun k => figureheadref01_Good.l0 k l (n : Int)) (goodL (l.drop n))
  | 0, n, hd, hn => by
    refine evDone (r' := true) (fun k => ?_) ?_
    · simp only [figureheadref01_Good.l0]; rw [if_neg (by omega)]
    · rw [List.drop_of_length_le (by omega)]; rfl
  | d + 1, n, hd, hn => by
    have hlt : n < l.length := by omega
    have hb := rd_get hlt
    have hc := List.drop_eq_getElem_cons hlt
    have hp := h0 _ (List.getElem_mem hlt)
    by_cases h9 : rd l (n : Int) > 999999999
    · refine evDone (r' := false) (fun k => ?_) ?_
      · simp only [figureheadref01_Good.l0]; rw [if_pos (by omega), if_pos (by omega), if_pos h9]
      · rw [hc]; symm; rw [Bool.eq_false_iff]; intro e; have := (goodL_cons.1 e).1; omega
    · refine Ev.step (f := fun k => figureheadref01_Good.l0 k l ((n + 1 : Nat) : Int)) (fun k => ?_) ?_
      · simp only [figureheadref01_Good.l0]; rw [if_pos (by omega), if_pos (by omega), if_neg h9, w64 (by omega) (by omega)]; rfl
      · have := Good_loop l hl h0 d (n + 1) (by omega) (by omega)
        rw [hc]
        have e : goodL (l[n] :: l.drop (n + 1)) = goodL (l.drop (n + 1)) := by
          rw [Bool.eq_iff_iff, goodL_cons]
          exact ⟨fun h => h.2, fun h => ⟨⟨hp, by omega⟩, h⟩⟩
        rw [e]; exact this
theorem Good_ev {l : List Int} (hl : l.length ≤ 4611686018427387904) (h0 : ∀ x ∈ l, 0 ≤ x) : Ev (fun k => figureheadref01_Good.f k l) (goodL l) := by
  have := Good_loop l hl h0 l.length 0 (by omega) (by omega)
  simpa [figureheadref01_Good.f] using this

end Go.Proofs.YtnpibnjncjieaaaDoor.Px

namespace Go.Proofs.YtnpibnjncjieaaaDoor.Px
open Fig Go.RowKit Go.Proofs.YtnpibnjncjieaaaDoorW.PrintWords Go.Proofs.YtnpibnjncjieaaaDoorW.PrintLast Go.Proofs.YtnpibnjncjieaaaDoorW.PrintMore
attribute [local go_sem] max2_int min2_int max_two min_two max_three min_three max_four min_four   -- for this text's walks alone

/-! plain facts: figureheadlaw04_good -/
theorem good04_ev {l : List Int} (h0 : ∀ x ∈ l, 0 ≤ x ∧ x < 4294967296) (hl : l.length ≤ 1000000000000000000) : Ev (fun k => figureheadlaw04_good.f k l) (decide (l.length ≤ 40) && goodL l) := by
  unfold figureheadlaw04_good.f
  by_cases h : l.length ≤ 40
  · have h2 : (l.length : Int) ≤ 40 := by omega
    simp only [h2, h, if_true, decide_true, Bool.true_and]
    exact Ev.bind (Good_ev (by omega) (fun x hx => (h0 x hx).1)) (Ev.now _)
  · have h2 : ¬ (l.length : Int) ≤ 40 := by omega
    simp only [h2, h, if_false, decide_false, Bool.false_and]
    exact Ev.now _

end Go.Proofs.YtnpibnjncjieaaaDoor.Px

namespace Go.Proofs.YtnpibnjncjieaaaDoor.Px
open Fig Go.RowKit Go.Proofs.YtnpibnjncjieaaaDoorW.PrintWords Go.Proofs.YtnpibnjncjieaaaDoorW.PrintLast Go.Proofs.YtnpibnjncjieaaaDoorW.PrintMore
attribute [local go_sem] max2_int min2_int max_two min_two max_three min_three max_four min_four   -- for this text's walks alone

/-! plain facts: figureheadlaw04_answers -/
theorem limbs_eq {l : List Int} {n : Nat} (g : goodL l = true) (ht : trimL l = l) (hv : valL l = n) : limbs n = l := by rw [← hv, ← trimL_eq g, ht]
theorem answers04 : figureheadlaw04_answers.f = some true := by
  have n1 : ten_Number.f (⟨#[48, 48, 49, 50, 48, 48, 48, 48, 48, 48, 48, 51, 52]⟩ : ByteArray) = some ([34, 12], true) := by
    unfold ten_Number.f
    rw [if_pos (by decide), if_pos ⟨by decide, by decide⟩, limbs_eq (l := [34, 12]) (by decide) (by decide) (by decide)]
  have n2 : ten_Number.f (⟨#[]⟩ : ByteArray) = some ([], false) := by
    unfold ten_Number.f
    rw [if_pos (by decide), if_neg (by decide)]
  have c1 : ten_Cut.f [1234] 2 = some ([12], [34]) := by
    unfold ten_Cut.f
    rw [if_pos (by decide)]
    rw [limbs_eq (l := [12]) (by decide) (by decide) (by decide), limbs_eq (l := [34]) (by decide) (by decide) (by decide)]
  have hd : digB 12000000034 = (⟨#[49, 50, 48, 48, 48, 48, 48, 48, 48, 51, 52]⟩ : ByteArray) := by
    have := stripB_eq (s := (⟨#[49, 50, 48, 48, 48, 48, 48, 48, 48, 51, 52]⟩ : ByteArray)) (by decide)
    rw [show vB (⟨#[49, 50, 48, 48, 48, 48, 48, 48, 48, 51, 52]⟩ : ByteArray) = 12000000034 by decide] at this
    rw [← this]; rfl
  have dg : ten_Digits.f [34, 12] = some (⟨#[49, 50, 48, 48, 48, 48, 48, 48, 48, 51, 52]⟩ : ByteArray) := by
    unfold ten_Digits.f
    rw [if_pos (by decide), show valL [34, 12] = 12000000034 by decide, zeroB, if_neg (by decide), hd]
  have ln : ten_Len.f [34, 12] = some 11 := by
    unfold ten_Len.f
    rw [show nat_Trim.f [34, 12] = some [34, 12] by unfold nat_Trim.f trimF; rw [if_pos (by decide)]; decide]
    simp only [Option.bind_some]
    rw [if_neg (by decide), dg]; rfl
  unfold figureheadlaw04_answers.f
  rw [n1, n2, c1]
  simp only [Option.bind_some]
  rw [dg, ln]
  simp [rd]

end Go.Proofs.YtnpibnjncjieaaaDoor.Px

namespace Go.Proofs.YtnpibnjncjieaaaDoor.Px
open Fig Go.RowKit Go.Proofs.YtnpibnjncjieaaaDoorW.PrintWords Go.Proofs.YtnpibnjncjieaaaDoorW.PrintLast Go.Proofs.YtnpibnjncjieaaaDoorW.PrintMore
attribute [local go_sem] max2_int min2_int max_two min_two max_three min_three max_four min_four   -- for this text's walks alone

/-! plain facts: figureheadref01_Same -/
theorem Same_loop (a b : List Int) (hl : a.length ≤ 4611686018427387904) (he : a.length = b.length) : ∀ (d n : Nat), a.length - n = d → n ≤ a.length → Ev (fun k => figureheadref01_Same.l0 k a b (n : Int)) (decide (a.drop n = b.drop n))
  | 0, n, hd, hn => by
    refine evDone (r' := true) (fun k => ?_) ?_
    · simp only [figureheadref01_Same.l0]; rw [if_neg (by omega)]
    · rw [List.drop_of_length_le (by omega), List.drop_of_length_le (by omega)]; simp
  | d + 1, n, hd, hn => by
    have ha := rd_get (l := a) (n := n) (by omega)
    have hb := rd_get (l := b) (n := n) (by omega)
    have ca := List.drop_eq_getElem_cons (l := a) (i := n) (by omega)
    have cb := List.drop_eq_getElem_cons (l := b) (i := n) (by omega)
    by_cases h9 : rd a (n : Int) = rd b (n : Int)
    · refine Ev.step (f := fun k => figureheadref01_Same.l0 k a b ((n + 1 : Nat) : Int)) (fun k => ?_) ?_
      · simp only [figureheadref01_Same.l0]; rw [if_pos (by omega), if_pos (by omega), if_pos (by omega), if_pos h9, w64 (by omega) (by omega)]; rfl
      · have := Same_loop a b hl he d (n + 1) (by omega) (by omega)
        refine evIs this ?_
        rw [ca, cb, show a[n] = b[n] by rw [← ha, ← hb, h9]]
        simp only [List.cons.injEq, true_and]
    · refine evDone (r' := false) (fun k => ?_) ?_
      · simp only [figureheadref01_Same.l0]; rw [if_pos (by omega), if_pos (by omega), if_pos (by omega), if_neg h9]
      · rw [ca, cb]; symm; rw [decide_eq_false_iff_not]; intro e; injection e with e _
        rw [ha, hb] at h9; exact h9 e
theorem Same_ev {a b : List Int} (hl : a.length ≤ 4611686018427387904) : Ev (fun k => figureheadref01_Same.f k a b) (decide (a = b)) := by
  by_cases he : a.length = b.length
  · have := Same_loop a b hl he a.length 0 (by omega) (by omega)
    simp only [figureheadref01_Same.f, he, if_true]
    simpa using this
  · refine ⟨0, fun k _ => ?_⟩
    simp only [figureheadref01_Same.f]
    rw [if_neg (by omega)]; congr 1; symm; rw [decide_eq_false_iff_not]; rintro rfl; exact he rfl
theorem Same_self {a : List Int} (hl : a.length ≤ 4611686018427387904) : Ev (fun k => figureheadref01_Same.f k a a) true := by
  simpa using Same_ev (a := a) (b := a) hl
theorem Same_true {a b : List Int} (h : a = b) (hl : a.length ≤ 4611686018427387904) : Ev (fun k => figureheadref01_Same.f k a b) true := by subst h; exact Same_self hl

end Go.Proofs.YtnpibnjncjieaaaDoor.Px

namespace Go.Proofs.YtnpibnjncjieaaaDoor.Px
open Fig Go.RowKit Go.Proofs.YtnpibnjncjieaaaDoorW.PrintWords Go.Proofs.YtnpibnjncjieaaaDoorW.PrintLast Go.Proofs.YtnpibnjncjieaaaDoorW.PrintMore
attribute [local go_sem] max2_int min2_int max_two min_two max_three min_three max_four min_four   -- for this text's walks alone

/-! plain facts: figureheadlaw04_TenOwn -/
theorem own_take (x t : List Int) : (x ++ t).take ((x.length : Int) : Int).toNat = x := by rw [Int.toNat_natCast]; simp
theorem own_rd (x t : List Int) (j : Nat) (h : j < t.length) : rd (x ++ t) ((x.length + j : Nat) : Int) = t[j] := by
  rw [rd_get (by rw [List.length_append]; omega), List.getElem_append_right (by omega)]
  congr 1; omega
theorem own_rd0 (x t : List Int) (a : Int) : rd (x ++ (a :: t)) (x.length : Int) = a := own_rd x (a :: t) 0 (by simp)
theorem own_le (x t : List Int) : ((x.length : Int) ≤ ((x ++ t).length : Int)) = True := by rw [List.length_append]; simp; omega
theorem own_lt (x t : List Int) (a : Int) : ((x.length : Int) < ((x ++ (a :: t)).length : Int)) = True := by rw [List.length_append, List.length_cons]; simp; omega
theorem own_nn (x : List Int) : ((0 : Int) ≤ (x.length : Int)) = True := by simp
theorem TenOwn_l2 (x0 : List Int) (h0 : x0.length ≤ 60) : ∀ (d i : Nat) (x8 : List Int), x8.length - i = d → i ≤ x8.length → x8.length ≤ 1000000 → Ev (fun k => figureheadlaw04_TenOwn.l2 k x0 (x0 ++ [7, 7]) x8 (i : Int)) true
  | 0, i, x8, hd, hi, hl => by
    refine Ev.step (fun k => by simp only [figureheadlaw04_TenOwn.l2]; rw [if_neg (by omega)]) ?_
    refine Ev.bind (evSome fun _ => answers04) ?_
    simp only [if_true, own_nn, own_le, own_take]
    refine Ev.bind (Same_self (by omega)) ?_
    simp only [if_true, own_lt, own_rd0]
    exact evSome fun _ => rfl
  | d + 1, i, x8, hd, hi, hl => by
    refine Ev.step (f := fun k => figureheadlaw04_TenOwn.l2 k x0 (x0 ++ [7, 7]) (x8.set i 5) ((i + 1 : Nat) : Int)) (fun k => ?_) (TenOwn_l2 x0 h0 d (i + 1) (x8.set i 5) (by rw [List.length_set]; omega) (by rw [List.length_set]; omega) (by rw [List.length_set]; omega))
    simp only [figureheadlaw04_TenOwn.l2]
    rw [if_pos (by omega), if_pos (by omega), Int.toNat_natCast, succ64 _ (by omega)]
theorem TenOwn_l1 (x0 x8 : List Int) (h0 : x0.length ≤ 60) (h8 : x8.length ≤ 1000000) : ∀ (d i : Nat) (x7 : List Int), x7.length - i = d → i ≤ x7.length → x7.length ≤ 1000000 → Ev (fun k => figureheadlaw04_TenOwn.l1 k x0 (x0 ++ [7, 7]) x7 x8 (i : Int)) true
  | 0, i, x7, hd, hi, hl => by
    refine Ev.step (fun k => by simp only [figureheadlaw04_TenOwn.l1]; rw [if_neg (by omega)]) ?_
    exact TenOwn_l2 x0 h0 x8.length 0 x8 (by omega) (by omega) h8
  | d + 1, i, x7, hd, hi, hl => by
    refine Ev.step (f := fun k => figureheadlaw04_TenOwn.l1 k x0 (x0 ++ [7, 7]) (x7.set i 5) x8 ((i + 1 : Nat) : Int)) (fun k => ?_) (TenOwn_l1 x0 x8 h0 h8 d (i + 1) (x7.set i 5) (by rw [List.length_set]; omega) (by rw [List.length_set]; omega) (by rw [List.length_set]; omega))
    simp only [figureheadlaw04_TenOwn.l1]
    rw [if_pos (by omega), if_pos (by omega), Int.toNat_natCast, succ64 _ (by omega)]
theorem TenOwn_l0 (x0 x7 x8 : List Int) (h0 : x0.length ≤ 60) (h7 : x7.length ≤ 1000000) (h8 : x8.length ≤ 1000000) : ∀ (d i : Nat) (x6 : List Int), x6.length - i = d → i ≤ x6.length → x6.length ≤ 1000000 → Ev (fun k => figureheadlaw04_TenOwn.l0 k x0 (x0 ++ [7, 7]) x6 x7 x8 (i : Int)) true
  | 0, i, x6, hd, hi, hl => by
    refine Ev.step (fun k => by simp only [figureheadlaw04_TenOwn.l0]; rw [if_neg (by omega)]) ?_
    exact TenOwn_l1 x0 x8 h0 h8 x7.length 0 x7 (by omega) (by omega) h7
  | d + 1, i, x6, hd, hi, hl => by
    refine Ev.step (f := fun k => figureheadlaw04_TenOwn.l0 k x0 (x0 ++ [7, 7]) (x6.set i 5) x7 x8 ((i + 1 : Nat) : Int)) (fun k => ?_) (TenOwn_l0 x0 x7 x8 h0 h7 h8 d (i + 1) (x6.set i 5) (by rw [List.length_set]; omega) (by rw [List.length_set]; omega) (by rw [List.length_set]; omega))
    simp only [figureheadlaw04_TenOwn.l0]
    rw [if_pos (by omega), if_pos (by omega), Int.toNat_natCast, succ64 _ (by omega)]
theorem own_shift {n p k : Nat} (h : (digB n).size ≤ p) : (digB (n * 10 ^ k)).size ≤ p + k := by
  apply digs_size_lt
  rw [Nat.pow_add]
  exact Nat.mul_lt_mul_of_pos_right (digB_lt_pow h) (Nat.pow_pos (by decide))
theorem TenOwn_pure (l0 : List Int) (a1 : Int) (m0 : l0.length * 4 ≤ 140737488351232) (w0 : ∀ x ∈ l0, (Lit.int .u32 x).wf = true) (w1 : (Lit.int .u8 a1).wf = true) : ∃ k, figureheadlaw04_TenOwn.f k l0 a1 = some true := by
  have n0 := fun x hx => wf_u32 (w0 x hx)
  obtain ⟨p1, q1⟩ : 0 ≤ a1 ∧ a1 < 256 := by
    simp [Lit.wf, IntKind.min, IntKind.max, IntKind.signed, IntKind.bits] at w1; omega
  refine Ev.rounds (g := fun k => figureheadlaw04_TenOwn.f k l0 a1) ?_
  unfold figureheadlaw04_TenOwn.f
  refine Ev.bind (good04_ev n0 (by omega)) ?_
  cases hg : decide (l0.length ≤ 40) && goodL l0
  · simp only [Bool.false_eq_true, if_false]
    exact Ev.bind (evSome fun _ => answers04) (Ev.now true)
  · obtain ⟨h40, g0⟩ : l0.length ≤ 40 ∧ goodL l0 = true := by simpa using hg
    have c1 : ([] : List Int).length + l0.length < 35184372088832 := by simp; omega
    have c2 : l0.length + ([7, 7] : List Int).length < 35184372088832 := by simp; omega
    have z0 := digB_valL_size g0 h40
    have lz := own_shift (k := a1.toNat) z0
    have ls := limbs_len_digB (valL l0 * 10 ^ a1.toNat)
    have ld := limbs_len_digB (valL l0 / 10 ^ a1.toNat)
    have zd := digB_mono (Nat.div_le_self (valL l0) (10 ^ a1.toNat)) z0
    have lm := limbs_len_digB (valL l0 % 10 ^ a1.toNat)
    have zm := digB_mono (Nat.mod_le (valL l0) (10 ^ a1.toNat)) z0
    have hsh : ten_Shift.f l0 a1 = some (limbs (valL l0 * 10 ^ a1.toNat)) := by unfold ten_Shift.f; rw [if_pos ⟨g0, by omega, by omega⟩]
    have hct : ten_Cut.f l0 a1 = some (limbs (valL l0 / 10 ^ a1.toNat), limbs (valL l0 % 10 ^ a1.toNat)) := by unfold ten_Cut.f; rw [if_pos ⟨g0, by omega, by omega⟩]
    simp only [if_true, Option.bind_some, c1, List.nil_append, c2, own_nn, own_le, own_take, w64 (x := a1) (by omega) (by omega)]
    refine Ev.bind (evSome fun _ => hsh) (Ev.bind (evSome fun _ => hct) ?_)
    show Ev (fun k => figureheadlaw04_TenOwn.l0 k l0 (l0 ++ [7, 7]) (limbs (valL l0 * 10 ^ a1.toNat)) (limbs (valL l0 / 10 ^ a1.toNat)) (limbs (valL l0 % 10 ^ a1.toNat)) ((0 : Nat) : Int)) true
    exact TenOwn_l0 l0 _ _ (by omega) (by omega) (by omega) _ 0 _ rfl (by omega) (by omega)

end Go.Proofs.YtnpibnjncjieaaaDoor.Px
