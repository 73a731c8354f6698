/- The functions that the law DivOwn reaches, told as plain functions, with what is proved of them (part 1). -/
import Derived.Test.YtnpibnjncjieaaaPx0
import Derived.Test.YtnpibnjncjieaaaCDivOwn0
namespace Go.Proofs.Ytnpibnjncjieaaa.Px
open Fig Go.RowKit Go.Proofs.YtnpibnjncjieaaaW.PrintWords Go.Proofs.YtnpibnjncjieaaaW.PrintLast Go.Proofs.YtnpibnjncjieaaaW.PrintMore
attribute [local go_sem] max2_int min2_int max_two min_two max_three min_three max_four min_four   -- for this text's walks alone

/-! ### figureheadlaw03_DivOwn: function 6 -/
mutual
def figureheadlaw03_DivOwn.l0 : Nat → List Int → List Int → List Int → List Int → List Int → List Int → List Int → Int → Option (Bool)
  | 0, _, _, _, _, _, _, _, _ => none
  | k + 1, x0, x1, x5, x6, x7, x8, x10, x13 => if x13 < (x7.length : Int) then (if 0 ≤ x13 then (figureheadlaw03_DivOwn.l0 k x0 x1 x5 x6 (x7.set (x13 : Int).toNat 5) x8 x10 (wrap64 (x13 + 1))) else (none)) else (figureheadlaw03_DivOwn.l1 k x0 x1 x5 x6 x8 x10 0)
def figureheadlaw03_DivOwn.l1 : Nat → List Int → List Int → List Int → List Int → List Int → List Int → Int → Option (Bool)
  | 0, _, _, _, _, _, _, _ => none
  | k + 1, x0, x1, x5, x6, x8, x10, x14 => if x14 < (x8.length : Int) then (if 0 ≤ x14 then (figureheadlaw03_DivOwn.l1 k x0 x1 x5 x6 (x8.set (x14 : Int).toNat 5) x10 (wrap64 (x14 + 1))) else (none)) else (figureheadlaw03_DivOwn.l2 k x0 x1 x5 x6 x10 0)
def figureheadlaw03_DivOwn.l2 : Nat → List Int → List Int → List Int → List Int → List Int → Int → Option (Bool)
  | 0, _, _, _, _, _, _ => none
  | k + 1, x0, x1, x5, x6, x10, x15 => if x15 < (x10.length : Int) then (if 0 ≤ x15 then (figureheadlaw03_DivOwn.l2 k x0 x1 x5 x6 (x10.set (x15 : Int).toNat 5) (wrap64 (x15 + 1))) else (none)) else ((figureheadlaw03_answers.f k).bind fun t390 => (if t390 = true then (if 0 ≤ (x0.length : Int) then (if (x0.length : Int) ≤ (x5.length : Int) then ((figureheadref01_Same.f k (x5.take ((x0.length : Int) : Int).toNat) x0).bind fun t396 => (if t396 = true then (if 0 ≤ (x1.length : Int) then (if (x1.length : Int) ≤ (x6.length : Int) then ((figureheadref01_Same.f k (x6.take ((x1.length : Int) : Int).toNat) x1).bind fun t402 => (if t402 = true then (if (x0.length : Int) < (x5.length : Int) then (if (rd x5 (x0.length : Int)) = 7 then (if (x1.length : Int) < (x6.length : Int) then (some ((rd x6 (x1.length : Int)) == 8)) else (none)) else (some false)) else (none)) else (some false))) else (none)) else (none)) else (some false))) else (none)) else (none)) else (some false)))
end
def figureheadlaw03_DivOwn.f (k : Nat) (l0 : List Int) (l1 : List Int) : Option (Bool) := (figureheadlaw03_good.f k (([l0, l1] : List (List Int)))).bind fun t340 => (if t340 = true then ((some (([] : List Int) : List Int)).bind fun y342 => (if y342.length + l0.length < 35184372088832 then ((some (y342 ++ l0 : List Int)).bind fun y345 => (if y345.length < 35184372088832 then ((some (y345 ++ [7] : List Int)).bind fun y348 => ((some (([] : List Int) : List Int)).bind fun y351 => (if y351.length + l1.length < 35184372088832 then ((some (y351 ++ l1 : List Int)).bind fun y354 => (if y354.length < 35184372088832 then ((some (y354 ++ [8] : List Int)).bind fun y357 => (if 0 ≤ (l0.length : Int) then (if (l0.length : Int) ≤ (y348.length : Int) then (if 0 ≤ (l1.length : Int) then (if (l1.length : Int) ≤ (y357.length : Int) then ((div_DivMod.f k (y348.take ((l0.length : Int) : Int).toNat) (y357.take ((l1.length : Int) : Int).toNat)).bind fun bt370 => ((div_Small.f k (y348.take ((l0.length : Int) : Int).toNat) 3).bind fun bt382 => (figureheadlaw03_DivOwn.l0 k l0 l1 y348 y357 bt370.1 bt370.2.1 bt382.1 0))) else (none)) else (none)) else (none)) else (none))) else (none))) else (none)))) else (none))) else (none))) else ((figureheadlaw03_answers.f k).bind fun t341 => (some t341)))
theorem figureheadlaw03_DivOwn.mono_l : ∀ k, (∀ y0 y1 y2 y3 y4 y5 y6 y7, LeO (figureheadlaw03_DivOwn.l0 k y0 y1 y2 y3 y4 y5 y6 y7) (figureheadlaw03_DivOwn.l0 (k + 1) y0 y1 y2 y3 y4 y5 y6 y7)) ∧ (∀ y0 y1 y2 y3 y4 y5 y6, LeO (figureheadlaw03_DivOwn.l1 k y0 y1 y2 y3 y4 y5 y6) (figureheadlaw03_DivOwn.l1 (k + 1) y0 y1 y2 y3 y4 y5 y6)) ∧ (∀ y0 y1 y2 y3 y4 y5, LeO (figureheadlaw03_DivOwn.l2 k y0 y1 y2 y3 y4 y5) (figureheadlaw03_DivOwn.l2 (k + 1) y0 y1 y2 y3 y4 y5))
  | 0 => ⟨fun _ _ _ _ _ _ _ _ r h => by simp [figureheadlaw03_DivOwn.l0] at h, fun _ _ _ _ _ _ _ r h => by simp [figureheadlaw03_DivOwn.l1] at h, fun _ _ _ _ _ _ r h => by simp [figureheadlaw03_DivOwn.l2] at h⟩
  | k + 1 => by
    obtain ⟨ih0, ih1, ih2⟩ := figureheadlaw03_DivOwn.mono_l k
    refine ⟨?_, ?_, ?_⟩
    · intro y0 y1 y2 y3 y4 y5 y6 y7
      unfold figureheadlaw03_DivOwn.l0
      repeat' first
      | (with_reducible exact ih0 _ _ _ _ _ _ _ _)
      | (with_reducible exact ih1 _ _ _ _ _ _ _)
      | (with_reducible exact ih2 _ _ _ _ _ _)
      | (with_reducible exact div_DivMod.mono _ _ _)
      | (with_reducible exact div_Small.mono _ _ _)
      | (with_reducible exact figureheadlaw03_answers.mono _)
      | (with_reducible exact figureheadlaw03_good.mono _ _)
      | (with_reducible exact figureheadref01_Same.mono _ _ _)
      | (with_reducible exact LeO.refl _)
      | (with_reducible exact LeO.none _)
      | (with_reducible refine LeO.ite ?_ ?_)
      | (with_reducible refine LeO.bind ?_ (fun _ => ?_))
      | exact ih0 _ _ _ _ _ _ _ _
      | exact ih1 _ _ _ _ _ _ _
      | exact ih2 _ _ _ _ _ _
      | exact div_DivMod.mono _ _ _
      | exact div_Small.mono _ _ _
      | exact figureheadlaw03_answers.mono _
      | exact figureheadlaw03_good.mono _ _
      | exact figureheadref01_Same.mono _ _ _
      | exact LeO.none _
      | refine LeO.ite ?_ ?_
      | refine LeO.bind ?_ (fun _ => ?_)
    · intro y0 y1 y2 y3 y4 y5 y6
      unfold figureheadlaw03_DivOwn.l1
      repeat' first
      | (with_reducible exact ih0 _ _ _ _ _ _ _ _)
      | (with_reducible exact ih1 _ _ _ _ _ _ _)
      | (with_reducible exact ih2 _ _ _ _ _ _)
      | (with_reducible exact div_DivMod.mono _ _ _)
      | (with_reducible exact div_Small.mono _ _ _)
      | (with_reducible exact figureheadlaw03_answers.mono _)
      | (with_reducible exact figureheadlaw03_good.mono _ _)
      | (with_reducible exact figureheadref01_Same.mono _ _ _)
      | (with_reducible exact LeO.refl _)
      | (with_reducible exact LeO.none _)
      | (with_reducible refine LeO.ite ?_ ?_)
      | (with_reducible refine LeO.bind ?_ (fun _ => ?_))
      | exact ih0 _ _ _ _ _ _ _ _
      | exact ih1 _ _ _ _ _ _ _
      | exact ih2 _ _ _ _ _ _
      | exact div_DivMod.mono _ _ _
      | exact div_Small.mono _ _ _
      | exact figureheadlaw03_answers.mono _
      | exact figureheadlaw03_good.mono _ _
      | exact figureheadref01_Same.mono _ _ _
      | exact LeO.none _
      | refine LeO.ite ?_ ?_
      | refine LeO.bind ?_ (fun _ => ?_)
    · intro y0 y1 y2 y3 y4 y5
      unfold figureheadlaw03_DivOwn.l2
      repeat' first
      | (with_reducible exact ih0 _ _ _ _ _ _ _ _)
      | (with_reducible exact ih1 _ _ _ _ _ _ _)
      | (with_reducible exact ih2 _ _ _ _ _ _)
      | (with_reducible exact div_DivMod.mono _ _ _)
      | (with_reducible exact div_Small.mono _ _ _)
      | (with_reducible exact figureheadlaw03_answers.mono _)
      | (with_reducible exact figureheadlaw03_good.mono _ _)
      | (with_reducible exact figureheadref01_Same.mono _ _ _)
      | (with_reducible exact LeO.refl _)
      | (with_reducible exact LeO.none _)
      | (with_reducible refine LeO.ite ?_ ?_)
      | (with_reducible refine LeO.bind ?_ (fun _ => ?_))
      | exact ih0 _ _ _ _ _ _ _ _
      | exact ih1 _ _ _ _ _ _ _
      | exact ih2 _ _ _ _ _ _
      | exact div_DivMod.mono _ _ _
      | exact div_Small.mono _ _ _
      | exact figureheadlaw03_answers.mono _
      | exact figureheadlaw03_good.mono _ _
      | exact figureheadref01_Same.mono _ _ _
      | exact LeO.none _
      | refine LeO.ite ?_ ?_
      | refine LeO.bind ?_ (fun _ => ?_)
theorem figureheadlaw03_DivOwn.mono : ∀ a0 a1 k, LeO (figureheadlaw03_DivOwn.f k a0 a1) (figureheadlaw03_DivOwn.f (k + 1) a0 a1) := by
  intro a0 a1 k
  obtain ⟨ih0, ih1, ih2⟩ := figureheadlaw03_DivOwn.mono_l k
  unfold figureheadlaw03_DivOwn.f
  repeat' first
      | (with_reducible exact ih0 _ _ _ _ _ _ _ _)
      | (with_reducible exact ih1 _ _ _ _ _ _ _)
      | (with_reducible exact ih2 _ _ _ _ _ _)
      | (with_reducible exact div_DivMod.mono _ _ _)
      | (with_reducible exact div_Small.mono _ _ _)
      | (with_reducible exact figureheadlaw03_answers.mono _)
      | (with_reducible exact figureheadlaw03_good.mono _ _)
      | (with_reducible exact figureheadref01_Same.mono _ _ _)
      | (with_reducible exact LeO.refl _)
      | (with_reducible exact LeO.none _)
      | (with_reducible refine LeO.ite ?_ ?_)
      | (with_reducible refine LeO.bind ?_ (fun _ => ?_))
      | exact ih0 _ _ _ _ _ _ _ _
      | exact ih1 _ _ _ _ _ _ _
      | exact ih2 _ _ _ _ _ _
      | exact div_DivMod.mono _ _ _
      | exact div_Small.mono _ _ _
      | exact figureheadlaw03_answers.mono _
      | exact figureheadlaw03_good.mono _ _
      | exact figureheadref01_Same.mono _ _ _
      | exact LeO.none _
      | refine LeO.ite ?_ ?_
      | refine LeO.bind ?_ (fun _ => ?_)
def figureheadlaw03_DivOwn.T4 : Bool × List (List Nat × List Nat) := (true, [([], []), ([], []), ([1], [1]), ([0, 2], [0, 2]), ([], []), ([], []), ([5], [5]), ([4, 6], [4, 6]), ([3, 7], [3, 7]), ([8], [8]), ([9], [9]), ([9], [9]), ([9], [9]), ([10, 8, 0, 1, 2, 3, 4, 5, 6, 7, 8, 9, 10], [10]), ([11, 13, 0, 1, 2, 3, 4, 5, 6, 7, 8, 9, 10, 11, 13], [11]), ([12, 14, 0, 1, 2, 3, 4, 5, 6, 7, 8, 9, 10, 11, 12, 13, 14], [12])])
def figureheadlaw03_DivOwn.B4 : List Nat := [0, 0, 2, 7, 0, 0, 32, 112, 255, 511, 1023, 1023, 1023, 2047, 12287, 32767]
theorem figureheadlaw03_DivOwn.tab4 : rtab .any (opsOf Try.f6 4) = figureheadlaw03_DivOwn.T4 := by kernel_rfl
theorem figureheadlaw03_DivOwn.bits4 : waitsOk figureheadlaw03_DivOwn.T4.2 figureheadlaw03_DivOwn.B4 = true := by kernel_rfl
set_option maxHeartbeats 8000000 in
set_option maxRecDepth 100000 in
theorem figureheadlaw03_DivOwn.calls (k : Nat) (P0_ : Nat → Prop) (A0 : Option Addr) (c0 : Nat) (l0 : List Int) (P1_ : Nat → Prop) (A1 : Option Addr) (c1 : Nat) (l1 : List Int) (r : Bool) (w : World) (HT : Aside0 (r = true)) (hs0 : Kd.V (Kd.int .u32) 32 w w.heap.size (fun k_ => P0_ k_) (.slice A0 l0.length c0) l0) (hs1 : Kd.V (Kd.int .u32) 32 w w.heap.size (fun k_ => P1_ k_) (.slice A1 l1.length c1) l1) (h : figureheadlaw03_DivOwn.f k l0 l1 = some r) :
    Calls Try.prog 6 #[.slice A0 l0.length c0, .slice A1 l1.length c1] w fun e w' => e = .returned (.bool r) ∧ Below w.heap.size w w' := by
  have HO0 := Aside0.mk (show Kd.V (Kd.int .u32) 32 w w.heap.size (fun k_ => ((P0_ k_ ∨ P1_ k_) ∨ w.heap.size ≤ k_)) (.slice A0 l0.length c0) l0 from Kd.V_mono hs0 (fun k_ hk => .inl (.inl hk)))
  have HO1 := Aside0.mk (show Kd.V (Kd.int .u32) 32 w w.heap.size (fun k_ => ((P0_ k_ ∨ P1_ k_) ∨ w.heap.size ≤ k_)) (.slice A1 l1.length c1) l1 from Kd.V_mono hs1 (fun k_ hk => .inl (.inr hk)))
  have HB := Aside0.mk (Below.refl w.heap.size w)
  have H : ((figureheadlaw03_good.f k (([l0, l1] : List (List Int)))).bind fun t340 => (if t340 = true then ((some (([] : List Int) : List Int)).bind fun y342 => (if y342.length + l0.length < 35184372088832 then ((some (y342 ++ l0 : List Int)).bind fun y345 => (if y345.length < 35184372088832 then ((some (y345 ++ [7] : List Int)).bind fun y348 => ((some (([] : List Int) : List Int)).bind fun y351 => (if y351.length + l1.length < 35184372088832 then ((some (y351 ++ l1 : List Int)).bind fun y354 => (if y354.length < 35184372088832 then ((some (y354 ++ [8] : List Int)).bind fun y357 => (if 0 ≤ (l0.length : Int) then (if (l0.length : Int) ≤ (y348.length : Int) then (if 0 ≤ (l1.length : Int) then (if (l1.length : Int) ≤ (y357.length : Int) then ((div_DivMod.f k (y348.take ((l0.length : Int) : Int).toNat) (y357.take ((l1.length : Int) : Int).toNat)).bind fun bt370 => ((div_Small.f k (y348.take ((l0.length : Int) : Int).toNat) 3).bind fun bt382 => (figureheadlaw03_DivOwn.l0 k l0 l1 y348 y357 bt370.1 bt370.2.1 bt382.1 0))) else (none)) else (none)) else (none)) else (none))) else (none))) else (none)))) else (none))) else (none))) else ((figureheadlaw03_answers.f k).bind fun t341 => (some t341)))) = some r := h
  clear h
  obtain ⟨y337, hy337⟩ : ∃ y_ : List (List Int), y_ = (([l0, l1] : List (List Int))) := ⟨_, rfl⟩
  replace H : ((figureheadlaw03_good.f k y337).bind fun t340 => (if t340 = true then ((some (([] : List Int) : List Int)).bind fun y342 => (if y342.length + l0.length < 35184372088832 then ((some (y342 ++ l0 : List Int)).bind fun y345 => (if y345.length < 35184372088832 then ((some (y345 ++ [7] : List Int)).bind fun y348 => ((some (([] : List Int) : List Int)).bind fun y351 => (if y351.length + l1.length < 35184372088832 then ((some (y351 ++ l1 : List Int)).bind fun y354 => (if y354.length < 35184372088832 then ((some (y354 ++ [8] : List Int)).bind fun y357 => (if 0 ≤ (l0.length : Int) then (if (l0.length : Int) ≤ (y348.length : Int) then (if 0 ≤ (l1.length : Int) then (if (l1.length : Int) ≤ (y357.length : Int) then ((div_DivMod.f k (y348.take ((l0.length : Int) : Int).toNat) (y357.take ((l1.length : Int) : Int).toNat)).bind fun bt370 => ((div_Small.f k (y348.take ((l0.length : Int) : Int).toNat) 3).bind fun bt382 => (figureheadlaw03_DivOwn.l0 k l0 l1 y348 y357 bt370.1 bt370.2.1 bt382.1 0))) else (none)) else (none)) else (none)) else (none))) else (none))) else (none)))) else (none))) else (none))) else ((figureheadlaw03_answers.f k).bind fun t341 => (some t341)))) = some r := by first | (rw [hy337]; with_reducible exact H) | (have H2_ := (Option.bind_some _ _).symm.trans H; rw [hy337]; with_reducible exact H2_) | (have H2_ := (Option.bind_some _ _).symm.trans H; with_reducible exact H2_) | with_reducible exact H | (rw [hy337]; exact H) | exact H
  have Ny337 := Aside0.mk hy337
  clear hy337
  replace H := Option.bind_eq_some_iff.mp H
  obtain ⟨t340, A30, H⟩ := H
  replace H : (if t340 = true then ((some (([] : List Int) : List Int)).bind fun y342 => (if y342.length + l0.length < 35184372088832 then ((some (y342 ++ l0 : List Int)).bind fun y345 => (if y345.length < 35184372088832 then ((some (y345 ++ [7] : List Int)).bind fun y348 => ((some (([] : List Int) : List Int)).bind fun y351 => (if y351.length + l1.length < 35184372088832 then ((some (y351 ++ l1 : List Int)).bind fun y354 => (if y354.length < 35184372088832 then ((some (y354 ++ [8] : List Int)).bind fun y357 => (if 0 ≤ (l0.length : Int) then (if (l0.length : Int) ≤ (y348.length : Int) then (if 0 ≤ (l1.length : Int) then (if (l1.length : Int) ≤ (y357.length : Int) then ((div_DivMod.f k (y348.take ((l0.length : Int) : Int).toNat) (y357.take ((l1.length : Int) : Int).toNat)).bind fun bt370 => ((div_Small.f k (y348.take ((l0.length : Int) : Int).toNat) 3).bind fun bt382 => (figureheadlaw03_DivOwn.l0 k l0 l1 y348 y357 bt370.1 bt370.2.1 bt382.1 0))) else (none)) else (none)) else (none)) else (none))) else (none))) else (none)))) else (none))) else (none))) else ((figureheadlaw03_answers.f k).bind fun t341 => (some t341))) = some r := H
  have A3 := Aside0.mk A30
  clear A30
  by_cases c4 : t340 = true
  · subst c4
    have H1 : ((some (([] : List Int) : List Int)).bind fun y342 => (if y342.length + l0.length < 35184372088832 then ((some (y342 ++ l0 : List Int)).bind fun y345 => (if y345.length < 35184372088832 then ((some (y345 ++ [7] : List Int)).bind fun y348 => ((some (([] : List Int) : List Int)).bind fun y351 => (if y351.length + l1.length < 35184372088832 then ((some (y351 ++ l1 : List Int)).bind fun y354 => (if y354.length < 35184372088832 then ((some (y354 ++ [8] : List Int)).bind fun y357 => (if 0 ≤ (l0.length : Int) then (if (l0.length : Int) ≤ (y348.length : Int) then (if 0 ≤ (l1.length : Int) then (if (l1.length : Int) ≤ (y357.length : Int) then ((div_DivMod.f k (y348.take ((l0.length : Int) : Int).toNat) (y357.take ((l1.length : Int) : Int).toNat)).bind fun bt370 => ((div_Small.f k (y348.take ((l0.length : Int) : Int).toNat) 3).bind fun bt382 => (figureheadlaw03_DivOwn.l0 k l0 l1 y348 y357 bt370.1 bt370.2.1 bt382.1 0))) else (none)) else (none)) else (none)) else (none))) else (none))) else (none)))) else (none))) else (none))) = some r := by rw [if_pos rfl] at H; exact H
    clear H
    have H := H1
    clear H1
    obtain ⟨y342, hy342⟩ : ∃ y_ : List Int, y_ = (([] : List Int)) := ⟨_, rfl⟩
    replace H : (if y342.length + l0.length < 35184372088832 then ((some (y342 ++ l0 : List Int)).bind fun y345 => (if y345.length < 35184372088832 then ((some (y345 ++ [7] : List Int)).bind fun y348 => ((some (([] : List Int) : List Int)).bind fun y351 => (if y351.length + l1.length < 35184372088832 then ((some (y351 ++ l1 : List Int)).bind fun y354 => (if y354.length < 35184372088832 then ((some (y354 ++ [8] : List Int)).bind fun y357 => (if 0 ≤ (l0.length : Int) then (if (l0.length : Int) ≤ (y348.length : Int) then (if 0 ≤ (l1.length : Int) then (if (l1.length : Int) ≤ (y357.length : Int) then ((div_DivMod.f k (y348.take ((l0.length : Int) : Int).toNat) (y357.take ((l1.length : Int) : Int).toNat)).bind fun bt370 => ((div_Small.f k (y348.take ((l0.length : Int) : Int).toNat) 3).bind fun bt382 => (figureheadlaw03_DivOwn.l0 k l0 l1 y348 y357 bt370.1 bt370.2.1 bt382.1 0))) else (none)) else (none)) else (none)) else (none))) else (none))) else (none)))) else (none))) else (none)) = some r := by first | (rw [hy342]; with_reducible exact H) | (have H2_ := (Option.bind_some _ _).symm.trans H; rw [hy342]; with_reducible exact H2_) | (have H2_ := (Option.bind_some _ _).symm.trans H; with_reducible exact H2_) | with_reducible exact H | (rw [hy342]; exact H) | exact H
    have Ny342 := Aside0.mk hy342
    clear hy342
    by_cases c5 : y342.length + l0.length < 35184372088832
    · rw [if_pos c5] at H
      have LMc5 := Aside0.mk c5
      clear c5
      obtain ⟨y345, hy345⟩ : ∃ y_ : List Int, y_ = (y342 ++ l0) := ⟨_, rfl⟩
      replace H : (if y345.length < 35184372088832 then ((some (y345 ++ [7] : List Int)).bind fun y348 => ((some (([] : List Int) : List Int)).bind fun y351 => (if y351.length + l1.length < 35184372088832 then ((some (y351 ++ l1 : List Int)).bind fun y354 => (if y354.length < 35184372088832 then ((some (y354 ++ [8] : List Int)).bind fun y357 => (if 0 ≤ (l0.length : Int) then (if (l0.length : Int) ≤ (y348.length : Int) then (if 0 ≤ (l1.length : Int) then (if (l1.length : Int) ≤ (y357.length : Int) then ((div_DivMod.f k (y348.take ((l0.length : Int) : Int).toNat) (y357.take ((l1.length : Int) : Int).toNat)).bind fun bt370 => ((div_Small.f k (y348.take ((l0.length : Int) : Int).toNat) 3).bind fun bt382 => (figureheadlaw03_DivOwn.l0 k l0 l1 y348 y357 bt370.1 bt370.2.1 bt382.1 0))) else (none)) else (none)) else (none)) else (none))) else (none))) else (none)))) else (none)) = some r := by first | (rw [hy345]; with_reducible exact H) | (have H2_ := (Option.bind_some _ _).symm.trans H; rw [hy345]; with_reducible exact H2_) | (have H2_ := (Option.bind_some _ _).symm.trans H; with_reducible exact H2_) | with_reducible exact H | (rw [hy345]; exact H) | exact H
      have Ny345 := Aside0.mk hy345
      clear hy345
      by_cases c6 : y345.length < 35184372088832
      · rw [if_pos c6] at H
        have LMc6 := Aside0.mk c6
        clear c6
        obtain ⟨y348, hy348⟩ : ∃ y_ : List Int, y_ = (y345 ++ [7]) := ⟨_, rfl⟩
        replace H : ((some (([] : List Int) : List Int)).bind fun y351 => (if y351.length + l1.length < 35184372088832 then ((some (y351 ++ l1 : List Int)).bind fun y354 => (if y354.length < 35184372088832 then ((some (y354 ++ [8] : List Int)).bind fun y357 => (if 0 ≤ (l0.length : Int) then (if (l0.length : Int) ≤ (y348.length : Int) then (if 0 ≤ (l1.length : Int) then (if (l1.length : Int) ≤ (y357.length : Int) then ((div_DivMod.f k (y348.take ((l0.length : Int) : Int).toNat) (y357.take ((l1.length : Int) : Int).toNat)).bind fun bt370 => ((div_Small.f k (y348.take ((l0.length : Int) : Int).toNat) 3).bind fun bt382 => (figureheadlaw03_DivOwn.l0 k l0 l1 y348 y357 bt370.1 bt370.2.1 bt382.1 0))) else (none)) else (none)) else (none)) else (none))) else (none))) else (none))) = some r := by first | (rw [hy348]; with_reducible exact H) | (have H2_ := (Option.bind_some _ _).symm.trans H; rw [hy348]; with_reducible exact H2_) | (have H2_ := (Option.bind_some _ _).symm.trans H; with_reducible exact H2_) | with_reducible exact H | (rw [hy348]; exact H) | exact H
        have Ny348 := Aside0.mk hy348
        clear hy348
        obtain ⟨y351, hy351⟩ : ∃ y_ : List Int, y_ = (([] : List Int)) := ⟨_, rfl⟩
        replace H : (if y351.length + l1.length < 35184372088832 then ((some (y351 ++ l1 : List Int)).bind fun y354 => (if y354.length < 35184372088832 then ((some (y354 ++ [8] : List Int)).bind fun y357 => (if 0 ≤ (l0.length : Int) then (if (l0.length : Int) ≤ (y348.length : Int) then (if 0 ≤ (l1.length : Int) then (if (l1.length : Int) ≤ (y357.length : Int) then ((div_DivMod.f k (y348.take ((l0.length : Int) : Int).toNat) (y357.take ((l1.length : Int) : Int).toNat)).bind fun bt370 => ((div_Small.f k (y348.take ((l0.length : Int) : Int).toNat) 3).bind fun bt382 => (figureheadlaw03_DivOwn.l0 k l0 l1 y348 y357 bt370.1 bt370.2.1 bt382.1 0))) else (none)) else (none)) else (none)) else (none))) else (none))) else (none)) = some r := by first | (rw [hy351]; with_reducible exact H) | (have H2_ := (Option.bind_some _ _).symm.trans H; rw [hy351]; with_reducible exact H2_) | (have H2_ := (Option.bind_some _ _).symm.trans H; with_reducible exact H2_) | with_reducible exact H | (rw [hy351]; exact H) | exact H
        have Ny351 := Aside0.mk hy351
        clear hy351
        by_cases c7 : y351.length + l1.length < 35184372088832
        · rw [if_pos c7] at H
          have LMc7 := Aside0.mk c7
          clear c7
          obtain ⟨y354, hy354⟩ : ∃ y_ : List Int, y_ = (y351 ++ l1) := ⟨_, rfl⟩
          replace H : (if y354.length < 35184372088832 then ((some (y354 ++ [8] : List Int)).bind fun y357 => (if 0 ≤ (l0.length : Int) then (if (l0.length : Int) ≤ (y348.length : Int) then (if 0 ≤ (l1.length : Int) then (if (l1.length : Int) ≤ (y357.length : Int) then ((div_DivMod.f k (y348.take ((l0.length : Int) : Int).toNat) (y357.take ((l1.length : Int) : Int).toNat)).bind fun bt370 => ((div_Small.f k (y348.take ((l0.length : Int) : Int).toNat) 3).bind fun bt382 => (figureheadlaw03_DivOwn.l0 k l0 l1 y348 y357 bt370.1 bt370.2.1 bt382.1 0))) else (none)) else (none)) else (none)) else (none))) else (none)) = some r := by first | (rw [hy354]; with_reducible exact H) | (have H2_ := (Option.bind_some _ _).symm.trans H; rw [hy354]; with_reducible exact H2_) | (have H2_ := (Option.bind_some _ _).symm.trans H; with_reducible exact H2_) | with_reducible exact H | (rw [hy354]; exact H) | exact H
          have Ny354 := Aside0.mk hy354
          clear hy354
          by_cases c8 : y354.length < 35184372088832
          · rw [if_pos c8] at H
            have LMc8 := Aside0.mk c8
            clear c8
            obtain ⟨y357, hy357⟩ : ∃ y_ : List Int, y_ = (y354 ++ [8]) := ⟨_, rfl⟩
            replace H : (if 0 ≤ (l0.length : Int) then (if (l0.length : Int) ≤ (y348.length : Int) then (if 0 ≤ (l1.length : Int) then (if (l1.length : Int) ≤ (y357.length : Int) then ((div_DivMod.f k (y348.take ((l0.length : Int) : Int).toNat) (y357.take ((l1.length : Int) : Int).toNat)).bind fun bt370 => ((div_Small.f k (y348.take ((l0.length : Int) : Int).toNat) 3).bind fun bt382 => (figureheadlaw03_DivOwn.l0 k l0 l1 y348 y357 bt370.1 bt370.2.1 bt382.1 0))) else (none)) else (none)) else (none)) else (none)) = some r := by first | (rw [hy357]; with_reducible exact H) | (have H2_ := (Option.bind_some _ _).symm.trans H; rw [hy357]; with_reducible exact H2_) | (have H2_ := (Option.bind_some _ _).symm.trans H; with_reducible exact H2_) | with_reducible exact H | (rw [hy357]; exact H) | exact H
            have Ny357 := Aside0.mk hy357
            clear hy357
            by_cases c9 : 0 ≤ (l0.length : Int)
            · rw [if_pos c9] at H
              have c9b0 := eq_true c9
              have c9b1 : decide (0 ≤ (l0.length : Int)) = true := decide_eq_true c9
              clear c9
              by_cases c10 : (l0.length : Int) ≤ (y348.length : Int)
              · rw [if_pos c10] at H
                have c10b0 := eq_true c10
                have c10b1 : decide ((l0.length : Int) ≤ (y348.length : Int)) = true := decide_eq_true c10
                clear c10
                obtain ⟨y360, hy360⟩ : ∃ y_ : List Int, y_ = (y348.take ((l0.length : Int) : Int).toNat) := ⟨_, rfl⟩
                replace H : (if 0 ≤ (l1.length : Int) then (if (l1.length : Int) ≤ (y357.length : Int) then ((div_DivMod.f k y360 (y357.take ((l1.length : Int) : Int).toNat)).bind fun bt370 => ((div_Small.f k (y348.take ((l0.length : Int) : Int).toNat) 3).bind fun bt382 => (figureheadlaw03_DivOwn.l0 k l0 l1 y348 y357 bt370.1 bt370.2.1 bt382.1 0))) else (none)) else (none)) = some r := by first | (rw [hy360]; with_reducible exact H) | (have H2_ := (Option.bind_some _ _).symm.trans H; rw [hy360]; with_reducible exact H2_) | (have H2_ := (Option.bind_some _ _).symm.trans H; with_reducible exact H2_) | with_reducible exact H | (rw [hy360]; exact H) | exact H
                have Ny360 := Aside0.mk hy360
                clear hy360
                by_cases c11 : 0 ≤ (l1.length : Int)
                · rw [if_pos c11] at H
                  have c11b0 := eq_true c11
                  have c11b1 : decide (0 ≤ (l1.length : Int)) = true := decide_eq_true c11
                  clear c11
                  by_cases c12 : (l1.length : Int) ≤ (y357.length : Int)
                  · rw [if_pos c12] at H
                    have c12b0 := eq_true c12
                    have c12b1 : decide ((l1.length : Int) ≤ (y357.length : Int)) = true := decide_eq_true c12
                    clear c12
                    obtain ⟨y365, hy365⟩ : ∃ y_ : List Int, y_ = (y357.take ((l1.length : Int) : Int).toNat) := ⟨_, rfl⟩
                    replace H : ((div_DivMod.f k y360 y365).bind fun bt370 => ((div_Small.f k (y348.take ((l0.length : Int) : Int).toNat) 3).bind fun bt382 => (figureheadlaw03_DivOwn.l0 k l0 l1 y348 y357 bt370.1 bt370.2.1 bt382.1 0))) = some r := by first | (rw [hy365]; with_reducible exact H) | (have H2_ := (Option.bind_some _ _).symm.trans H; rw [hy365]; with_reducible exact H2_) | (have H2_ := (Option.bind_some _ _).symm.trans H; with_reducible exact H2_) | with_reducible exact H | (rw [hy365]; exact H) | exact H
                    have Ny365 := Aside0.mk hy365
                    clear hy365
                    replace H := Option.bind_eq_some_iff.mp H
                    obtain ⟨⟨t370, t371, t372⟩, A130, H⟩ := H
                    replace H : ((div_Small.f k (y348.take ((l0.length : Int) : Int).toNat) 3).bind fun bt382 => (figureheadlaw03_DivOwn.l0 k l0 l1 y348 y357 t370 t371 bt382.1 0)) = some r := H
                    have A13 := Aside0.mk A130
                    clear A130
                    have c14b0 := eq_true (of_decide_eq_true (by first | (with_reducible assumption) | assumption) : 0 ≤ (l0.length : Int))
                    have c15b0 := eq_true (of_decide_eq_true (by first | (with_reducible assumption) | assumption) : (l0.length : Int) ≤ (y348.length : Int))
                    obtain ⟨y377, hy377⟩ : ∃ y_ : List Int, y_ = (y348.take ((l0.length : Int) : Int).toNat) := ⟨_, rfl⟩
                    replace H : ((div_Small.f k y377 3).bind fun bt382 => (figureheadlaw03_DivOwn.l0 k l0 l1 y348 y357 t370 t371 bt382.1 0)) = some r := by first | (rw [hy377]; with_reducible exact H) | (have H2_ := (Option.bind_some _ _).symm.trans H; rw [hy377]; with_reducible exact H2_) | (have H2_ := (Option.bind_some _ _).symm.trans H; with_reducible exact H2_) | with_reducible exact H | (rw [hy377]; exact H) | exact H
                    have Ny377 := Aside0.mk hy377
                    clear hy377
                    replace H := Option.bind_eq_some_iff.mp H
                    obtain ⟨⟨t382, t383, t384⟩, A160, H⟩ := H
                    replace H : (figureheadlaw03_DivOwn.l0 k l0 l1 y348 y357 t370 t371 t382 0) = some r := H
                    have A16 := Aside0.mk A160
                    clear A160
                    have H' := Aside0.mk H
                    clear H
                    go_enter Try.func6, Try.ntmps6
                    try go_wp2_with (first | ((with_reducible refine gate_dst (N := 18) rfl ?_); (try (refine gate_guard (by rfl) ?_; dsimp only)); refine Kd.N_lit (Kd.slice 32 (Kd.int .u32)) _ 22 ?hg (N' := 18) ?hd (xs := ([l0, l1] : List (List Int))) (inner := [.slice A0 l0.length c0, .slice A1 l1.length c1]) (ok := (fun k_ => ((P0_ k_ ∨ P1_ k_) ∨ w.heap.size ≤ k_))) (okp := (fun k_ => ((P0_ k_ ∨ P1_ k_) ∨ w.heap.size ≤ k_))) ?hr ?hp (fun _ hk => hk) ((show ∀ k_, w.heap.size ≤ k_ → (fun k_ => ((P0_ k_ ∨ P1_ k_) ∨ w.heap.size ≤ k_)) k_ from fun k_ hk => (.inr (Nat.le_trans (below_size (by repeat (first | (with_reducible first | exact HB.out | apply below_alloc | apply pw_below_drewN | apply below_drew1) | exact HB.out))) hk))) _ (Nat.le_refl _)) (Below.refl _ _) (Nat.le_refl _) (by simp) ?_; (case hd => rfl); (case hg => rfl); (case hr => first | (go_simp; done) | (go_simp; rfl)); (case hp => exact (Reps.one (show Kd.FK (Kd.slice 32 (Kd.int .u32)) _ _ l0 [.slice A0 l0.length c0] from (Kd.FK_slice_mk (Kd.V_reads' (Kd.V_mono (ok' := (fun k_ => ((P0_ k_ ∨ P1_ k_) ∨ w.heap.size ≤ k_))) (HO0.out) (fun k_ hk => hk))).2.1 (Kd.V_F (Kd.V_mono (ok' := (fun k_ => ((P0_ k_ ∨ P1_ k_) ∨ w.heap.size ≤ k_))) (HO0.out) (fun k_ hk => hk))))) (Reps.one (show Kd.FK (Kd.slice 32 (Kd.int .u32)) _ _ l1 [.slice A1 l1.length c1] from (Kd.FK_slice_mk (Kd.V_reads' (Kd.V_mono (ok' := (fun k_ => ((P0_ k_ ∨ P1_ k_) ∨ w.heap.size ≤ k_))) (HO1.out) (fun k_ hk => hk))).2.1 (Kd.V_F (Kd.V_mono (ok' := (fun k_ => ((P0_ k_ ∨ P1_ k_) ∨ w.heap.size ≤ k_))) (HO1.out) (fun k_ hk => hk))))) (Reps.none _ _)))); intro v338 w17 ho18 hb hg_ hnew_; clear hg_ hnew_; (first | rw [← Ny337.out] at ho18 | (simp only [Int.reduceToNat] at ho18; rw [← Ny337.out] at ho18)); have n0_ := Aside0.mk (Kd.V_elder' (by (with_reducible repeat (first | apply Kd.V_alloc | apply Kd.V_drewN | apply Kd.V_drew)); exact HO0.out) (Kd.N_base ho18) hb); have n1_ := Aside0.mk (Kd.V_elder' (by (with_reducible repeat (first | apply Kd.V_alloc | apply Kd.V_drewN | apply Kd.V_drew)); exact HO1.out) (Kd.N_base ho18) hb); have n2_ := Aside0.mk (Kd.N_lower ho18 (below_size (by repeat (first | (with_reducible first | exact HB.out | apply below_alloc | apply pw_below_drewN | apply below_drew1) | exact HB.out)))); have n3_ := Aside0.mk (below_step (by repeat (first | (with_reducible first | exact HB.out | apply below_alloc | apply pw_below_drewN | apply below_drew1) | exact HB.out)) hb); clear HO0; clear HO1; clear HB; have HO0 := n0_; have HO1 := n1_; have HO339 := n2_; have HB := n3_; clear n0_ n1_ n2_ n3_; clear hb ho18; obtain ⟨Ao19, co19, eo19⟩ := Kd.N_slice HO339.out; subst eo19) | ((with_reducible refine gate_callee (f := 8) rfl ?_); refine goesL_ (some 19) rfl rfl Try.func8 (by kernel_rfl) rfl #[.slice Ao19 y337.length co19] rfl (by (try simp only [List.map_toArray, List.map_cons, List.map_nil]); first | done | rfl | (simp only [List.length_drop, List.length_take]; rfl)) ?_; (with_reducible refine (figureheadlaw03_good.calls k _ _ y337 true _ ?side1 ?side2 A3.out).mono ?_); (case side1 => repeat (first | exact (Kd.N_reads' HO339.out).2.2 | (with_reducible refine Kd.C_alloc ?_ _) | (with_reducible refine Kd.C_drewN ?_ _) | (with_reducible refine Kd.C_drew ?_))); (case side2 => exact (Kd.N_reads' HO339.out).2.1); rintro e w' ⟨rfl, ⟨nd, rfl⟩⟩; refine ⟨_, rfl, ?_⟩) | ((with_reducible refine gate_dst (N := 22) rfl ?_); (try (refine gate_guard (by rfl) ?_; dsimp only)); refine Kd.R_lit (Kd.int .u32) _ 32 ?hg (N := 22) ?hd (xs := ([] : List Int)) (inner := []) (ok := fun _ => True) (okp := fun _ => True) ?hr ?hp (fun _ hk => hk) trivial (Below.refl _ _) (Nat.le_refl _) (by simp) ?_; (case hd => rfl); (case hg => rfl); (case hr => first | (go_simp; done) | (go_simp; rfl)); (case hp => exact (Reps.none _ _)); intro v343 w20 ho21 hb hg_ hnew_; clear hg_ hnew_; (first | rw [← Ny342.out] at ho21 | (simp only [Int.reduceToNat] at ho21; rw [← Ny342.out] at ho21)); have n0_ := Aside0.mk (Kd.V_elder' (by (with_reducible repeat (first | apply Kd.V_alloc | apply Kd.V_drewN | apply Kd.V_drew)); exact HO0.out) (Kd.R_base ho21) hb); have n1_ := Aside0.mk (Kd.V_elder' (by (with_reducible repeat (first | apply Kd.V_alloc | apply Kd.V_drewN | apply Kd.V_drew)); exact HO1.out) (Kd.R_base ho21) hb); have n2_ := Aside0.mk (Kd.N_elder' (by (with_reducible repeat (first | apply Kd.N_alloc | apply Kd.N_drewN | apply Kd.N_drew)); exact HO339.out) (Kd.R_base ho21) hb); have n3_ := Aside0.mk (Kd.R_lower (Kd.R_newM (M := fun k_ => (w.heap.size ≤ k_)) ho21 (below_size (by repeat (first | (with_reducible first | exact HB.out | apply below_alloc | apply pw_below_drewN | apply below_drew1) | exact HB.out))) (fun k_ h_ => h_)) (below_size (by repeat (first | (with_reducible first | exact HB.out | apply below_alloc | apply pw_below_drewN | apply below_drew1) | exact HB.out)))); have n4_ := Aside0.mk (below_step (by repeat (first | (with_reducible first | exact HB.out | apply below_alloc | apply pw_below_drewN | apply below_drew1) | exact HB.out)) hb); clear HO0; clear HO1; clear HO339; clear HB; have HO0 := n0_; have HO1 := n1_; have HO339 := n2_; have HO344 := n3_; have HB := n4_; clear n0_ n1_ n2_ n3_ n4_; clear hb ho21) | ((with_reducible refine gate_builtin (b := .append) (xs := #[.tmp 22, .tmp 23]) rfl ?_); (try (refine gate_guard (by rfl) ?_; dsimp only)); at_builtin; refine Kd.R_append_rows (Kd.int .u32) (w0 := w) w.heap.size rfl (.tmp 22) (.tmp 23) 22 32 (.int .u32 0) 4 rfl Try.underlying22 info32 rfl (by decide) (by omega) v343 y342 l0 _ _ _ (fun k_ => (w.heap.size ≤ k_)) (fun _ => False) rfl rfl ?aO ?aR (fun _ _ h => h) (fun _ h => h.elim) ?aF ?aB ?aS ?aL ?_; (case aR => repeat (first | exact (Kd.V_reads' HO0.out).2.2 | (with_reducible refine Kd.C_alloc ?_ _) | (with_reducible refine Kd.C_drewN ?_ _) | (with_reducible refine Kd.C_drew ?_))); (case aB => exact (by repeat (first | (with_reducible first | exact HB.out | apply below_alloc | apply pw_below_drewN | apply below_drew1) | exact HB.out))); (case aF => exact (fun k_ hk => (Nat.le_trans (below_size (by repeat (first | (with_reducible first | exact HB.out | apply below_alloc | apply pw_below_drewN | apply below_drew1) | exact HB.out))) hk))); (case aO => exact (by (with_reducible repeat (first | apply Kd.R_alloc | apply Kd.R_drewN | apply Kd.R_drew)); exact Kd.R_mono HO344.out (fun _ hk => hk.1))); (case aS => exact (below_size (by repeat (first | (with_reducible first | exact HB.out | apply below_alloc | apply pw_below_drewN | apply below_drew1) | exact HB.out)))); (case aL => have := LMc5.out; omega); intro v346 w22 ho hb hg hat; rw [← Ny345.out] at ho; have n0_ := Aside0.mk (Kd.V_afterv (ok := (fun k_ => ((P0_ k_ ∨ P1_ k_) ∨ w.heap.size ≤ k_) ∧ some k_ ≠ (.slice Ao19 y337.length co19 : Value).ownBlock)) (by (with_reducible repeat (first | apply Kd.V_alloc | apply Kd.V_drewN | apply Kd.V_drew)); exact HO0.out) hg hat); have n1_ := Aside0.mk (Kd.V_afterv (ok := (fun k_ => ((P0_ k_ ∨ P1_ k_) ∨ w.heap.size ≤ k_) ∧ some k_ ≠ (.slice Ao19 y337.length co19 : Value).ownBlock)) (by (with_reducible repeat (first | apply Kd.V_alloc | apply Kd.V_drewN | apply Kd.V_drew)); exact HO1.out) hg hat); have n2_ := Aside0.mk (Kd.N_afterv (ok := (fun k_ => ((P0_ k_ ∨ P1_ k_) ∨ w.heap.size ≤ k_))) (by (with_reducible repeat (first | apply Kd.N_alloc | apply Kd.N_drewN | apply Kd.N_drew)); exact HO339.out) hg hat); have n3_ := Aside0.mk (hb); have n4_ := Aside0.mk (ho); clear HO0; clear HO1; clear HO339; clear HB; clear HO344; have HO0 := n0_; have HO1 := n1_; have HO339 := n2_; have HB := n3_; have HO347 := n4_; clear n0_ n1_ n2_ n3_ n4_; clear ho hb hg hat) | ((with_reducible refine gate_builtin (b := .append) (xs := #[.tmp 24, .tmp 25]) rfl ?_); (try (refine gate_guard (by rfl) ?_; dsimp only)); at_builtin; refine Kd.R_append (Kd.int .u32) (w0 := w) w.heap.size rfl (.tmp 24) (.tmp 25) 22 32 (.int .u32 0) 4 rfl Try.underlying22 info32 rfl (by decide) (by omega) v346 y345 7 [.int .u32 7] (fun k_ => (w.heap.size ≤ k_)) (fun _ => False) rfl rfl ?aP (fun _ hk => hk.elim) ?aF ?aO ?aB ?aS ?aL ?_; (case aP => exact rfl); (case aB => exact (by repeat (first | (with_reducible first | exact HB.out | apply below_alloc | apply pw_below_drewN | apply below_drew1) | exact HB.out))); (case aF => exact (fun k_ hk => (Nat.le_trans (below_size (by repeat (first | (with_reducible first | exact HB.out | apply below_alloc | apply pw_below_drewN | apply below_drew1) | exact HB.out))) hk))); (case aO => exact (by (with_reducible repeat (first | apply Kd.R_alloc | apply Kd.R_drewN | apply Kd.R_drew)); exact HO347.out)); (case aS => exact (below_size (by repeat (first | (with_reducible first | exact HB.out | apply below_alloc | apply pw_below_drewN | apply below_drew1) | exact HB.out)))); (case aL => have := LMc6.out; omega); intro v349 w23 ho hb hg hat; rw [← Ny348.out] at ho; have n0_ := Aside0.mk (Kd.V_afterv (ok := (fun k_ => ((P0_ k_ ∨ P1_ k_) ∨ w.heap.size ≤ k_) ∧ some k_ ≠ (.slice Ao19 y337.length co19 : Value).ownBlock)) (by (with_reducible repeat (first | apply Kd.V_alloc | apply Kd.V_drewN | apply Kd.V_drew)); exact HO0.out) hg hat); have n1_ := Aside0.mk (Kd.V_afterv (ok := (fun k_ => ((P0_ k_ ∨ P1_ k_) ∨ w.heap.size ≤ k_) ∧ some k_ ≠ (.slice Ao19 y337.length co19 : Value).ownBlock)) (by (with_reducible repeat (first | apply Kd.V_alloc | apply Kd.V_drewN | apply Kd.V_drew)); exact HO1.out) hg hat); have n2_ := Aside0.mk (Kd.N_afterv (ok := (fun k_ => ((P0_ k_ ∨ P1_ k_) ∨ w.heap.size ≤ k_))) (by (with_reducible repeat (first | apply Kd.N_alloc | apply Kd.N_drewN | apply Kd.N_drew)); exact HO339.out) hg hat); have n3_ := Aside0.mk (hb); have n4_ := Aside0.mk (ho); clear HO0; clear HO1; clear HO339; clear HB; clear HO347; have HO0 := n0_; have HO1 := n1_; have HO339 := n2_; have HB := n3_; have HO350 := n4_; clear n0_ n1_ n2_ n3_ n4_; clear ho hb hg hat) | ((with_reducible refine gate_dst (N := 27) rfl ?_); (try (refine gate_guard (by rfl) ?_; dsimp only)); refine Kd.R_lit (Kd.int .u32) _ 32 ?hg (N := 27) ?hd (xs := ([] : List Int)) (inner := []) (ok := fun _ => True) (okp := fun _ => True) ?hr ?hp (fun _ hk => hk) trivial (Below.refl _ _) (Nat.le_refl _) (by simp) ?_; (case hd => rfl); (case hg => rfl); (case hr => first | (go_simp; done) | (go_simp; rfl)); (case hp => exact (Reps.none _ _)); intro v352 w24 ho25 hb hg_ hnew_; clear hg_ hnew_; (first | rw [← Ny351.out] at ho25 | (simp only [Int.reduceToNat] at ho25; rw [← Ny351.out] at ho25)); have n0_ := Aside0.mk (Kd.V_elder' (by (with_reducible repeat (first | apply Kd.V_alloc | apply Kd.V_drewN | apply Kd.V_drew)); exact HO0.out) (Kd.R_base ho25) hb); have n1_ := Aside0.mk (Kd.V_elder' (by (with_reducible repeat (first | apply Kd.V_alloc | apply Kd.V_drewN | apply Kd.V_drew)); exact HO1.out) (Kd.R_base ho25) hb); have n2_ := Aside0.mk (Kd.N_elder' (by (with_reducible repeat (first | apply Kd.N_alloc | apply Kd.N_drewN | apply Kd.N_drew)); exact HO339.out) (Kd.R_base ho25) hb); have n3_ := Aside0.mk (Kd.R_elder' (by (with_reducible repeat (first | apply Kd.R_alloc | apply Kd.R_drewN | apply Kd.R_drew)); exact HO350.out) (Kd.R_base ho25) hb); have n4_ := Aside0.mk (Kd.R_lower (Kd.R_new' (Kd.R_newM (M := fun k_ => (w.heap.size ≤ k_)) ho25 (below_size (by repeat (first | (with_reducible first | exact HB.out | apply below_alloc | apply pw_below_drewN | apply below_drew1) | exact HB.out))) (fun k_ h_ => h_)) (Kd.R_lt (by (with_reducible repeat (first | apply Kd.R_alloc | apply Kd.R_drewN | apply Kd.R_drew)); exact HO350.out))) (below_size (by repeat (first | (with_reducible first | exact HB.out | apply below_alloc | apply pw_below_drewN | apply below_drew1) | exact HB.out)))); have n5_ := Aside0.mk (below_step (by repeat (first | (with_reducible first | exact HB.out | apply below_alloc | apply pw_below_drewN | apply below_drew1) | exact HB.out)) hb); clear HO0; clear HO1; clear HO339; clear HO350; clear HB; have HO0 := n0_; have HO1 := n1_; have HO339 := n2_; have HO350 := n3_; have HO353 := n4_; have HB := n5_; clear n0_ n1_ n2_ n3_ n4_ n5_; clear hb ho25) | ((with_reducible refine gate_builtin (b := .append) (xs := #[.tmp 27, .tmp 28]) rfl ?_); (try (refine gate_guard (by rfl) ?_; dsimp only)); at_builtin; refine Kd.R_append_rows (Kd.int .u32) (w0 := w) w.heap.size rfl (.tmp 27) (.tmp 28) 22 32 (.int .u32 0) 4 rfl Try.underlying22 info32 rfl (by decide) (by omega) v352 y351 l1 _ _ _ (fun k_ => (w.heap.size ≤ k_) ∧ some k_ ≠ (v349 : Value).ownBlock) (fun _ => False) rfl rfl ?aO ?aR (fun _ _ h => h) (fun _ h => h.elim) ?aF ?aB ?aS ?aL ?_; (case aR => repeat (first | exact (Kd.V_reads' HO1.out).2.2 | (with_reducible refine Kd.C_alloc ?_ _) | (with_reducible refine Kd.C_drewN ?_ _) | (with_reducible refine Kd.C_drew ?_))); (case aB => exact (by repeat (first | (with_reducible first | exact HB.out | apply below_alloc | apply pw_below_drewN | apply below_drew1) | exact HB.out))); (case aF => exact (fun k_ hk => ⟨(Nat.le_trans (below_size (by repeat (first | (with_reducible first | exact HB.out | apply below_alloc | apply pw_below_drewN | apply below_drew1) | exact HB.out))) hk), Kd.fresh' (Kd.R_lt (by (with_reducible repeat (first | apply Kd.R_alloc | apply Kd.R_drewN | apply Kd.R_drew)); exact HO350.out)) k_ hk⟩)); (case aO => exact (by (with_reducible repeat (first | apply Kd.R_alloc | apply Kd.R_drewN | apply Kd.R_drew)); exact Kd.R_mono HO353.out (fun _ hk => ⟨hk.1.1, hk.2⟩))); (case aS => exact (below_size (by repeat (first | (with_reducible first | exact HB.out | apply below_alloc | apply pw_below_drewN | apply below_drew1) | exact HB.out)))); (case aL => have := LMc7.out; omega); intro v355 w26 ho hb hg hat; rw [← Ny354.out] at ho; have n0_ := Aside0.mk (Kd.V_afterv (ok := (fun k_ => ((P0_ k_ ∨ P1_ k_) ∨ w.heap.size ≤ k_) ∧ some k_ ≠ (.slice Ao19 y337.length co19 : Value).ownBlock ∧ some k_ ≠ (v349 : Value).ownBlock)) (by (with_reducible repeat (first | apply Kd.V_alloc | apply Kd.V_drewN | apply Kd.V_drew)); exact Kd.V_mono HO0.out (fun _ hk => ⟨⟨hk.1.1.1, ⟨hk.1.1.2, hk.1.2⟩⟩, hk.2⟩)) hg hat); have n1_ := Aside0.mk (Kd.V_afterv (ok := (fun k_ => ((P0_ k_ ∨ P1_ k_) ∨ w.heap.size ≤ k_) ∧ some k_ ≠ (.slice Ao19 y337.length co19 : Value).ownBlock ∧ some k_ ≠ (v349 : Value).ownBlock)) (by (with_reducible repeat (first | apply Kd.V_alloc | apply Kd.V_drewN | apply Kd.V_drew)); exact Kd.V_mono HO1.out (fun _ hk => ⟨⟨hk.1.1.1, ⟨hk.1.1.2, hk.1.2⟩⟩, hk.2⟩)) hg hat); have n2_ := Aside0.mk (Kd.N_afterv (ok := (fun k_ => ((P0_ k_ ∨ P1_ k_) ∨ w.heap.size ≤ k_) ∧ some k_ ≠ (v349 : Value).ownBlock)) (by (with_reducible repeat (first | apply Kd.N_alloc | apply Kd.N_drewN | apply Kd.N_drew)); exact HO339.out) hg hat); have n3_ := Aside0.mk (Kd.R_after (ok := (fun k_ => (w.heap.size ≤ k_))) (by (with_reducible repeat (first | apply Kd.R_alloc | apply Kd.R_drewN | apply Kd.R_drew)); exact HO350.out) hg hat); have n4_ := Aside0.mk (hb); have n5_ := Aside0.mk (ho); clear HO0; clear HO1; clear HO339; clear HO350; clear HB; clear HO353; have HO0 := n0_; have HO1 := n1_; have HO339 := n2_; have HO350 := n3_; have HB := n4_; have HO356 := n5_; clear n0_ n1_ n2_ n3_ n4_ n5_; clear ho hb hg hat) | ((with_reducible refine gate_builtin (b := .append) (xs := #[.tmp 29, .tmp 30]) rfl ?_); (try (refine gate_guard (by rfl) ?_; dsimp only)); at_builtin; refine Kd.R_append (Kd.int .u32) (w0 := w) w.heap.size rfl (.tmp 29) (.tmp 30) 22 32 (.int .u32 0) 4 rfl Try.underlying22 info32 rfl (by decide) (by omega) v355 y354 8 [.int .u32 8] (fun k_ => (w.heap.size ≤ k_) ∧ some k_ ≠ (v349 : Value).ownBlock) (fun _ => False) rfl rfl ?aP (fun _ hk => hk.elim) ?aF ?aO ?aB ?aS ?aL ?_; (case aP => exact rfl); (case aB => exact (by repeat (first | (with_reducible first | exact HB.out | apply below_alloc | apply pw_below_drewN | apply below_drew1) | exact HB.out))); (case aF => exact (fun k_ hk => ⟨(Nat.le_trans (below_size (by repeat (first | (with_reducible first | exact HB.out | apply below_alloc | apply pw_below_drewN | apply below_drew1) | exact HB.out))) hk), Kd.fresh' (Kd.R_lt (by (with_reducible repeat (first | apply Kd.R_alloc | apply Kd.R_drewN | apply Kd.R_drew)); exact HO350.out)) k_ hk⟩)); (case aO => exact (by (with_reducible repeat (first | apply Kd.R_alloc | apply Kd.R_drewN | apply Kd.R_drew)); exact HO356.out)); (case aS => exact (below_size (by repeat (first | (with_reducible first | exact HB.out | apply below_alloc | apply pw_below_drewN | apply below_drew1) | exact HB.out)))); (case aL => have := LMc8.out; omega); intro v358 w27 ho hb hg hat; rw [← Ny357.out] at ho; have n0_ := Aside0.mk (Kd.V_afterv (ok := (fun k_ => ((P0_ k_ ∨ P1_ k_) ∨ w.heap.size ≤ k_) ∧ some k_ ≠ (.slice Ao19 y337.length co19 : Value).ownBlock ∧ some k_ ≠ (v349 : Value).ownBlock)) (by (with_reducible repeat (first | apply Kd.V_alloc | apply Kd.V_drewN | apply Kd.V_drew)); exact HO0.out) hg hat); have n1_ := Aside0.mk (Kd.V_afterv (ok := (fun k_ => ((P0_ k_ ∨ P1_ k_) ∨ w.heap.size ≤ k_) ∧ some k_ ≠ (.slice Ao19 y337.length co19 : Value).ownBlock ∧ some k_ ≠ (v349 : Value).ownBlock)) (by (with_reducible repeat (first | apply Kd.V_alloc | apply Kd.V_drewN | apply Kd.V_drew)); exact HO1.out) hg hat); have n2_ := Aside0.mk (Kd.N_afterv (ok := (fun k_ => ((P0_ k_ ∨ P1_ k_) ∨ w.heap.size ≤ k_) ∧ some k_ ≠ (v349 : Value).ownBlock)) (by (with_reducible repeat (first | apply Kd.N_alloc | apply Kd.N_drewN | apply Kd.N_drew)); exact HO339.out) hg hat); have n3_ := Aside0.mk (Kd.R_after (ok := (fun k_ => (w.heap.size ≤ k_))) (by (with_reducible repeat (first | apply Kd.R_alloc | apply Kd.R_drewN | apply Kd.R_drew)); exact HO350.out) hg hat); have n4_ := Aside0.mk (hb); have n5_ := Aside0.mk (ho); clear HO0; clear HO1; clear HO339; clear HO350; clear HB; clear HO356; have HO0 := n0_; have HO1 := n1_; have HO339 := n2_; have HO350 := n3_; have HB := n4_; have HO359 := n5_; clear n0_ n1_ n2_ n3_ n4_ n5_; clear ho hb hg hat))
                    have n0_ := Aside0.mk (Kd.V_drew HO0.out)
                    have n1_ := Aside0.mk (Kd.V_drew HO1.out)
                    have n2_ := Aside0.mk (Kd.N_drew HO339.out)
                    have n3_ := Aside0.mk (Kd.R_drew HO350.out)
                    have n4_ := Aside0.mk (Kd.R_drew HO359.out)
                    have n5_ := Aside0.mk (below_drew1 HB.out)
                    clear HO0
                    clear HO1
                    clear HO339
                    clear HO350
                    clear HO359
                    clear HB
                    have HO0 := n0_
                    have HO1 := n1_
                    have HO339 := n2_
                    have HO350 := n3_
                    have HO359 := n4_
                    have HB := n5_
                    clear n0_ n1_ n2_ n3_ n4_ n5_
                    obtain ⟨Ao30, co30, eo30⟩ := Kd.R_slice HO350.out
                    (first | subst eo30 | (injection eo30 with f1_ f2_ f3_; have f4_ := f1_.symm; have f5_ := f3_.symm; clear f1_ f2_ f3_; subst f4_; subst f5_))
                    have q29 : ((l0.length : Int) : Int) ≤ ((y348.length : Int) : Int) := of_decide_eq_true (by first | (with_reducible assumption) | assumption)
                    obtain ⟨i029, hi029, _, hsz29, _⟩ := info_parts info32
                    have hroom29 : y348.length ≤ co30 := (Kd.R_reads' HO350.out).2.1
                    have hC29 : Kd.F (Kd.int .u32) _ _ Ao30 y348.length y348 := (Kd.V_at (base := w.heap.size) (Kd.V_mono (ok' := (fun k_ => ((((P0_ k_ ∨ P1_ k_) ∨ w.heap.size ≤ k_) ∧ some k_ ≠ (v358 : Value).ownBlock) ∧ some k_ ≠ (.slice Ao19 y337.length co19 : Value).ownBlock))) (Kd.R_V (Kd.R_apart' (HO350.out) (Kd.N_typed HO339.out) (by decide))) (fun k_ hk => ⟨⟨(.inr (hk.1.1)), hk.1.2⟩, hk.2⟩))).2.2
                    have hcut29 := cut_to (P := Try.prog) 22 32 .i64 Try.underlying22 hi029 Ao30 y348.length co30 (l0.length : Int) (of_decide_eq_true (by first | (with_reducible assumption) | assumption)) q29 hroom29
                    have hr29 := Kd.F_take (m := ((l0.length : Int) : Int).toNat) hC29 (by omega)
                    have hy29 : y360.length = ((l0.length : Int) : Int).toNat := (by rw [Ny360.out, List.length_take]; omega)
                    rw [← Ny360.out] at hr29
                    rw [← hy29] at hcut29
                    have HO364 := Aside0.mk (show Kd.V (Kd.int .u32) 32 _ w.heap.size _ (.slice Ao30 y360.length co30) y360 from Kd.V_mk (by omega) hr29)
                    have HC364 := Aside0.mk (show y360.length ≤ co30 from by omega)
                    clear hr29 hC29 hroom29 hi029 hsz29
                    have KY29 := Aside0.mk hy29
                    clear hy29
                    replace q29 := eq_true q29
                    obtain ⟨Ao32, co32, eo32⟩ := Kd.R_slice HO359.out
                    (first | subst eo32 | (injection eo32 with f1_ f2_ f3_; have f4_ := f1_.symm; have f5_ := f3_.symm; clear f1_ f2_ f3_; subst f4_; subst f5_))
                    have q31 : ((l1.length : Int) : Int) ≤ ((y357.length : Int) : Int) := of_decide_eq_true (by first | (with_reducible assumption) | assumption)
                    obtain ⟨i031, hi031, _, hsz31, _⟩ := info_parts info32
                    have hroom31 : y357.length ≤ co32 := (Kd.R_reads' HO359.out).2.1
                    have hC31 : Kd.F (Kd.int .u32) _ _ Ao32 y357.length y357 := (Kd.V_at (base := w.heap.size) (Kd.V_mono (ok' := (fun k_ => ((((P0_ k_ ∨ P1_ k_) ∨ w.heap.size ≤ k_) ∧ some k_ ≠ (.slice Ao30 y348.length co30 : Value).ownBlock) ∧ some k_ ≠ (.slice Ao19 y337.length co19 : Value).ownBlock))) (Kd.R_V (Kd.R_apart' (HO359.out) (Kd.N_typed HO339.out) (by decide))) (fun k_ hk => ⟨⟨(.inr (hk.1.1)), hk.1.2⟩, hk.2⟩))).2.2
                    have hcut31 := cut_to (P := Try.prog) 22 32 .i64 Try.underlying22 hi031 Ao32 y357.length co32 (l1.length : Int) (of_decide_eq_true (by first | (with_reducible assumption) | assumption)) q31 hroom31
                    have hr31 := Kd.F_take (m := ((l1.length : Int) : Int).toNat) hC31 (by omega)
                    have hy31 : y365.length = ((l1.length : Int) : Int).toNat := (by rw [Ny365.out, List.length_take]; omega)
                    rw [← Ny365.out] at hr31
                    rw [← hy31] at hcut31
                    have HO369 := Aside0.mk (show Kd.V (Kd.int .u32) 32 _ w.heap.size _ (.slice Ao32 y365.length co32) y365 from Kd.V_mk (by omega) hr31)
                    have HC369 := Aside0.mk (show y365.length ≤ co32 from by omega)
                    clear hr31 hC31 hroom31 hi031 hsz31
                    have KY31 := Aside0.mk hy31
                    clear hy31
                    replace q31 := eq_true q31
                    refine start_ (n := 16) (S := fun w' => True) (ds := []) #[false, false, false, false, false, false, false, false, false, false, false, false, false, false, false, false] (by kernel_rfl) rfl rfl trivial (fun hHeld => ?_); refine with_tabW figureheadlaw03_DivOwn.tab4 figureheadlaw03_DivOwn.bits4 (fun HT_ HW_ => ?_)
                    generalize w27.drew = w28 at HO0 HO1 HO339 HO350 HO359 HB HO364 HO369 hHeld ⊢
                    refine pure_ (i := 0) (N := some 33) (v := ?_) (a' := ?_) #[true, false, false, false, false, false, false, false, false, false, false, false, false, false, false, false] rfl rfl (any_of HT_.out (by kernel_rfl)) (fun _ _ _ h => h) (Or.inl ⟨by rfl, ?_⟩) ?_ ?_
                    rotate_left
                    · intro w'
                      go_simp
                      with_reducible rfl
                    rotate_left
                    · simp only [Act.put, List.setIfInBounds_toArray, List.set_cons_zero, List.set_cons_succ, i64_w, i32_w]
                      rfl
                    refine pure_ (i := 1) (N := some 34) (v := ?_) (a' := ?_) #[true, true, false, false, false, false, false, false, false, false, false, false, false, false, false, false] rfl rfl (any_of HT_.out (by kernel_rfl)) (fun _ _ _ h => h) (Or.inl ⟨by rfl, ?_⟩) ?_ ?_
                    rotate_left
                    · intro w'
                      go_simp
                      with_reducible rfl
                    rotate_left
                    · simp only [Act.put, List.setIfInBounds_toArray, List.set_cons_zero, List.set_cons_succ, i64_w, i32_w]
                      rfl
                    refine pure_ (i := 2) (N := some 35) (v := ?_) (a' := ?_) #[true, true, true, false, false, false, false, false, false, false, false, false, false, false, false, false] rfl rfl (any_of HT_.out (by kernel_rfl)) (fun _ _ _ h => h) (Or.inl ⟨by rfl, ?_⟩) ?_ ?_
                    rotate_left
                    · intro w'
                      go_simp
                      with_reducible rfl
                    rotate_left
                    · simp only [Act.put, List.setIfInBounds_toArray, List.set_cons_zero, List.set_cons_succ, i64_w, i32_w]
                      rfl
                    refine pure_ (i := 3) (N := some 36) (v := ?_) (a' := ?_) #[true, true, true, true, false, false, false, false, false, false, false, false, false, false, false, false] rfl rfl (any_of HT_.out (by kernel_rfl)) (fun _ _ _ h => h) (Or.inl ⟨by rfl, ?_⟩) ?_ ?_
                    rotate_left
                    · intro w'
                      go_simp
                      with_reducible rfl
                    rotate_left
                    · simp only [Act.put, List.setIfInBounds_toArray, List.set_cons_zero, List.set_cons_succ, i64_w, i32_w]
                      rfl
                    refine pure_ (i := 4) (N := some 37) (v := ?_) (a' := ?_) #[true, true, true, true, true, false, false, false, false, false, false, false, false, false, false, false] rfl rfl (any_of HT_.out (by kernel_rfl)) (fun _ _ _ h => h) (Or.inl ⟨by rfl, ?_⟩) ?_ ?_
                    rotate_left
                    · intro w'
                      go_simp
                      with_reducible rfl
                    rotate_left
                    · simp only [Act.put, List.setIfInBounds_toArray, List.set_cons_zero, List.set_cons_succ, i64_w, i32_w]
                      rfl
                    refine pure_ (i := 5) (N := some 38) (v := ?_) (a' := ?_) #[true, true, true, true, true, true, false, false, false, false, false, false, false, false, false, false] rfl rfl (any_of HT_.out (by kernel_rfl)) (fun _ _ _ h => h) (Or.inl ⟨by rfl, ?_⟩) ?_ ?_
                    rotate_left
                    · intro w'
                      go_simp
                      with_reducible rfl
                    rotate_left
                    · simp only [Act.put, List.setIfInBounds_toArray, List.set_cons_zero, List.set_cons_succ, i64_w, i32_w]
                      rfl
                    refine pure_ (i := 6) (N := some 39) (v := ?_) (a' := ?_) #[true, true, true, true, true, true, true, false, false, false, false, false, false, false, false, false] rfl rfl (any_of HT_.out (by kernel_rfl)) (fun _ _ _ h => h) (Or.inl ⟨by rfl, ?_⟩) ?_ ?_
                    rotate_left
                    · intro w'
                      go_simp
                      with_reducible rfl
                    rotate_left
                    · simp only [Act.put, List.setIfInBounds_toArray, List.set_cons_zero, List.set_cons_succ, i64_w, i32_w]
                      rfl
                    refine pure_ (i := 7) (N := some 40) (v := ?_) (a' := ?_) #[true, true, true, true, true, true, true, true, false, false, false, false, false, false, false, false] rfl rfl (any_of HT_.out (by kernel_rfl)) (fun _ _ _ h => h) (Or.inl ⟨by rfl, ?_⟩) ?_ ?_
                    rotate_left
                    · intro w'
                      go_simp
                      with_reducible rfl
                    rotate_left
                    · simp only [Act.put, List.setIfInBounds_toArray, List.set_cons_zero, List.set_cons_succ, i64_w, i32_w]
                      rfl
                    refine one_ (i := 8) (N := some 41) #[true, true, true, true, true, true, true, true, true, false, false, false, false, false, false, false] rfl rfl (one_of HT_.out (by kernel_rfl)) (by decide) (fun K hK => ?_)
                    refine goes_ Try.func10 (by kernel_rfl) rfl #[.slice Ao30 y360.length co30, .slice Ao32 y365.length co32] (by rfl) rfl rfl (by (try simp only [List.map_toArray, List.map_cons, List.map_nil]); first | done | rfl | (simp only [List.length_drop, List.length_take]; rfl)) ?_
                    with_reducible refine (div_DivMod.calls k _ _ y360 _ _ y365 t370 t371 t372 _ ?side1 ?side2 ?side3 ?side4 A13.out).mono ?_
                    (case side1 => repeat (first | exact (Kd.V_reads' HO364.out).2.2 | (with_reducible refine Kd.C_alloc ?_ _) | (with_reducible refine Kd.C_drewN ?_ _) | (with_reducible refine Kd.C_drew ?_)))
                    (case side2 => exact (Kd.V_reads' HO364.out).2.1)
                    (case side3 => repeat (first | exact (Kd.V_reads' HO369.out).2.2 | (with_reducible refine Kd.C_alloc ?_ _) | (with_reducible refine Kd.C_drewN ?_ _) | (with_reducible refine Kd.C_drew ?_)))
                    (case side4 => exact (Kd.V_reads' HO369.out).2.1)
                    rintro e w33 ⟨v373, v375, rfl, ho0, ho1, hb⟩
                    refine ⟨_, rfl, ?_⟩
                    have n0_ := Aside0.mk (Kd.V_mono (Kd.V_told (Kd.V_told (Kd.V_old (by (with_reducible repeat (first | apply Kd.V_alloc | apply Kd.V_drewN | apply Kd.V_drew)); exact HO0.out) hb) (Kd.R_base ho0)) (Kd.R_base ho1)) (fun _ h_ => h_.1))
                    have n1_ := Aside0.mk (Kd.V_mono (Kd.V_told (Kd.V_told (Kd.V_old (by (with_reducible repeat (first | apply Kd.V_alloc | apply Kd.V_drewN | apply Kd.V_drew)); exact HO1.out) hb) (Kd.R_base ho0)) (Kd.R_base ho1)) (fun _ h_ => h_.1))
                    have n2_ := Aside0.mk (Kd.N_mono (Kd.N_told (Kd.N_told (Kd.N_old (by (with_reducible repeat (first | apply Kd.N_alloc | apply Kd.N_drewN | apply Kd.N_drew)); exact HO339.out) hb) (Kd.R_base ho0)) (Kd.R_base ho1)) (fun _ h_ => h_.1))
                    have n3_ := Aside0.mk (Kd.R_mono (Kd.R_told (Kd.R_told (Kd.R_old (by (with_reducible repeat (first | apply Kd.R_alloc | apply Kd.R_drewN | apply Kd.R_drew)); exact HO350.out) hb) (Kd.R_base ho0)) (Kd.R_base ho1)) (fun _ h_ => h_.1))
                    have n4_ := Aside0.mk (Kd.R_mono (Kd.R_told (Kd.R_told (Kd.R_old (by (with_reducible repeat (first | apply Kd.R_alloc | apply Kd.R_drewN | apply Kd.R_drew)); exact HO359.out) hb) (Kd.R_base ho0)) (Kd.R_base ho1)) (fun _ h_ => h_.1))
                    have n5_ := Aside0.mk (Kd.V_mono (Kd.V_told (Kd.V_told (Kd.V_old (by (with_reducible repeat (first | apply Kd.V_alloc | apply Kd.V_drewN | apply Kd.V_drew)); exact HO364.out) hb) (Kd.R_base ho0)) (Kd.R_base ho1)) (fun _ h_ => h_.1))
                    have n6_ := Aside0.mk (Kd.V_mono (Kd.V_told (Kd.V_told (Kd.V_old (by (with_reducible repeat (first | apply Kd.V_alloc | apply Kd.V_drewN | apply Kd.V_drew)); exact HO369.out) hb) (Kd.R_base ho0)) (Kd.R_base ho1)) (fun _ h_ => h_.1))
                    have n7_ := Aside0.mk (Kd.R_lower (Kd.R_new' (Kd.R_new' (Kd.R_newM (M := fun k_ => (w.heap.size ≤ k_)) ho0 (below_size (by repeat (first | (with_reducible first | exact HB.out | apply below_alloc | apply pw_below_drewN | apply below_drew1) | exact HB.out))) (fun k_ h_ => h_)) (Kd.R_lt (by (with_reducible repeat (first | apply Kd.R_alloc | apply Kd.R_drewN | apply Kd.R_drew)); exact HO350.out))) (Kd.R_lt (by (with_reducible repeat (first | apply Kd.R_alloc | apply Kd.R_drewN | apply Kd.R_drew)); exact HO359.out))) (below_size (by repeat (first | (with_reducible first | exact HB.out | apply below_alloc | apply pw_below_drewN | apply below_drew1) | exact HB.out))))
                    have n8_ := Aside0.mk (Kd.R_lower (Kd.R_new' (Kd.R_new' (Kd.R_newM (M := fun k_ => (w.heap.size ≤ k_)) ho1 (below_size (by repeat (first | (with_reducible first | exact HB.out | apply below_alloc | apply pw_below_drewN | apply below_drew1) | exact HB.out))) (fun k_ h_ => h_)) (Kd.R_lt (by (with_reducible repeat (first | apply Kd.R_alloc | apply Kd.R_drewN | apply Kd.R_drew)); exact HO350.out))) (Kd.R_lt (by (with_reducible repeat (first | apply Kd.R_alloc | apply Kd.R_drewN | apply Kd.R_drew)); exact HO359.out))) (below_size (by repeat (first | (with_reducible first | exact HB.out | apply below_alloc | apply pw_below_drewN | apply below_drew1) | exact HB.out))))
                    have n9_ := Aside0.mk (below_step (by repeat (first | (with_reducible first | exact HB.out | apply below_alloc | apply pw_below_drewN | apply below_drew1) | exact HB.out)) hb)
                    clear HO0
                    clear HO1
                    clear HO339
                    clear HO350
                    clear HO359
                    clear HO364
                    clear HO369
                    clear HB
                    have HO0 := n0_
                    have HO1 := n1_
                    have HO339 := n2_
                    have HO350 := n3_
                    have HO359 := n4_
                    have HO364 := n5_
                    have HO369 := n6_
                    have HO374 := n7_
                    have HO376 := n8_
                    have HB := n9_
                    clear n0_ n1_ n2_ n3_ n4_ n5_ n6_ n7_ n8_ n9_
                    (try clear hb)
                    (try clear hb2)
                    (try clear hk)
                    (try clear hi)
                    (try clear ho0)
                    (try clear ho1)
                    refine hK.out _ _ trivial (fun hHeld => ?_)
                    clear hK K
                    refine norm_ (a' := ?_) ?_ ?_
                    rotate_left
                    · show Act.put _ (some 41) _ = _
                      simp only [Act.put, List.setIfInBounds_toArray, List.set_cons_zero, List.set_cons_succ, i64_w, i32_w]
                      rfl
                    refine pure_ (i := 9) (N := some 32) (v := ?_) (a' := ?_) #[true, true, true, true, true, true, true, true, true, true, false, false, false, false, false, false] rfl rfl (any_of HT_.out (by kernel_rfl)) (fun _ _ _ h => h) (Or.inl ⟨by rfl, ?_⟩) ?_ ?_
                    rotate_left
                    · intro w'
                      go_simp
                      with_reducible rfl
                    rotate_left
                    · simp only [Act.put, List.setIfInBounds_toArray, List.set_cons_zero, List.set_cons_succ, i64_w, i32_w]
                      rfl
                    refine pure_ (i := 10) (N := some 42) (v := ?_) (a' := ?_) #[true, true, true, true, true, true, true, true, true, true, true, false, false, false, false, false] rfl rfl (any_of HT_.out (by kernel_rfl)) (fun _ _ _ h => h) (Or.inl ⟨by rfl, ?_⟩) ?_ ?_
                    rotate_left
                    · intro w'
                      go_simp
                      with_reducible rfl
                    rotate_left
                    · simp only [Act.put, List.setIfInBounds_toArray, List.set_cons_zero, List.set_cons_succ, i64_w, i32_w]
                      rfl
                    refine pure_ (i := 11) (N := some 43) (v := ?_) (a' := ?_) #[true, true, true, true, true, true, true, true, true, true, true, true, false, false, false, false] rfl rfl (any_of HT_.out (by kernel_rfl)) (fun _ _ _ h => h) (Or.inl ⟨by rfl, ?_⟩) ?_ ?_
                    rotate_left
                    · intro w'
                      go_simp
                      with_reducible rfl
                    rotate_left
                    · simp only [Act.put, List.setIfInBounds_toArray, List.set_cons_zero, List.set_cons_succ, i64_w, i32_w]
                      rfl
                    refine pure_ (i := 12) (N := some 44) (v := ?_) (a' := ?_) #[true, true, true, true, true, true, true, true, true, true, true, true, true, false, false, false] rfl rfl (any_of HT_.out (by kernel_rfl)) (fun _ _ _ h => h) (Or.inl ⟨by rfl, ?_⟩) ?_ ?_
                    rotate_left
                    · intro w'
                      go_simp
                      with_reducible rfl
                    rotate_left
                    · simp only [Act.put, List.setIfInBounds_toArray, List.set_cons_zero, List.set_cons_succ, i64_w, i32_w]
                      rfl
                    refine pure_ (i := 13) (N := some 7) (v := ?_) (a' := ?_) #[true, true, true, true, true, true, true, true, true, true, true, true, true, true, false, false] rfl rfl (any_of HT_.out (by kernel_rfl)) (fun _ _ _ h => h) (Or.inl ⟨by rfl, ?_⟩) ?_ ?_
                    rotate_left
                    · intro w'
                      go_simp
                      with_reducible rfl
                    rotate_left
                    · simp only [Act.put, List.setIfInBounds_toArray, List.set_cons_zero, List.set_cons_succ, i64_w, i32_w]
                      rfl
                    refine pure_ (i := 14) (N := some 8) (v := ?_) (a' := ?_) #[true, true, true, true, true, true, true, true, true, true, true, true, true, true, true, false] rfl rfl (any_of HT_.out (by kernel_rfl)) (fun _ _ _ h => h) (Or.inl ⟨by rfl, ?_⟩) ?_ ?_
                    rotate_left
                    · intro w'
                      go_simp
                      with_reducible rfl
                    rotate_left
                    · simp only [Act.put, List.setIfInBounds_toArray, List.set_cons_zero, List.set_cons_succ, i64_w, i32_w]
                      rfl
                    refine pure_ (i := 15) (N := some 9) (v := ?_) (a' := ?_) #[true, true, true, true, true, true, true, true, true, true, true, true, true, true, true, true] rfl rfl (any_of HT_.out (by kernel_rfl)) (fun _ _ _ h => h) (Or.inl ⟨by rfl, ?_⟩) ?_ ?_
                    rotate_left
                    · intro w'
                      go_simp
                      with_reducible rfl
                    rotate_left
                    · simp only [Act.put, List.setIfInBounds_toArray, List.set_cons_zero, List.set_cons_succ, i64_w, i32_w]
                      rfl
                    refine done_ (done_of HT_.out (by kernel_rfl)) ?_
                    have q34 : ((l0.length : Int) : Int) ≤ ((y348.length : Int) : Int) := of_decide_eq_true (by first | (with_reducible assumption) | assumption)
                    obtain ⟨i034, hi034, _, hsz34, _⟩ := info_parts info32
                    have hroom34 : y348.length ≤ co30 := (Kd.R_reads' HO350.out).2.1
                    have hC34 : Kd.F (Kd.int .u32) _ _ Ao30 y348.length y348 := (Kd.V_at (base := w.heap.size) (Kd.V_mono (ok' := (fun k_ => ((((((P0_ k_ ∨ P1_ k_) ∨ w.heap.size ≤ k_) ∧ some k_ ≠ (.slice Ao32 y357.length co32 : Value).ownBlock) ∧ some k_ ≠ (v373 : Value).ownBlock) ∧ some k_ ≠ (v375 : Value).ownBlock) ∧ some k_ ≠ (.slice Ao19 y337.length co19 : Value).ownBlock))) (Kd.R_V (Kd.R_apart' (HO350.out) (Kd.N_typed HO339.out) (by decide))) (fun k_ hk => ⟨⟨⟨⟨(.inr (hk.1.1.1.1)), hk.1.1.1.2⟩, hk.1.1.2⟩, hk.1.2⟩, hk.2⟩))).2.2
                    (try clear hcut29)
                    have hcut34 := cut_to (P := Try.prog) 22 32 .i64 Try.underlying22 hi034 Ao30 y348.length co30 (l0.length : Int) (of_decide_eq_true (by first | (with_reducible assumption) | assumption)) q34 hroom34
                    have hr34 := Kd.F_take (m := ((l0.length : Int) : Int).toNat) hC34 (by omega)
                    have hy34 : y377.length = ((l0.length : Int) : Int).toNat := (by rw [Ny377.out, List.length_take]; omega)
                    rw [← Ny377.out] at hr34
                    rw [← hy34] at hcut34
                    have HO381 := Aside0.mk (show Kd.V (Kd.int .u32) 32 _ w.heap.size _ (.slice Ao30 y377.length co30) y377 from Kd.V_mk (by omega) hr34)
                    have HC381 := Aside0.mk (show y377.length ≤ co30 from by omega)
                    clear hr34 hC34 hroom34 hi034 hsz34
                    have KY34 := Aside0.mk hy34
                    clear hy34
                    replace q34 := eq_true q34
                    try go_wp2_with (first | ((with_reducible refine gate_callee (f := 15) rfl ?_); refine goesL_ (some 50) rfl rfl Try.func15 (by kernel_rfl) rfl #[.slice Ao30 y377.length co30, .int .u32 3] rfl (by (try simp only [List.map_toArray, List.map_cons, List.map_nil]); first | done | rfl | (simp only [List.length_drop, List.length_take]; rfl)) ?_; (with_reducible refine (div_Small.calls k _ _ y377 3 t382 t383 t384 _ ?side1 ?side2 A16.out).mono ?_); (case side1 => repeat (first | exact (Kd.V_reads' HO381.out).2.2 | (with_reducible refine Kd.C_alloc ?_ _) | (with_reducible refine Kd.C_drewN ?_ _) | (with_reducible refine Kd.C_drew ?_))); (case side2 => exact (Kd.V_reads' HO381.out).2.1); rintro e w35 ⟨v385, rfl, ho0, hb⟩; refine ⟨_, rfl, ?_⟩; have n0_ := Aside0.mk (Kd.V_elder' (by (with_reducible repeat (first | apply Kd.V_alloc | apply Kd.V_drewN | apply Kd.V_drew)); exact HO0.out) (Kd.R_base ho0) hb); have n1_ := Aside0.mk (Kd.V_elder' (by (with_reducible repeat (first | apply Kd.V_alloc | apply Kd.V_drewN | apply Kd.V_drew)); exact HO1.out) (Kd.R_base ho0) hb); have n2_ := Aside0.mk (Kd.N_elder' (by (with_reducible repeat (first | apply Kd.N_alloc | apply Kd.N_drewN | apply Kd.N_drew)); exact HO339.out) (Kd.R_base ho0) hb); have n3_ := Aside0.mk (Kd.R_elder' (by (with_reducible repeat (first | apply Kd.R_alloc | apply Kd.R_drewN | apply Kd.R_drew)); exact HO350.out) (Kd.R_base ho0) hb); have n4_ := Aside0.mk (Kd.R_elder' (by (with_reducible repeat (first | apply Kd.R_alloc | apply Kd.R_drewN | apply Kd.R_drew)); exact HO359.out) (Kd.R_base ho0) hb); have n5_ := Aside0.mk (Kd.V_elder' (by (with_reducible repeat (first | apply Kd.V_alloc | apply Kd.V_drewN | apply Kd.V_drew)); exact HO364.out) (Kd.R_base ho0) hb); have n6_ := Aside0.mk (Kd.V_elder' (by (with_reducible repeat (first | apply Kd.V_alloc | apply Kd.V_drewN | apply Kd.V_drew)); exact HO369.out) (Kd.R_base ho0) hb); have n7_ := Aside0.mk (Kd.R_elder' (by (with_reducible repeat (first | apply Kd.R_alloc | apply Kd.R_drewN | apply Kd.R_drew)); exact HO374.out) (Kd.R_base ho0) hb); have n8_ := Aside0.mk (Kd.R_elder' (by (with_reducible repeat (first | apply Kd.R_alloc | apply Kd.R_drewN | apply Kd.R_drew)); exact HO376.out) (Kd.R_base ho0) hb); have n9_ := Aside0.mk (Kd.V_elder' (by (with_reducible repeat (first | apply Kd.V_alloc | apply Kd.V_drewN | apply Kd.V_drew)); exact HO381.out) (Kd.R_base ho0) hb); have n10_ := Aside0.mk (Kd.R_lower (Kd.R_new' (Kd.R_new' (Kd.R_new' (Kd.R_new' (Kd.R_newM (M := fun k_ => (w.heap.size ≤ k_)) ho0 (below_size (by repeat (first | (with_reducible first | exact HB.out | apply below_alloc | apply pw_below_drewN | apply below_drew1) | exact HB.out))) (fun k_ h_ => h_)) (Kd.R_lt (by (with_reducible repeat (first | apply Kd.R_alloc | apply Kd.R_drewN | apply Kd.R_drew)); exact HO350.out))) (Kd.R_lt (by (with_reducible repeat (first | apply Kd.R_alloc | apply Kd.R_drewN | apply Kd.R_drew)); exact HO359.out))) (Kd.R_lt (by (with_reducible repeat (first | apply Kd.R_alloc | apply Kd.R_drewN | apply Kd.R_drew)); exact HO374.out))) (Kd.R_lt (by (with_reducible repeat (first | apply Kd.R_alloc | apply Kd.R_drewN | apply Kd.R_drew)); exact HO376.out))) (below_size (by repeat (first | (with_reducible first | exact HB.out | apply below_alloc | apply pw_below_drewN | apply below_drew1) | exact HB.out)))); have n11_ := Aside0.mk (below_step (by repeat (first | (with_reducible first | exact HB.out | apply below_alloc | apply pw_below_drewN | apply below_drew1) | exact HB.out)) hb); clear HO0; clear HO1; clear HO339; clear HO350; clear HO359; clear HO364; clear HO369; clear HO374; clear HO376; clear HO381; clear HB; have HO0 := n0_; have HO1 := n1_; have HO339 := n2_; have HO350 := n3_; have HO359 := n4_; have HO364 := n5_; have HO369 := n6_; have HO374 := n7_; have HO376 := n8_; have HO381 := n9_; have HO386 := n10_; have HB := n11_; clear n0_ n1_ n2_ n3_ n4_ n5_ n6_ n7_ n8_ n9_ n10_ n11_; (try clear hb); (try clear hb2); (try clear hk); (try clear hi); (try clear ho0)))
                    go_loopg [13] k (fun kq v13 w' => ∃ (x7_1 : List Int) (x13_1 : Int), v13 = .int .i64 x13_1 ∧ Aside0 (figureheadlaw03_DivOwn.l0 kq l0 l1 y348 y357 x7_1 t371 t382 x13_1 = some r) ∧ Aside0 (kq ≤ k) ∧ Aside0 (Kd.V (Kd.int .u32) 32 w' w.heap.size (fun k_ => ((P0_ k_ ∨ P1_ k_) ∨ w.heap.size ≤ k_) ∧ some k_ ≠ ((.slice Ao30 y348.length co30) : Value).ownBlock ∧ some k_ ≠ ((.slice Ao32 y357.length co32) : Value).ownBlock ∧ some k_ ≠ (v373 : Value).ownBlock ∧ some k_ ≠ (v375 : Value).ownBlock ∧ some k_ ≠ (v385 : Value).ownBlock) (.slice A0 l0.length c0) l0) ∧ Aside0 (Kd.V (Kd.int .u32) 32 w' w.heap.size (fun k_ => ((P0_ k_ ∨ P1_ k_) ∨ w.heap.size ≤ k_) ∧ some k_ ≠ ((.slice Ao30 y348.length co30) : Value).ownBlock ∧ some k_ ≠ ((.slice Ao32 y357.length co32) : Value).ownBlock ∧ some k_ ≠ (v373 : Value).ownBlock ∧ some k_ ≠ (v375 : Value).ownBlock ∧ some k_ ≠ (v385 : Value).ownBlock) (.slice A1 l1.length c1) l1) ∧ Aside0 (Kd.R (Kd.int .u32) 32 w' w.heap.size (fun k_ => (w.heap.size ≤ k_) ∧ some k_ ≠ ((.slice Ao32 y357.length co32) : Value).ownBlock ∧ some k_ ≠ (v373 : Value).ownBlock ∧ some k_ ≠ (v375 : Value).ownBlock ∧ some k_ ≠ (v385 : Value).ownBlock) (.slice Ao30 y348.length co30) y348) ∧ Aside0 (Kd.R (Kd.int .u32) 32 w' w.heap.size (fun k_ => (w.heap.size ≤ k_) ∧ some k_ ≠ ((.slice Ao30 y348.length co30) : Value).ownBlock ∧ some k_ ≠ (v373 : Value).ownBlock ∧ some k_ ≠ (v375 : Value).ownBlock ∧ some k_ ≠ (v385 : Value).ownBlock) (.slice Ao32 y357.length co32) y357) ∧ Aside0 (Kd.R (Kd.int .u32) 32 w' w.heap.size (fun k_ => (w.heap.size ≤ k_) ∧ some k_ ≠ ((.slice Ao30 y348.length co30) : Value).ownBlock ∧ some k_ ≠ ((.slice Ao32 y357.length co32) : Value).ownBlock ∧ some k_ ≠ (v375 : Value).ownBlock ∧ some k_ ≠ (v385 : Value).ownBlock) v373 x7_1) ∧ Aside0 (Kd.R (Kd.int .u32) 32 w' w.heap.size (fun k_ => (w.heap.size ≤ k_) ∧ some k_ ≠ ((.slice Ao30 y348.length co30) : Value).ownBlock ∧ some k_ ≠ ((.slice Ao32 y357.length co32) : Value).ownBlock ∧ some k_ ≠ (v373 : Value).ownBlock ∧ some k_ ≠ (v385 : Value).ownBlock) v375 t371) ∧ Aside0 (Kd.R (Kd.int .u32) 32 w' w.heap.size (fun k_ => (w.heap.size ≤ k_) ∧ some k_ ≠ ((.slice Ao30 y348.length co30) : Value).ownBlock ∧ some k_ ≠ ((.slice Ao32 y357.length co32) : Value).ownBlock ∧ some k_ ≠ (v373 : Value).ownBlock ∧ some k_ ≠ (v375 : Value).ownBlock) v385 t382) ∧ Aside0 (Below w.heap.size w w'))
                    case atStart => exact ⟨(t370), (0), (by first | rfl | (simp; done) | (simp [*]; done) | (simp [*, Fig.bne_nil]; done)), H', ⟨Nat.le_refl _⟩, ⟨by (with_reducible repeat (first | apply Kd.V_alloc | apply Kd.V_drewN | apply Kd.V_drew)); exact Kd.V_mono HO0.out (fun _ hk => ⟨hk.1.1.1.1.1, ⟨hk.1.1.1.1.2.2, ⟨hk.1.1.1.2, ⟨hk.1.1.2, ⟨hk.1.2, hk.2⟩⟩⟩⟩⟩)⟩, ⟨by (with_reducible repeat (first | apply Kd.V_alloc | apply Kd.V_drewN | apply Kd.V_drew)); exact Kd.V_mono HO1.out (fun _ hk => ⟨hk.1.1.1.1.1, ⟨hk.1.1.1.1.2.2, ⟨hk.1.1.1.2, ⟨hk.1.1.2, ⟨hk.1.2, hk.2⟩⟩⟩⟩⟩)⟩, ⟨by (with_reducible repeat (first | apply Kd.R_alloc | apply Kd.R_drewN | apply Kd.R_drew)); exact Kd.R_mono HO350.out (fun _ hk => ⟨hk.1.1.1.1, ⟨hk.1.1.1.2, ⟨hk.1.1.2, ⟨hk.1.2, hk.2⟩⟩⟩⟩)⟩, ⟨by (with_reducible repeat (first | apply Kd.R_alloc | apply Kd.R_drewN | apply Kd.R_drew)); exact Kd.R_mono HO359.out (fun _ hk => ⟨hk.1.1.1.1, ⟨hk.1.1.1.2, ⟨hk.1.1.2, ⟨hk.1.2, hk.2⟩⟩⟩⟩)⟩, ⟨by (with_reducible repeat (first | apply Kd.R_alloc | apply Kd.R_drewN | apply Kd.R_drew)); exact Kd.R_mono HO374.out (fun _ hk => ⟨hk.1.1.1.1, ⟨hk.1.1.2, ⟨hk.1.2, ⟨hk.1.1.1.2, hk.2⟩⟩⟩⟩)⟩, ⟨by (with_reducible repeat (first | apply Kd.R_alloc | apply Kd.R_drewN | apply Kd.R_drew)); exact Kd.R_mono HO376.out (fun _ hk => ⟨hk.1.1.1.1, ⟨hk.1.1.2, ⟨hk.1.2, ⟨hk.1.1.1.2, hk.2⟩⟩⟩⟩)⟩, ⟨by (with_reducible repeat (first | apply Kd.R_alloc | apply Kd.R_drewN | apply Kd.R_drew)); exact Kd.R_mono HO386.out (fun _ hk => ⟨hk.1.1.1.1.1, ⟨hk.1.1.1.2, ⟨hk.1.1.2, ⟨hk.1.2, hk.2⟩⟩⟩⟩)⟩, ⟨by repeat (first | (with_reducible first | exact HB.out | apply below_alloc | apply pw_below_drewN | apply below_drew1) | exact HB.out)⟩⟩
                    case round =>
                      clear H'
                      try clear c1
                      try clear p2
                      try clear q2
                      try clear q3
                      try clear c4
                      try clear c5
                      try clear c6
                      try clear c7
                      try clear c8
                      try clear c9
                      try clear c9b0
                      try clear c9b1
                      try clear c10
                      try clear c10b0
                      try clear c10b1
                      try clear c11
                      try clear c11b0
                      try clear c11b1
                      try clear c12
                      try clear c12b0
                      try clear c12b1
                      try clear c14
                      try clear c14b0
                      try clear c15
                      try clear c15b0
                      try clear q29
                      try clear q31
                      try clear q34
                      try clear hcut29
                      try clear hcut31
                      try clear hcut34
                      try clear q29
                      try clear q31
                      try clear q34
                      obtain ⟨x7_1, x13_1, rfl, HA, HK1, HO_0, HO_1, HO_5, HO_6, HO_7, HO_8, HO_10, HB⟩ := hrel
                      cases gk with
                      | zero => exact absurd HA.out (by simp [figureheadlaw03_DivOwn.l0])
                      | succ k1 =>
                        have H := HA.out
                        clear HA
                        simp only [figureheadlaw03_DivOwn.l0] at H
                        by_cases c36 : x13_1 < (x7_1.length : Int)
                        · rw [if_pos c36] at H
                          have c36b0 : decide (x13_1 < (x7_1.length : Int)) = true := decide_eq_true c36
                          clear c36
                          by_cases c37 : 0 ≤ x13_1
                          · rw [if_pos c37] at H
                            have c37b0 : decide (0 ≤ x13_1) = true := decide_eq_true c37
                            clear c37
                            obtain ⟨y387, hy387⟩ : ∃ y_ : List Int, y_ = (x7_1.set (x13_1 : Int).toNat 5) := ⟨_, rfl⟩
                            replace H : (figureheadlaw03_DivOwn.l0 k1 l0 l1 y348 y357 y387 t371 t382 (wrap64 (x13_1 + 1))) = some r := by first | (rw [hy387]; with_reducible exact H) | (have H2_ := (Option.bind_some _ _).symm.trans H; rw [hy387]; with_reducible exact H2_) | (have H2_ := (Option.bind_some _ _).symm.trans H; with_reducible exact H2_) | with_reducible exact H | (rw [hy387]; exact H) | exact H
                            have Ny387 := Aside0.mk hy387
                            clear hy387
                            have H' := Aside0.mk H
                            clear H
                            obtain ⟨Ao39, co39, eo39⟩ := Kd.R_slice HO_7.out
                            subst eo39
                            have p38 : 0 ≤ (x13_1 : Int) := of_decide_eq_true (by first | (with_reducible assumption) | assumption)
                            have q38 : (x13_1 : Int) < ((x7_1.length : Int) : Int) := of_decide_eq_true (by first | (with_reducible assumption) | assumption)
                            obtain ⟨go38, co38, eo38, gb38, gl38, cl38, HG38⟩ := Kd.R_form HO_7.out (by omega)
                            (first | cases eo38 | (injection eo38 with ea_ en_ ec_; (first | subst ea_ | (injection ea_ with ea_; subst ea_)); subst ec_; clear en_))
                            have GB38 := Aside0.mk gb38
                            have GG38 := Aside0.mk HG38
                            clear gb38 gl38 HG38
                            obtain ⟨hx38_0, hf38_0⟩ := Kd.R_celln 0 HO_7.out (x13_1 : Int) p38 q38
                            replace p38 := eq_true p38
                            replace q38 := eq_true q38
                            have HP40 := Kd.R_putg HO_7.out (x13_1 : Int) 5
                            go_wp2_with (first | ((with_reducible refine gate_store (t := 32) (p := 62) rfl ?_); refine store_event (t := 32) (p := 62) (v := ?vo_w41) (w1 := (wr.setCell ⟨go38, (x13_1 : Int).toNat, none⟩ (.int .u32 5))) ?hg ?ho ?hn ?hr ?_; (case ho => rfl); (case hg => rfl); (case hn => rfl); (case hr => first | (go_simp; done) | (go_simp; rfl)); intro w41 hw; have hg : wr.grownBy w41 (some go38) := (by rw [hw]; exact HP40.2); have hp_ : Kd.R (Kd.int .u32) 32 w41 w.heap.size (fun k_ => (w.heap.size ≤ k_) ∧ some k_ ≠ (.slice Ao30 y348.length co30 : Value).ownBlock ∧ some k_ ≠ (.slice Ao32 y357.length co32 : Value).ownBlock ∧ some k_ ≠ (v375 : Value).ownBlock ∧ some k_ ≠ (v385 : Value).ownBlock) (.slice (some ⟨go38, 0, none⟩) x7_1.length co39) y387 := (by rw [hw, Ny387.out]; exact HP40.1); clear HP40; have n0_ := Aside0.mk (Kd.V_afterv (v := (.slice (some ⟨go38, 0, none⟩) x7_1.length co39)) (v1 := (.slice (some ⟨go38, 0, none⟩) x7_1.length co39)) (ok := (fun k_ => ((P0_ k_ ∨ P1_ k_) ∨ w.heap.size ≤ k_) ∧ some k_ ≠ (.slice Ao30 y348.length co30 : Value).ownBlock ∧ some k_ ≠ (.slice Ao32 y357.length co32 : Value).ownBlock ∧ some k_ ≠ (v375 : Value).ownBlock ∧ some k_ ≠ (v385 : Value).ownBlock)) (by (with_reducible repeat (first | apply Kd.V_alloc | apply Kd.V_drewN | apply Kd.V_drew)); exact Kd.V_mono HO_0.out (fun _ hk => ⟨⟨hk.1, ⟨hk.2.1, ⟨hk.2.2.1, ⟨hk.2.2.2.2.1, hk.2.2.2.2.2⟩⟩⟩⟩, hk.2.2.2.1⟩)) hg (.inl rfl)); have n1_ := Aside0.mk (Kd.V_afterv (v := (.slice (some ⟨go38, 0, none⟩) x7_1.length co39)) (v1 := (.slice (some ⟨go38, 0, none⟩) x7_1.length co39)) (ok := (fun k_ => ((P0_ k_ ∨ P1_ k_) ∨ w.heap.size ≤ k_) ∧ some k_ ≠ (.slice Ao30 y348.length co30 : Value).ownBlock ∧ some k_ ≠ (.slice Ao32 y357.length co32 : Value).ownBlock ∧ some k_ ≠ (v375 : Value).ownBlock ∧ some k_ ≠ (v385 : Value).ownBlock)) (by (with_reducible repeat (first | apply Kd.V_alloc | apply Kd.V_drewN | apply Kd.V_drew)); exact Kd.V_mono HO_1.out (fun _ hk => ⟨⟨hk.1, ⟨hk.2.1, ⟨hk.2.2.1, ⟨hk.2.2.2.2.1, hk.2.2.2.2.2⟩⟩⟩⟩, hk.2.2.2.1⟩)) hg (.inl rfl)); have n2_ := Aside0.mk (Kd.R_after (v := (.slice (some ⟨go38, 0, none⟩) x7_1.length co39)) (v1 := (.slice (some ⟨go38, 0, none⟩) x7_1.length co39)) (ok := (fun k_ => (w.heap.size ≤ k_) ∧ some k_ ≠ (.slice Ao32 y357.length co32 : Value).ownBlock ∧ some k_ ≠ (v375 : Value).ownBlock ∧ some k_ ≠ (v385 : Value).ownBlock)) (by (with_reducible repeat (first | apply Kd.R_alloc | apply Kd.R_drewN | apply Kd.R_drew)); exact Kd.R_mono HO_5.out (fun _ hk => ⟨⟨hk.1, ⟨hk.2.1, ⟨hk.2.2.2.1, hk.2.2.2.2⟩⟩⟩, hk.2.2.1⟩)) hg (.inl rfl)); have n3_ := Aside0.mk (Kd.R_after (v := (.slice (some ⟨go38, 0, none⟩) x7_1.length co39)) (v1 := (.slice (some ⟨go38, 0, none⟩) x7_1.length co39)) (ok := (fun k_ => (w.heap.size ≤ k_) ∧ some k_ ≠ (.slice Ao30 y348.length co30 : Value).ownBlock ∧ some k_ ≠ (v375 : Value).ownBlock ∧ some k_ ≠ (v385 : Value).ownBlock)) (by (with_reducible repeat (first | apply Kd.R_alloc | apply Kd.R_drewN | apply Kd.R_drew)); exact Kd.R_mono HO_6.out (fun _ hk => ⟨⟨hk.1, ⟨hk.2.1, ⟨hk.2.2.2.1, hk.2.2.2.2⟩⟩⟩, hk.2.2.1⟩)) hg (.inl rfl)); have n4_ := Aside0.mk (hp_); have n5_ := Aside0.mk (Kd.R_after (v := (.slice (some ⟨go38, 0, none⟩) x7_1.length co39)) (v1 := (.slice (some ⟨go38, 0, none⟩) x7_1.length co39)) (ok := (fun k_ => (w.heap.size ≤ k_) ∧ some k_ ≠ (.slice Ao30 y348.length co30 : Value).ownBlock ∧ some k_ ≠ (.slice Ao32 y357.length co32 : Value).ownBlock ∧ some k_ ≠ (v385 : Value).ownBlock)) (by (with_reducible repeat (first | apply Kd.R_alloc | apply Kd.R_drewN | apply Kd.R_drew)); exact Kd.R_mono HO_8.out (fun _ hk => ⟨⟨hk.1, ⟨hk.2.1, ⟨hk.2.2.1, hk.2.2.2.2⟩⟩⟩, hk.2.2.2.1⟩)) hg (.inl rfl)); have n6_ := Aside0.mk (Kd.R_after (v := (.slice (some ⟨go38, 0, none⟩) x7_1.length co39)) (v1 := (.slice (some ⟨go38, 0, none⟩) x7_1.length co39)) (ok := (fun k_ => (w.heap.size ≤ k_) ∧ some k_ ≠ (.slice Ao30 y348.length co30 : Value).ownBlock ∧ some k_ ≠ (.slice Ao32 y357.length co32 : Value).ownBlock ∧ some k_ ≠ (v375 : Value).ownBlock)) (by (with_reducible repeat (first | apply Kd.R_alloc | apply Kd.R_drewN | apply Kd.R_drew)); exact Kd.R_mono HO_10.out (fun _ hk => ⟨⟨hk.1, ⟨hk.2.1, ⟨hk.2.2.1, hk.2.2.2.2⟩⟩⟩, hk.2.2.2.1⟩)) hg (.inl rfl)); have n7_ := Aside0.mk ((by rw [hw]; exact below_set (HB.out) GB38.out : Below w.heap.size w w41)); clear HO_0; clear HO_1; clear HO_5; clear HO_6; clear HO_7; clear HO_8; clear HO_10; clear HB; have HO_0 := n0_; have HO_1 := n1_; have HO_5 := n2_; have HO_6 := n3_; have HO_7 := n4_; have HO_8 := n5_; have HO_10 := n6_; have HB := n7_; clear n0_ n1_ n2_ n3_ n4_ n5_ n6_ n7_; clear hg hw hp_))
                            go_roundg k1
                            case measure => have := HK1.out; omega
                            case rel => exact ⟨(y387), (wrap64 (x13_1 + 1)), (by first | rfl | (simp; done) | (simp [*]; done) | (simp [*, Fig.bne_nil]; done)), H', ⟨by have := HK1.out; omega⟩, ⟨by (with_reducible repeat (first | apply Kd.V_alloc | apply Kd.V_drewN | apply Kd.V_drew)); exact Kd.V_mono HO_0.out (fun _ hk => ⟨hk.1.1, ⟨hk.1.2.1, ⟨hk.1.2.2.1, ⟨hk.2, ⟨hk.1.2.2.2.1, hk.1.2.2.2.2⟩⟩⟩⟩⟩)⟩, ⟨by (with_reducible repeat (first | apply Kd.V_alloc | apply Kd.V_drewN | apply Kd.V_drew)); exact Kd.V_mono HO_1.out (fun _ hk => ⟨hk.1.1, ⟨hk.1.2.1, ⟨hk.1.2.2.1, ⟨hk.2, ⟨hk.1.2.2.2.1, hk.1.2.2.2.2⟩⟩⟩⟩⟩)⟩, ⟨by (with_reducible repeat (first | apply Kd.R_alloc | apply Kd.R_drewN | apply Kd.R_drew)); exact Kd.R_mono HO_5.out (fun _ hk => ⟨hk.1.1, ⟨hk.1.2.1, ⟨hk.2, ⟨hk.1.2.2.1, hk.1.2.2.2⟩⟩⟩⟩)⟩, ⟨by (with_reducible repeat (first | apply Kd.R_alloc | apply Kd.R_drewN | apply Kd.R_drew)); exact Kd.R_mono HO_6.out (fun _ hk => ⟨hk.1.1, ⟨hk.1.2.1, ⟨hk.2, ⟨hk.1.2.2.1, hk.1.2.2.2⟩⟩⟩⟩)⟩, ⟨by (with_reducible repeat (first | apply Kd.R_alloc | apply Kd.R_drewN | apply Kd.R_drew)); exact HO_7.out⟩, ⟨by (with_reducible repeat (first | apply Kd.R_alloc | apply Kd.R_drewN | apply Kd.R_drew)); exact Kd.R_mono HO_8.out (fun _ hk => ⟨hk.1.1, ⟨hk.1.2.1, ⟨hk.1.2.2.1, ⟨hk.2, hk.1.2.2.2⟩⟩⟩⟩)⟩, ⟨by (with_reducible repeat (first | apply Kd.R_alloc | apply Kd.R_drewN | apply Kd.R_drew)); exact Kd.R_mono HO_10.out (fun _ hk => ⟨hk.1.1, ⟨hk.1.2.1, ⟨hk.1.2.2.1, ⟨hk.2, hk.1.2.2.2⟩⟩⟩⟩)⟩, ⟨by repeat (first | (with_reducible first | exact HB.out | apply below_alloc | apply pw_below_drewN | apply below_drew1) | exact HB.out)⟩⟩
                          · rw [if_neg c37] at H
                            exact absurd H (by simp)
                        · rw [if_neg c36] at H
                          have c36b0 : decide (x13_1 < (x7_1.length : Int)) = false := decide_eq_false c36
                          clear c36
                          have H' := Aside0.mk H
                          clear H
                          obtain ⟨Ao42, co42, eo42⟩ := Kd.R_slice HO_7.out
                          subst eo42
                          go_wp2
                          go_loopg [14] k1 (fun kq v14 w' => ∃ (x8_2 : List Int) (x14_2 : Int), v14 = .int .i64 x14_2 ∧ Aside0 (figureheadlaw03_DivOwn.l1 kq l0 l1 y348 y357 x8_2 t382 x14_2 = some r) ∧ Aside0 (kq ≤ k1) ∧ Aside0 (Kd.V (Kd.int .u32) 32 w' w.heap.size (fun k_ => ((P0_ k_ ∨ P1_ k_) ∨ w.heap.size ≤ k_) ∧ some k_ ≠ ((.slice Ao30 y348.length co30) : Value).ownBlock ∧ some k_ ≠ ((.slice Ao32 y357.length co32) : Value).ownBlock ∧ some k_ ≠ (v375 : Value).ownBlock ∧ some k_ ≠ (v385 : Value).ownBlock) (.slice A0 l0.length c0) l0) ∧ Aside0 (Kd.V (Kd.int .u32) 32 w' w.heap.size (fun k_ => ((P0_ k_ ∨ P1_ k_) ∨ w.heap.size ≤ k_) ∧ some k_ ≠ ((.slice Ao30 y348.length co30) : Value).ownBlock ∧ some k_ ≠ ((.slice Ao32 y357.length co32) : Value).ownBlock ∧ some k_ ≠ (v375 : Value).ownBlock ∧ some k_ ≠ (v385 : Value).ownBlock) (.slice A1 l1.length c1) l1) ∧ Aside0 (Kd.R (Kd.int .u32) 32 w' w.heap.size (fun k_ => (w.heap.size ≤ k_) ∧ some k_ ≠ ((.slice Ao32 y357.length co32) : Value).ownBlock ∧ some k_ ≠ (v375 : Value).ownBlock ∧ some k_ ≠ (v385 : Value).ownBlock) (.slice Ao30 y348.length co30) y348) ∧ Aside0 (Kd.R (Kd.int .u32) 32 w' w.heap.size (fun k_ => (w.heap.size ≤ k_) ∧ some k_ ≠ ((.slice Ao30 y348.length co30) : Value).ownBlock ∧ some k_ ≠ (v375 : Value).ownBlock ∧ some k_ ≠ (v385 : Value).ownBlock) (.slice Ao32 y357.length co32) y357) ∧ Aside0 (Kd.R (Kd.int .u32) 32 w' w.heap.size (fun k_ => (w.heap.size ≤ k_) ∧ some k_ ≠ ((.slice Ao30 y348.length co30) : Value).ownBlock ∧ some k_ ≠ ((.slice Ao32 y357.length co32) : Value).ownBlock ∧ some k_ ≠ (v385 : Value).ownBlock) v375 x8_2) ∧ Aside0 (Kd.R (Kd.int .u32) 32 w' w.heap.size (fun k_ => (w.heap.size ≤ k_) ∧ some k_ ≠ ((.slice Ao30 y348.length co30) : Value).ownBlock ∧ some k_ ≠ ((.slice Ao32 y357.length co32) : Value).ownBlock ∧ some k_ ≠ (v375 : Value).ownBlock) v385 t382) ∧ Aside0 (Below w.heap.size w w'))
                          case atStart => exact ⟨(t371), (0), (by first | rfl | (simp; done) | (simp [*]; done) | (simp [*, Fig.bne_nil]; done)), H', ⟨Nat.le_refl _⟩, ⟨by (with_reducible repeat (first | apply Kd.V_alloc | apply Kd.V_drewN | apply Kd.V_drew)); exact Kd.V_mono HO_0.out (fun _ hk => ⟨hk.1, ⟨hk.2.1, ⟨hk.2.2.1, ⟨hk.2.2.2.2.1, hk.2.2.2.2.2⟩⟩⟩⟩)⟩, ⟨by (with_reducible repeat (first | apply Kd.V_alloc | apply Kd.V_drewN | apply Kd.V_drew)); exact Kd.V_mono HO_1.out (fun _ hk => ⟨hk.1, ⟨hk.2.1, ⟨hk.2.2.1, ⟨hk.2.2.2.2.1, hk.2.2.2.2.2⟩⟩⟩⟩)⟩, ⟨by (with_reducible repeat (first | apply Kd.R_alloc | apply Kd.R_drewN | apply Kd.R_drew)); exact Kd.R_mono HO_5.out (fun _ hk => ⟨hk.1, ⟨hk.2.1, ⟨hk.2.2.2.1, hk.2.2.2.2⟩⟩⟩)⟩, ⟨by (with_reducible repeat (first | apply Kd.R_alloc | apply Kd.R_drewN | apply Kd.R_drew)); exact Kd.R_mono HO_6.out (fun _ hk => ⟨hk.1, ⟨hk.2.1, ⟨hk.2.2.2.1, hk.2.2.2.2⟩⟩⟩)⟩, ⟨by (with_reducible repeat (first | apply Kd.R_alloc | apply Kd.R_drewN | apply Kd.R_drew)); exact Kd.R_mono HO_8.out (fun _ hk => ⟨hk.1, ⟨hk.2.1, ⟨hk.2.2.1, hk.2.2.2.2⟩⟩⟩)⟩, ⟨by (with_reducible repeat (first | apply Kd.R_alloc | apply Kd.R_drewN | apply Kd.R_drew)); exact Kd.R_mono HO_10.out (fun _ hk => ⟨hk.1, ⟨hk.2.1, ⟨hk.2.2.1, hk.2.2.2.2⟩⟩⟩)⟩, ⟨by repeat (first | (with_reducible first | exact HB.out | apply below_alloc | apply pw_below_drewN | apply below_drew1) | exact HB.out)⟩⟩
                          case round =>
                            clear H'
                            try clear c1
                            try clear p2
                            try clear q2
                            try clear c3
                            try clear p3
                            try clear q3
                            try clear hx3
                            try clear hf3
                            try clear c4
                            try clear c5
                            try clear c6
                            try clear p6
                            try clear c7
                            try clear c8
                            try clear c9
                            try clear c9b0
                            try clear c9b1
                            try clear c10
                            try clear c10b0
                            try clear c10b1
                            try clear c11
                            try clear c11b0
                            try clear c11b1
                            try clear c12
                            try clear c12b0
                            try clear c12b1
                            try clear c14
                            try clear c14b0
                            try clear c15
                            try clear c15b0
                            try clear q29
                            try clear q31
                            try clear q34
                            try clear c36
                            try clear c36b0
                            try clear c37
                            try clear c37b0
                            try clear p38
                            try clear q38
                            try clear hx38
                            try clear hf38
                            try clear hcut29
                            try clear hcut31
                            try clear hcut34
                            try clear hx38_0
                            try clear p2
                            try clear p38
                            try clear q2
                            try clear q29
                            try clear q3
                            try clear q31
                            try clear q34
                            try clear q38
                            obtain ⟨x8_2, x14_2, rfl, HA, HK2, HO_0, HO_1, HO_5, HO_6, HO_8, HO_10, HB⟩ := hrel
                            cases gk with
                            | zero => exact absurd HA.out (by simp [figureheadlaw03_DivOwn.l1])
                            | succ k2 =>
                              have H := HA.out
                              clear HA
                              simp only [figureheadlaw03_DivOwn.l1] at H
                              by_cases c43 : x14_2 < (x8_2.length : Int)
                              · rw [if_pos c43] at H
                                have c43b0 : decide (x14_2 < (x8_2.length : Int)) = true := decide_eq_true c43
                                clear c43
                                by_cases c44 : 0 ≤ x14_2
                                · rw [if_pos c44] at H
                                  have c44b0 : decide (0 ≤ x14_2) = true := decide_eq_true c44
                                  clear c44
                                  obtain ⟨y388, hy388⟩ : ∃ y_ : List Int, y_ = (x8_2.set (x14_2 : Int).toNat 5) := ⟨_, rfl⟩
                                  replace H : (figureheadlaw03_DivOwn.l1 k2 l0 l1 y348 y357 y388 t382 (wrap64 (x14_2 + 1))) = some r := by first | (rw [hy388]; with_reducible exact H) | (have H2_ := (Option.bind_some _ _).symm.trans H; rw [hy388]; with_reducible exact H2_) | (have H2_ := (Option.bind_some _ _).symm.trans H; with_reducible exact H2_) | with_reducible exact H | (rw [hy388]; exact H) | exact H
                                  have Ny388 := Aside0.mk hy388
                                  clear hy388
                                  have H' := Aside0.mk H
                                  clear H
                                  obtain ⟨Ao46, co46, eo46⟩ := Kd.R_slice HO_8.out
                                  subst eo46
                                  have p45 : 0 ≤ (x14_2 : Int) := of_decide_eq_true (by first | (with_reducible assumption) | assumption)
                                  have q45 : (x14_2 : Int) < ((x8_2.length : Int) : Int) := of_decide_eq_true (by first | (with_reducible assumption) | assumption)
                                  obtain ⟨go45, co45, eo45, gb45, gl45, cl45, HG45⟩ := Kd.R_form HO_8.out (by omega)
                                  (first | cases eo45 | (injection eo45 with ea_ en_ ec_; (first | subst ea_ | (injection ea_ with ea_; subst ea_)); subst ec_; clear en_))
                                  have GB45 := Aside0.mk gb45
                                  have GG45 := Aside0.mk HG45
                                  clear gb45 gl45 HG45
                                  obtain ⟨hx45_0, hf45_0⟩ := Kd.R_celln 0 HO_8.out (x14_2 : Int) p45 q45
                                  replace p45 := eq_true p45
                                  replace q45 := eq_true q45
                                  have HP47 := Kd.R_putg HO_8.out (x14_2 : Int) 5
                                  go_wp2_with (first | ((with_reducible refine gate_store (t := 32) (p := 71) rfl ?_); refine store_event (t := 32) (p := 71) (v := ?vo_w48) (w1 := (wr.setCell ⟨go45, (x14_2 : Int).toNat, none⟩ (.int .u32 5))) ?hg ?ho ?hn ?hr ?_; (case ho => rfl); (case hg => rfl); (case hn => rfl); (case hr => first | (go_simp; done) | (go_simp; rfl)); intro w48 hw; have hg : wr.grownBy w48 (some go45) := (by rw [hw]; exact HP47.2); have hp_ : Kd.R (Kd.int .u32) 32 w48 w.heap.size (fun k_ => (w.heap.size ≤ k_) ∧ some k_ ≠ (.slice Ao30 y348.length co30 : Value).ownBlock ∧ some k_ ≠ (.slice Ao32 y357.length co32 : Value).ownBlock ∧ some k_ ≠ (v385 : Value).ownBlock) (.slice (some ⟨go45, 0, none⟩) x8_2.length co46) y388 := (by rw [hw, Ny388.out]; exact HP47.1); clear HP47; have n0_ := Aside0.mk (Kd.V_afterv (v := (.slice (some ⟨go45, 0, none⟩) x8_2.length co46)) (v1 := (.slice (some ⟨go45, 0, none⟩) x8_2.length co46)) (ok := (fun k_ => ((P0_ k_ ∨ P1_ k_) ∨ w.heap.size ≤ k_) ∧ some k_ ≠ (.slice Ao30 y348.length co30 : Value).ownBlock ∧ some k_ ≠ (.slice Ao32 y357.length co32 : Value).ownBlock ∧ some k_ ≠ (v385 : Value).ownBlock)) (by (with_reducible repeat (first | apply Kd.V_alloc | apply Kd.V_drewN | apply Kd.V_drew)); exact Kd.V_mono HO_0.out (fun _ hk => ⟨⟨hk.1, ⟨hk.2.1, ⟨hk.2.2.1, hk.2.2.2.2⟩⟩⟩, hk.2.2.2.1⟩)) hg (.inl rfl)); have n1_ := Aside0.mk (Kd.V_afterv (v := (.slice (some ⟨go45, 0, none⟩) x8_2.length co46)) (v1 := (.slice (some ⟨go45, 0, none⟩) x8_2.length co46)) (ok := (fun k_ => ((P0_ k_ ∨ P1_ k_) ∨ w.heap.size ≤ k_) ∧ some k_ ≠ (.slice Ao30 y348.length co30 : Value).ownBlock ∧ some k_ ≠ (.slice Ao32 y357.length co32 : Value).ownBlock ∧ some k_ ≠ (v385 : Value).ownBlock)) (by (with_reducible repeat (first | apply Kd.V_alloc | apply Kd.V_drewN | apply Kd.V_drew)); exact Kd.V_mono HO_1.out (fun _ hk => ⟨⟨hk.1, ⟨hk.2.1, ⟨hk.2.2.1, hk.2.2.2.2⟩⟩⟩, hk.2.2.2.1⟩)) hg (.inl rfl)); have n2_ := Aside0.mk (Kd.R_after (v := (.slice (some ⟨go45, 0, none⟩) x8_2.length co46)) (v1 := (.slice (some ⟨go45, 0, none⟩) x8_2.length co46)) (ok := (fun k_ => (w.heap.size ≤ k_) ∧ some k_ ≠ (.slice Ao32 y357.length co32 : Value).ownBlock ∧ some k_ ≠ (v385 : Value).ownBlock)) (by (with_reducible repeat (first | apply Kd.R_alloc | apply Kd.R_drewN | apply Kd.R_drew)); exact Kd.R_mono HO_5.out (fun _ hk => ⟨⟨hk.1, ⟨hk.2.1, hk.2.2.2⟩⟩, hk.2.2.1⟩)) hg (.inl rfl)); have n3_ := Aside0.mk (Kd.R_after (v := (.slice (some ⟨go45, 0, none⟩) x8_2.length co46)) (v1 := (.slice (some ⟨go45, 0, none⟩) x8_2.length co46)) (ok := (fun k_ => (w.heap.size ≤ k_) ∧ some k_ ≠ (.slice Ao30 y348.length co30 : Value).ownBlock ∧ some k_ ≠ (v385 : Value).ownBlock)) (by (with_reducible repeat (first | apply Kd.R_alloc | apply Kd.R_drewN | apply Kd.R_drew)); exact Kd.R_mono HO_6.out (fun _ hk => ⟨⟨hk.1, ⟨hk.2.1, hk.2.2.2⟩⟩, hk.2.2.1⟩)) hg (.inl rfl)); have n4_ := Aside0.mk (hp_); have n5_ := Aside0.mk (Kd.R_after (v := (.slice (some ⟨go45, 0, none⟩) x8_2.length co46)) (v1 := (.slice (some ⟨go45, 0, none⟩) x8_2.length co46)) (ok := (fun k_ => (w.heap.size ≤ k_) ∧ some k_ ≠ (.slice Ao30 y348.length co30 : Value).ownBlock ∧ some k_ ≠ (.slice Ao32 y357.length co32 : Value).ownBlock)) (by (with_reducible repeat (first | apply Kd.R_alloc | apply Kd.R_drewN | apply Kd.R_drew)); exact Kd.R_mono HO_10.out (fun _ hk => ⟨⟨hk.1, ⟨hk.2.1, hk.2.2.1⟩⟩, hk.2.2.2⟩)) hg (.inl rfl)); have n6_ := Aside0.mk ((by rw [hw]; exact below_set (HB.out) GB45.out : Below w.heap.size w w48)); clear HO_0; clear HO_1; clear HO_5; clear HO_6; clear HO_8; clear HO_10; clear HB; have HO_0 := n0_; have HO_1 := n1_; have HO_5 := n2_; have HO_6 := n3_; have HO_8 := n4_; have HO_10 := n5_; have HB := n6_; clear n0_ n1_ n2_ n3_ n4_ n5_ n6_; clear hg hw hp_))
                                  go_roundg k2
                                  case measure => have := HK1.out; have := HK2.out; omega
                                  case rel => exact ⟨(y388), (wrap64 (x14_2 + 1)), (by first | rfl | (simp; done) | (simp [*]; done) | (simp [*, Fig.bne_nil]; done)), H', ⟨by have := HK1.out; have := HK2.out; omega⟩, ⟨by (with_reducible repeat (first | apply Kd.V_alloc | apply Kd.V_drewN | apply Kd.V_drew)); exact Kd.V_mono HO_0.out (fun _ hk => ⟨hk.1.1, ⟨hk.1.2.1, ⟨hk.1.2.2.1, ⟨hk.2, hk.1.2.2.2⟩⟩⟩⟩)⟩, ⟨by (with_reducible repeat (first | apply Kd.V_alloc | apply Kd.V_drewN | apply Kd.V_drew)); exact Kd.V_mono HO_1.out (fun _ hk => ⟨hk.1.1, ⟨hk.1.2.1, ⟨hk.1.2.2.1, ⟨hk.2, hk.1.2.2.2⟩⟩⟩⟩)⟩, ⟨by (with_reducible repeat (first | apply Kd.R_alloc | apply Kd.R_drewN | apply Kd.R_drew)); exact Kd.R_mono HO_5.out (fun _ hk => ⟨hk.1.1, ⟨hk.1.2.1, ⟨hk.2, hk.1.2.2⟩⟩⟩)⟩, ⟨by (with_reducible repeat (first | apply Kd.R_alloc | apply Kd.R_drewN | apply Kd.R_drew)); exact Kd.R_mono HO_6.out (fun _ hk => ⟨hk.1.1, ⟨hk.1.2.1, ⟨hk.2, hk.1.2.2⟩⟩⟩)⟩, ⟨by (with_reducible repeat (first | apply Kd.R_alloc | apply Kd.R_drewN | apply Kd.R_drew)); exact HO_8.out⟩, ⟨by (with_reducible repeat (first | apply Kd.R_alloc | apply Kd.R_drewN | apply Kd.R_drew)); exact Kd.R_mono HO_10.out (fun _ hk => ⟨hk.1.1, ⟨hk.1.2.1, ⟨hk.1.2.2, hk.2⟩⟩⟩)⟩, ⟨by repeat (first | (with_reducible first | exact HB.out | apply below_alloc | apply pw_below_drewN | apply below_drew1) | exact HB.out)⟩⟩
                                · rw [if_neg c44] at H
                                  exact absurd H (by simp)
                              · rw [if_neg c43] at H
                                have c43b0 : decide (x14_2 < (x8_2.length : Int)) = false := decide_eq_false c43
                                clear c43
                                have H' := Aside0.mk H
                                clear H
                                obtain ⟨Ao49, co49, eo49⟩ := Kd.R_slice HO_8.out
                                subst eo49
                                go_wp2
                                go_loopg [15] k2 (fun kq v15 w' => ∃ (x10_3 : List Int) (x15_3 : Int), v15 = .int .i64 x15_3 ∧ Aside0 (figureheadlaw03_DivOwn.l2 kq l0 l1 y348 y357 x10_3 x15_3 = some r) ∧ Aside0 (kq ≤ k2) ∧ Aside0 (Kd.V (Kd.int .u32) 32 w' w.heap.size (fun k_ => ((P0_ k_ ∨ P1_ k_) ∨ w.heap.size ≤ k_) ∧ some k_ ≠ ((.slice Ao30 y348.length co30) : Value).ownBlock ∧ some k_ ≠ ((.slice Ao32 y357.length co32) : Value).ownBlock ∧ some k_ ≠ (v385 : Value).ownBlock) (.slice A0 l0.length c0) l0) ∧ Aside0 (Kd.V (Kd.int .u32) 32 w' w.heap.size (fun k_ => ((P0_ k_ ∨ P1_ k_) ∨ w.heap.size ≤ k_) ∧ some k_ ≠ ((.slice Ao30 y348.length co30) : Value).ownBlock ∧ some k_ ≠ ((.slice Ao32 y357.length co32) : Value).ownBlock ∧ some k_ ≠ (v385 : Value).ownBlock) (.slice A1 l1.length c1) l1) ∧ Aside0 (Kd.R (Kd.int .u32) 32 w' w.heap.size (fun k_ => (w.heap.size ≤ k_) ∧ some k_ ≠ ((.slice Ao32 y357.length co32) : Value).ownBlock ∧ some k_ ≠ (v385 : Value).ownBlock) (.slice Ao30 y348.length co30) y348) ∧ Aside0 (Kd.R (Kd.int .u32) 32 w' w.heap.size (fun k_ => (w.heap.size ≤ k_) ∧ some k_ ≠ ((.slice Ao30 y348.length co30) : Value).ownBlock ∧ some k_ ≠ (v385 : Value).ownBlock) (.slice Ao32 y357.length co32) y357) ∧ Aside0 (Kd.R (Kd.int .u32) 32 w' w.heap.size (fun k_ => (w.heap.size ≤ k_) ∧ some k_ ≠ ((.slice Ao30 y348.length co30) : Value).ownBlock ∧ some k_ ≠ ((.slice Ao32 y357.length co32) : Value).ownBlock) v385 x10_3) ∧ Aside0 (Below w.heap.size w w'))
                                case atStart => exact ⟨(t382), (0), (by first | rfl | (simp; done) | (simp [*]; done) | (simp [*, Fig.bne_nil]; done)), H', ⟨Nat.le_refl _⟩, ⟨by (with_reducible repeat (first | apply Kd.V_alloc | apply Kd.V_drewN | apply Kd.V_drew)); exact Kd.V_mono HO_0.out (fun _ hk => ⟨hk.1, ⟨hk.2.1, ⟨hk.2.2.1, hk.2.2.2.2⟩⟩⟩)⟩, ⟨by (with_reducible repeat (first | apply Kd.V_alloc | apply Kd.V_drewN | apply Kd.V_drew)); exact Kd.V_mono HO_1.out (fun _ hk => ⟨hk.1, ⟨hk.2.1, ⟨hk.2.2.1, hk.2.2.2.2⟩⟩⟩)⟩, ⟨by (with_reducible repeat (first | apply Kd.R_alloc | apply Kd.R_drewN | apply Kd.R_drew)); exact Kd.R_mono HO_5.out (fun _ hk => ⟨hk.1, ⟨hk.2.1, hk.2.2.2⟩⟩)⟩, ⟨by (with_reducible repeat (first | apply Kd.R_alloc | apply Kd.R_drewN | apply Kd.R_drew)); exact Kd.R_mono HO_6.out (fun _ hk => ⟨hk.1, ⟨hk.2.1, hk.2.2.2⟩⟩)⟩, ⟨by (with_reducible repeat (first | apply Kd.R_alloc | apply Kd.R_drewN | apply Kd.R_drew)); exact Kd.R_mono HO_10.out (fun _ hk => ⟨hk.1, ⟨hk.2.1, hk.2.2.1⟩⟩)⟩, ⟨by repeat (first | (with_reducible first | exact HB.out | apply below_alloc | apply pw_below_drewN | apply below_drew1) | exact HB.out)⟩⟩
                                case round =>
                                  clear H'
                                  try clear c1
                                  try clear p2
                                  try clear q2
                                  try clear c3
                                  try clear p3
                                  try clear q3
                                  try clear hx3
                                  try clear hf3
                                  try clear c4
                                  try clear p4
                                  try clear q4
                                  try clear hx4
                                  try clear hf4
                                  try clear c5
                                  try clear c6
                                  try clear p6
                                  try clear c7
                                  try clear c8
                                  try clear c9
                                  try clear c9b0
                                  try clear c9b1
                                  try clear c10
                                  try clear c10b0
                                  try clear c10b1
                                  try clear c11
                                  try clear c11b0
                                  try clear c11b1
                                  try clear c12
                                  try clear c12b0
                                  try clear c12b1
                                  try clear c14
                                  try clear c14b0
                                  try clear c15
                                  try clear c15b0
                                  try clear q29
                                  try clear q31
                                  try clear q34
                                  try clear c36
                                  try clear c36b0
                                  try clear c37
                                  try clear c37b0
                                  try clear p38
                                  try clear q38
                                  try clear hx38
                                  try clear hf38
                                  try clear c43
                                  try clear c43b0
                                  try clear c44
                                  try clear c44b0
                                  try clear p45
                                  try clear q45
                                  try clear hx45
                                  try clear hf45
                                  try clear hcut29
                                  try clear hcut31
                                  try clear hcut34
                                  try clear hx38_0
                                  try clear hx45_0
                                  try clear p2
                                  try clear p3
                                  try clear p38
                                  try clear p45
                                  try clear p6
                                  try clear q2
                                  try clear q29
                                  try clear q3
                                  try clear q31
                                  try clear q34
                                  try clear q38
                                  try clear q45
                                  obtain ⟨x10_3, x15_3, rfl, HA, HK3, HO_0, HO_1, HO_5, HO_6, HO_10, HB⟩ := hrel
                                  cases gk with
                                  | zero => exact absurd HA.out (by simp [figureheadlaw03_DivOwn.l2])
                                  | succ k3 =>
                                    have H := HA.out
                                    clear HA
                                    simp only [figureheadlaw03_DivOwn.l2] at H
                                    by_cases c50 : x15_3 < (x10_3.length : Int)
                                    · rw [if_pos c50] at H
                                      have c50b0 : decide (x15_3 < (x10_3.length : Int)) = true := decide_eq_true c50
                                      clear c50
                                      by_cases c51 : 0 ≤ x15_3
                                      · rw [if_pos c51] at H
                                        have c51b0 : decide (0 ≤ x15_3) = true := decide_eq_true c51
                                        clear c51
                                        obtain ⟨y389, hy389⟩ : ∃ y_ : List Int, y_ = (x10_3.set (x15_3 : Int).toNat 5) := ⟨_, rfl⟩
                                        replace H : (figureheadlaw03_DivOwn.l2 k3 l0 l1 y348 y357 y389 (wrap64 (x15_3 + 1))) = some r := by first | (rw [hy389]; with_reducible exact H) | (have H2_ := (Option.bind_some _ _).symm.trans H; rw [hy389]; with_reducible exact H2_) | (have H2_ := (Option.bind_some _ _).symm.trans H; with_reducible exact H2_) | with_reducible exact H | (rw [hy389]; exact H) | exact H
                                        have Ny389 := Aside0.mk hy389
                                        clear hy389
                                        have H' := Aside0.mk H
                                        clear H
                                        obtain ⟨Ao53, co53, eo53⟩ := Kd.R_slice HO_10.out
                                        subst eo53
                                        have p52 : 0 ≤ (x15_3 : Int) := of_decide_eq_true (by first | (with_reducible assumption) | assumption)
                                        have q52 : (x15_3 : Int) < ((x10_3.length : Int) : Int) := of_decide_eq_true (by first | (with_reducible assumption) | assumption)
                                        obtain ⟨go52, co52, eo52, gb52, gl52, cl52, HG52⟩ := Kd.R_form HO_10.out (by omega)
                                        (first | cases eo52 | (injection eo52 with ea_ en_ ec_; (first | subst ea_ | (injection ea_ with ea_; subst ea_)); subst ec_; clear en_))
                                        have GB52 := Aside0.mk gb52
                                        have GG52 := Aside0.mk HG52
                                        clear gb52 gl52 HG52
                                        obtain ⟨hx52_0, hf52_0⟩ := Kd.R_celln 0 HO_10.out (x15_3 : Int) p52 q52
                                        replace p52 := eq_true p52
                                        replace q52 := eq_true q52
                                        have HP54 := Kd.R_putg HO_10.out (x15_3 : Int) 5
                                        go_wp2_with (first | ((with_reducible refine gate_store (t := 32) (p := 80) rfl ?_); refine store_event (t := 32) (p := 80) (v := ?vo_w55) (w1 := (wr.setCell ⟨go52, (x15_3 : Int).toNat, none⟩ (.int .u32 5))) ?hg ?ho ?hn ?hr ?_; (case ho => rfl); (case hg => rfl); (case hn => rfl); (case hr => first | (go_simp; done) | (go_simp; rfl)); intro w55 hw; have hg : wr.grownBy w55 (some go52) := (by rw [hw]; exact HP54.2); have hp_ : Kd.R (Kd.int .u32) 32 w55 w.heap.size (fun k_ => (w.heap.size ≤ k_) ∧ some k_ ≠ (.slice Ao30 y348.length co30 : Value).ownBlock ∧ some k_ ≠ (.slice Ao32 y357.length co32 : Value).ownBlock) (.slice (some ⟨go52, 0, none⟩) x10_3.length co53) y389 := (by rw [hw, Ny389.out]; exact HP54.1); clear HP54; have n0_ := Aside0.mk (Kd.V_afterv (v := (.slice (some ⟨go52, 0, none⟩) x10_3.length co53)) (v1 := (.slice (some ⟨go52, 0, none⟩) x10_3.length co53)) (ok := (fun k_ => ((P0_ k_ ∨ P1_ k_) ∨ w.heap.size ≤ k_) ∧ some k_ ≠ (.slice Ao30 y348.length co30 : Value).ownBlock ∧ some k_ ≠ (.slice Ao32 y357.length co32 : Value).ownBlock)) (by (with_reducible repeat (first | apply Kd.V_alloc | apply Kd.V_drewN | apply Kd.V_drew)); exact Kd.V_mono HO_0.out (fun _ hk => ⟨⟨hk.1, ⟨hk.2.1, hk.2.2.1⟩⟩, hk.2.2.2⟩)) hg (.inl rfl)); have n1_ := Aside0.mk (Kd.V_afterv (v := (.slice (some ⟨go52, 0, none⟩) x10_3.length co53)) (v1 := (.slice (some ⟨go52, 0, none⟩) x10_3.length co53)) (ok := (fun k_ => ((P0_ k_ ∨ P1_ k_) ∨ w.heap.size ≤ k_) ∧ some k_ ≠ (.slice Ao30 y348.length co30 : Value).ownBlock ∧ some k_ ≠ (.slice Ao32 y357.length co32 : Value).ownBlock)) (by (with_reducible repeat (first | apply Kd.V_alloc | apply Kd.V_drewN | apply Kd.V_drew)); exact Kd.V_mono HO_1.out (fun _ hk => ⟨⟨hk.1, ⟨hk.2.1, hk.2.2.1⟩⟩, hk.2.2.2⟩)) hg (.inl rfl)); have n2_ := Aside0.mk (Kd.R_after (v := (.slice (some ⟨go52, 0, none⟩) x10_3.length co53)) (v1 := (.slice (some ⟨go52, 0, none⟩) x10_3.length co53)) (ok := (fun k_ => (w.heap.size ≤ k_) ∧ some k_ ≠ (.slice Ao32 y357.length co32 : Value).ownBlock)) (by (with_reducible repeat (first | apply Kd.R_alloc | apply Kd.R_drewN | apply Kd.R_drew)); exact Kd.R_mono HO_5.out (fun _ hk => ⟨⟨hk.1, hk.2.1⟩, hk.2.2⟩)) hg (.inl rfl)); have n3_ := Aside0.mk (Kd.R_after (v := (.slice (some ⟨go52, 0, none⟩) x10_3.length co53)) (v1 := (.slice (some ⟨go52, 0, none⟩) x10_3.length co53)) (ok := (fun k_ => (w.heap.size ≤ k_) ∧ some k_ ≠ (.slice Ao30 y348.length co30 : Value).ownBlock)) (by (with_reducible repeat (first | apply Kd.R_alloc | apply Kd.R_drewN | apply Kd.R_drew)); exact Kd.R_mono HO_6.out (fun _ hk => ⟨⟨hk.1, hk.2.1⟩, hk.2.2⟩)) hg (.inl rfl)); have n4_ := Aside0.mk (hp_); have n5_ := Aside0.mk ((by rw [hw]; exact below_set (HB.out) GB52.out : Below w.heap.size w w55)); clear HO_0; clear HO_1; clear HO_5; clear HO_6; clear HO_10; clear HB; have HO_0 := n0_; have HO_1 := n1_; have HO_5 := n2_; have HO_6 := n3_; have HO_10 := n4_; have HB := n5_; clear n0_ n1_ n2_ n3_ n4_ n5_; clear hg hw hp_))
                                        go_roundg k3
                                        case measure => have := HK1.out; have := HK2.out; have := HK3.out; omega
                                        case rel => exact ⟨(y389), (wrap64 (x15_3 + 1)), (by first | rfl | (simp; done) | (simp [*]; done) | (simp [*, Fig.bne_nil]; done)), H', ⟨by have := HK1.out; have := HK2.out; have := HK3.out; omega⟩, ⟨by (with_reducible repeat (first | apply Kd.V_alloc | apply Kd.V_drewN | apply Kd.V_drew)); exact Kd.V_mono HO_0.out (fun _ hk => ⟨hk.1.1, ⟨hk.1.2.1, ⟨hk.1.2.2, hk.2⟩⟩⟩)⟩, ⟨by (with_reducible repeat (first | apply Kd.V_alloc | apply Kd.V_drewN | apply Kd.V_drew)); exact Kd.V_mono HO_1.out (fun _ hk => ⟨hk.1.1, ⟨hk.1.2.1, ⟨hk.1.2.2, hk.2⟩⟩⟩)⟩, ⟨by (with_reducible repeat (first | apply Kd.R_alloc | apply Kd.R_drewN | apply Kd.R_drew)); exact Kd.R_mono HO_5.out (fun _ hk => ⟨hk.1.1, ⟨hk.1.2, hk.2⟩⟩)⟩, ⟨by (with_reducible repeat (first | apply Kd.R_alloc | apply Kd.R_drewN | apply Kd.R_drew)); exact Kd.R_mono HO_6.out (fun _ hk => ⟨hk.1.1, ⟨hk.1.2, hk.2⟩⟩)⟩, ⟨by (with_reducible repeat (first | apply Kd.R_alloc | apply Kd.R_drewN | apply Kd.R_drew)); exact HO_10.out⟩, ⟨by repeat (first | (with_reducible first | exact HB.out | apply below_alloc | apply pw_below_drewN | apply below_drew1) | exact HB.out)⟩⟩
                                      · rw [if_neg c51] at H
                                        exact absurd H (by simp)
                                    · rw [if_neg c50] at H
                                      have c50b0 : decide (x15_3 < (x10_3.length : Int)) = false := decide_eq_false c50
                                      clear c50
                                      replace H := Option.bind_eq_some_iff.mp H
                                      obtain ⟨t390, A560, H⟩ := H
                                      replace H : (if t390 = true then (if 0 ≤ (l0.length : Int) then (if (l0.length : Int) ≤ (y348.length : Int) then ((figureheadref01_Same.f k3 (y348.take ((l0.length : Int) : Int).toNat) l0).bind fun t396 => (if t396 = true then (if 0 ≤ (l1.length : Int) then (if (l1.length : Int) ≤ (y357.length : Int) then ((figureheadref01_Same.f k3 (y357.take ((l1.length : Int) : Int).toNat) l1).bind fun t402 => (if t402 = true then (if (l0.length : Int) < (y348.length : Int) then (if (rd y348 (l0.length : Int)) = 7 then (if (l1.length : Int) < (y357.length : Int) then (some ((rd y357 (l1.length : Int)) == 8)) else (none)) else (some false)) else (none)) else (some false))) else (none)) else (none)) else (some false))) else (none)) else (none)) else (some false)) = some r := H
                                      have A56 := Aside0.mk A560
                                      clear A560
                                      by_cases c57 : t390 = true
                                      · subst c57
                                        have H1 : (if 0 ≤ (l0.length : Int) then (if (l0.length : Int) ≤ (y348.length : Int) then ((figureheadref01_Same.f k3 (y348.take ((l0.length : Int) : Int).toNat) l0).bind fun t396 => (if t396 = true then (if 0 ≤ (l1.length : Int) then (if (l1.length : Int) ≤ (y357.length : Int) then ((figureheadref01_Same.f k3 (y357.take ((l1.length : Int) : Int).toNat) l1).bind fun t402 => (if t402 = true then (if (l0.length : Int) < (y348.length : Int) then (if (rd y348 (l0.length : Int)) = 7 then (if (l1.length : Int) < (y357.length : Int) then (some ((rd y357 (l1.length : Int)) == 8)) else (none)) else (some false)) else (none)) else (some false))) else (none)) else (none)) else (some false))) else (none)) else (none)) = some r := by rw [if_pos rfl] at H; exact H
                                        clear H
                                        have H := H1
                                        clear H1
                                        by_cases c58 : 0 ≤ (l0.length : Int)
                                        · rw [if_pos c58] at H
                                          have c58b0 := eq_true c58
                                          have c58b1 : decide (0 ≤ (l0.length : Int)) = true := decide_eq_true c58
                                          clear c58
                                          by_cases c59 : (l0.length : Int) ≤ (y348.length : Int)
                                          · rw [if_pos c59] at H
                                            have c59b0 := eq_true c59
                                            have c59b1 : decide ((l0.length : Int) ≤ (y348.length : Int)) = true := decide_eq_true c59
                                            clear c59
                                            obtain ⟨y391, hy391⟩ : ∃ y_ : List Int, y_ = (y348.take ((l0.length : Int) : Int).toNat) := ⟨_, rfl⟩
                                            replace H : ((figureheadref01_Same.f k3 y391 l0).bind fun t396 => (if t396 = true then (if 0 ≤ (l1.length : Int) then (if (l1.length : Int) ≤ (y357.length : Int) then ((figureheadref01_Same.f k3 (y357.take ((l1.length : Int) : Int).toNat) l1).bind fun t402 => (if t402 = true then (if (l0.length : Int) < (y348.length : Int) then (if (rd y348 (l0.length : Int)) = 7 then (if (l1.length : Int) < (y357.length : Int) then (some ((rd y357 (l1.length : Int)) == 8)) else (none)) else (some false)) else (none)) else (some false))) else (none)) else (none)) else (some false))) = some r := by first | (rw [hy391]; with_reducible exact H) | (have H2_ := (Option.bind_some _ _).symm.trans H; rw [hy391]; with_reducible exact H2_) | (have H2_ := (Option.bind_some _ _).symm.trans H; with_reducible exact H2_) | with_reducible exact H | (rw [hy391]; exact H) | exact H
                                            have Ny391 := Aside0.mk hy391
                                            clear hy391
                                            replace H := Option.bind_eq_some_iff.mp H
                                            obtain ⟨t396, A600, H⟩ := H
                                            replace H : (if t396 = true then (if 0 ≤ (l1.length : Int) then (if (l1.length : Int) ≤ (y357.length : Int) then ((figureheadref01_Same.f k3 (y357.take ((l1.length : Int) : Int).toNat) l1).bind fun t402 => (if t402 = true then (if (l0.length : Int) < (y348.length : Int) then (if (rd y348 (l0.length : Int)) = 7 then (if (l1.length : Int) < (y357.length : Int) then (some ((rd y357 (l1.length : Int)) == 8)) else (none)) else (some false)) else (none)) else (some false))) else (none)) else (none)) else (some false)) = some r := H
                                            have A60 := Aside0.mk A600
                                            clear A600
                                            by_cases c61 : t396 = true
                                            · subst c61
                                              have H1 : (if 0 ≤ (l1.length : Int) then (if (l1.length : Int) ≤ (y357.length : Int) then ((figureheadref01_Same.f k3 (y357.take ((l1.length : Int) : Int).toNat) l1).bind fun t402 => (if t402 = true then (if (l0.length : Int) < (y348.length : Int) then (if (rd y348 (l0.length : Int)) = 7 then (if (l1.length : Int) < (y357.length : Int) then (some ((rd y357 (l1.length : Int)) == 8)) else (none)) else (some false)) else (none)) else (some false))) else (none)) else (none)) = some r := by rw [if_pos rfl] at H; exact H
                                              clear H
                                              have H := H1
                                              clear H1
                                              by_cases c62 : 0 ≤ (l1.length : Int)
                                              · rw [if_pos c62] at H
                                                have c62b0 := eq_true c62
                                                have c62b1 : decide (0 ≤ (l1.length : Int)) = true := decide_eq_true c62
                                                clear c62
                                                by_cases c63 : (l1.length : Int) ≤ (y357.length : Int)
                                                · rw [if_pos c63] at H
                                                  have c63b0 := eq_true c63
                                                  have c63b1 : decide ((l1.length : Int) ≤ (y357.length : Int)) = true := decide_eq_true c63
                                                  clear c63
                                                  obtain ⟨y397, hy397⟩ : ∃ y_ : List Int, y_ = (y357.take ((l1.length : Int) : Int).toNat) := ⟨_, rfl⟩
                                                  replace H : ((figureheadref01_Same.f k3 y397 l1).bind fun t402 => (if t402 = true then (if (l0.length : Int) < (y348.length : Int) then (if (rd y348 (l0.length : Int)) = 7 then (if (l1.length : Int) < (y357.length : Int) then (some ((rd y357 (l1.length : Int)) == 8)) else (none)) else (some false)) else (none)) else (some false))) = some r := by first | (rw [hy397]; with_reducible exact H) | (have H2_ := (Option.bind_some _ _).symm.trans H; rw [hy397]; with_reducible exact H2_) | (have H2_ := (Option.bind_some _ _).symm.trans H; with_reducible exact H2_) | with_reducible exact H | (rw [hy397]; exact H) | exact H
                                                  have Ny397 := Aside0.mk hy397
                                                  clear hy397
                                                  replace H := Option.bind_eq_some_iff.mp H
                                                  obtain ⟨t402, A640, H⟩ := H
                                                  replace H : (if t402 = true then (if (l0.length : Int) < (y348.length : Int) then (if (rd y348 (l0.length : Int)) = 7 then (if (l1.length : Int) < (y357.length : Int) then (some ((rd y357 (l1.length : Int)) == 8)) else (none)) else (some false)) else (none)) else (some false)) = some r := H
                                                  have A64 := Aside0.mk A640
                                                  clear A640
                                                  by_cases c65 : t402 = true
                                                  · subst c65
                                                    have H1 : (if (l0.length : Int) < (y348.length : Int) then (if (rd y348 (l0.length : Int)) = 7 then (if (l1.length : Int) < (y357.length : Int) then (some ((rd y357 (l1.length : Int)) == 8)) else (none)) else (some false)) else (none)) = some r := by rw [if_pos rfl] at H; exact H
                                                    clear H
                                                    have H := H1
                                                    clear H1
                                                    by_cases c66 : (l0.length : Int) < (y348.length : Int)
                                                    · rw [if_pos c66] at H
                                                      have c66b0 : decide ((l0.length : Int) < (y348.length : Int)) = true := decide_eq_true c66
                                                      have c66b1 : decide (l0.length < y348.length) = true := decide_eq_true (Int.ofNat_lt.mp c66)
                                                      clear c66
                                                      by_cases c67 : (rd y348 (l0.length : Int)) = 7
                                                      · rw [if_pos c67] at H
                                                        have c67b0 : ((rd y348 (l0.length : Int)) == 7) = true := beq_iff_eq.mpr c67
                                                        have c67b1 : ((rd y348 (l0.length : Int)) != 7) = false := bne_eq_false_iff_eq.mpr c67
                                                        clear c67
                                                        by_cases c68 : (l1.length : Int) < (y357.length : Int)
                                                        · rw [if_pos c68] at H
                                                          have c68b0 : decide ((l1.length : Int) < (y357.length : Int)) = true := decide_eq_true c68
                                                          have c68b1 : decide (l1.length < y357.length) = true := decide_eq_true (Int.ofNat_lt.mp c68)
                                                          clear c68
                                                          obtain rfl := Option.some.inj H
                                                          obtain ⟨Ao69, co69, eo69⟩ := Kd.R_slice HO_10.out
                                                          subst eo69
                                                          go_wp2_with (first | ((with_reducible refine gate_callee (f := 9) rfl ?_); refine goesL_ (some 81) rfl rfl Try.func9 (by kernel_rfl) rfl #[] rfl (by (try simp only [List.map_toArray, List.map_cons, List.map_nil]); first | done | rfl | (simp only [List.length_drop, List.length_take]; rfl)) ?_; (with_reducible refine (figureheadlaw03_answers.calls k3  true _ ?side1 A56.out).mono ?_); (case side1 => exact ⟨by first | rfl | exact HT.out⟩); rintro e w70 ⟨rfl, hb⟩; refine ⟨_, rfl, ?_⟩; have n0_ := Aside0.mk (Kd.V_below (by (with_reducible repeat (first | apply Kd.V_alloc | apply Kd.V_drewN | apply Kd.V_drew)); exact HO_0.out) hb); have n1_ := Aside0.mk (Kd.V_below (by (with_reducible repeat (first | apply Kd.V_alloc | apply Kd.V_drewN | apply Kd.V_drew)); exact HO_1.out) hb); have n2_ := Aside0.mk (Kd.R_below (by (with_reducible repeat (first | apply Kd.R_alloc | apply Kd.R_drewN | apply Kd.R_drew)); exact HO_5.out) hb); have n3_ := Aside0.mk (Kd.R_below (by (with_reducible repeat (first | apply Kd.R_alloc | apply Kd.R_drewN | apply Kd.R_drew)); exact HO_6.out) hb); have n4_ := Aside0.mk (Kd.R_below (by (with_reducible repeat (first | apply Kd.R_alloc | apply Kd.R_drewN | apply Kd.R_drew)); exact HO_10.out) hb); have n5_ := Aside0.mk (below_step (by repeat (first | (with_reducible first | exact HB.out | apply below_alloc | apply pw_below_drewN | apply below_drew1) | exact HB.out)) hb); clear HO_0; clear HO_1; clear HO_5; clear HO_6; clear HO_10; clear HB; have HO_0 := n0_; have HO_1 := n1_; have HO_5 := n2_; have HO_6 := n3_; have HO_10 := n4_; have HB := n5_; clear n0_ n1_ n2_ n3_ n4_ n5_; (try clear hb); (try clear hb2); (try clear hk); (try clear hi); have q71 : ((l0.length : Int) : Int) ≤ ((y348.length : Int) : Int) := of_decide_eq_true (by first | (with_reducible assumption) | assumption); obtain ⟨i071, hi071, _, hsz71, _⟩ := info_parts info32; have hroom71 : y348.length ≤ co30 := (Kd.R_reads' HO_5.out).2.1; have hC71 : Kd.F (Kd.int .u32) _ _ Ao30 y348.length y348 := (Kd.V_at (base := w.heap.size) (Kd.V_mono (ok' := (fun k_ => (((P0_ k_ ∨ P1_ k_) ∨ w.heap.size ≤ k_) ∧ (some k_ ≠ (.slice Ao32 y357.length co32 : Value).ownBlock ∧ some k_ ≠ (.slice Ao69 x10_3.length co69 : Value).ownBlock)))) (Kd.R_V HO_5.out) (fun k_ hk => ⟨(.inr (hk.1)), ⟨hk.2.1, hk.2.2⟩⟩))).2.2; (try clear hcut29); (try clear hcut34); have hcut71 := cut_to (P := Try.prog) 22 32 .i64 Try.underlying22 hi071 Ao30 y348.length co30 (l0.length : Int) (of_decide_eq_true (by first | (with_reducible assumption) | assumption)) q71 hroom71; have hr71 := Kd.F_take (m := ((l0.length : Int) : Int).toNat) hC71 (by omega); have hy71 : y391.length = ((l0.length : Int) : Int).toNat := (by rw [Ny391.out, List.length_take]; omega); rw [← Ny391.out] at hr71; rw [← hy71] at hcut71; have HO395 := Aside0.mk (show Kd.V (Kd.int .u32) 32 _ w.heap.size _ (.slice Ao30 y391.length co30) y391 from Kd.V_mk (by omega) hr71); have HC395 := Aside0.mk (show y391.length ≤ co30 from by omega); clear hr71 hC71 hroom71 hi071 hsz71; have KY71 := Aside0.mk hy71; clear hy71; replace q71 := eq_true q71) | ((with_reducible refine gate_dst (N := 88) rfl ?_); (try (refine gate_guard (by rfl) ?_; dsimp only)); (refine gate_guard (by rfl) ?_; dsimp only); (with_reducible refine gate_callee (f := 13) rfl ?_); refine goesL_ (some 88) rfl rfl Try.func13 (by kernel_rfl) rfl #[.slice Ao30 y391.length co30, .slice A0 l0.length c0] rfl (by (try simp only [List.map_toArray, List.map_cons, List.map_nil]); first | done | rfl | (simp only [List.length_drop, List.length_take]; rfl)) ?_; (with_reducible refine (figureheadref01_Same.calls k3 _ _ y391 _ _ l0 true _ ?side1 ?side2 ?side3 ?side4 A60.out).mono ?_); (case side1 => repeat (first | exact (Kd.V_reads' HO395.out).2.2 | (with_reducible refine Kd.C_alloc ?_ _) | (with_reducible refine Kd.C_drewN ?_ _) | (with_reducible refine Kd.C_drew ?_))); (case side2 => exact (Kd.V_reads' HO395.out).2.1); (case side3 => repeat (first | exact (Kd.V_reads' HO_0.out).2.2 | (with_reducible refine Kd.C_alloc ?_ _) | (with_reducible refine Kd.C_drewN ?_ _) | (with_reducible refine Kd.C_drew ?_))); (case side4 => exact (Kd.V_reads' HO_0.out).2.1); rintro e w' ⟨rfl, ⟨nd, rfl⟩⟩; refine ⟨_, rfl, ?_⟩; have q72 : ((l1.length : Int) : Int) ≤ ((y357.length : Int) : Int) := of_decide_eq_true (by first | (with_reducible assumption) | assumption); obtain ⟨i072, hi072, _, hsz72, _⟩ := info_parts info32; have hroom72 : y357.length ≤ co32 := (Kd.R_reads' HO_6.out).2.1; have hC72 : Kd.F (Kd.int .u32) _ _ Ao32 y357.length y357 := (Kd.V_at (base := w.heap.size) (Kd.V_mono (ok' := (fun k_ => (((P0_ k_ ∨ P1_ k_) ∨ w.heap.size ≤ k_) ∧ (some k_ ≠ (.slice Ao30 y348.length co30 : Value).ownBlock ∧ some k_ ≠ (.slice Ao69 x10_3.length co69 : Value).ownBlock)))) (Kd.R_V HO_6.out) (fun k_ hk => ⟨(.inr (hk.1)), ⟨hk.2.1, hk.2.2⟩⟩))).2.2; (try clear hcut31); have hcut72 := cut_to (P := Try.prog) 22 32 .i64 Try.underlying22 hi072 Ao32 y357.length co32 (l1.length : Int) (of_decide_eq_true (by first | (with_reducible assumption) | assumption)) q72 hroom72; have hr72 := Kd.F_take (m := ((l1.length : Int) : Int).toNat) hC72 (by omega); have hy72 : y397.length = ((l1.length : Int) : Int).toNat := (by rw [Ny397.out, List.length_take]; omega); rw [← Ny397.out] at hr72; rw [← hy72] at hcut72; have HO401 := Aside0.mk (show Kd.V (Kd.int .u32) 32 _ w.heap.size _ (.slice Ao32 y397.length co32) y397 from Kd.V_mk (by omega) hr72); have HC401 := Aside0.mk (show y397.length ≤ co32 from by omega); clear hr72 hC72 hroom72 hi072 hsz72; have KY72 := Aside0.mk hy72; clear hy72; replace q72 := eq_true q72) | ((with_reducible refine gate_dst (N := 96) rfl ?_); (try (refine gate_guard (by rfl) ?_; dsimp only)); (refine gate_guard (by rfl) ?_; dsimp only); (with_reducible refine gate_callee (f := 13) rfl ?_); refine goesL_ (some 96) rfl rfl Try.func13 (by kernel_rfl) rfl #[.slice Ao32 y397.length co32, .slice A1 l1.length c1] rfl (by (try simp only [List.map_toArray, List.map_cons, List.map_nil]); first | done | rfl | (simp only [List.length_drop, List.length_take]; rfl)) ?_; (with_reducible refine (figureheadref01_Same.calls k3 _ _ y397 _ _ l1 true _ ?side1 ?side2 ?side3 ?side4 A64.out).mono ?_); (case side1 => repeat (first | exact (Kd.V_reads' HO401.out).2.2 | (with_reducible refine Kd.C_alloc ?_ _) | (with_reducible refine Kd.C_drewN ?_ _) | (with_reducible refine Kd.C_drew ?_))); (case side2 => exact (Kd.V_reads' HO401.out).2.1); (case side3 => repeat (first | exact (Kd.V_reads' HO_1.out).2.2 | (with_reducible refine Kd.C_alloc ?_ _) | (with_reducible refine Kd.C_drewN ?_ _) | (with_reducible refine Kd.C_drew ?_))); (case side4 => exact (Kd.V_reads' HO_1.out).2.1); rintro e w' ⟨rfl, ⟨nd, rfl⟩⟩; refine ⟨_, rfl, ?_⟩; have p403 : 0 ≤ ((l0.length : Int) : Int) := of_decide_eq_true (by first | (with_reducible assumption) | assumption); have q403 : (l0.length : Int) < (y348.length : Int) := of_decide_eq_true (by first | (with_reducible assumption) | assumption); obtain ⟨ad403, e403, hx403_0⟩ := Kd.at_int (Kd.R_reads' HO_5.out).2.2 (l0.length : Int) p403 q403; cases e403; (try simp only [Go.IntWalk.toNatUp] at hx403_0); replace p403 := eq_true p403; replace q403 := eq_true q403; have p404 : 0 ≤ ((l1.length : Int) : Int) := of_decide_eq_true (by first | (with_reducible assumption) | assumption); have q404 : (l1.length : Int) < (y357.length : Int) := of_decide_eq_true (by first | (with_reducible assumption) | assumption); obtain ⟨ad404, e404, hx404_0⟩ := Kd.at_int (Kd.R_reads' HO_6.out).2.2 (l1.length : Int) p404 q404; cases e404; (try simp only [Go.IntWalk.toNatUp] at hx404_0); replace p404 := eq_true p404; replace q404 := eq_true q404))
                                                          go_ret
                                                          exact ⟨by first | rfl | (simp [errW_none, errW_some] <;> rfl) | (simp [*, errW_none, errW_some] <;> rfl), by repeat (first | (with_reducible first | exact HB.out | apply below_alloc | apply pw_below_drewN | apply below_drew1) | exact HB.out)⟩
                                                        · rw [if_neg c68] at H
                                                          exact absurd H (by simp)
                                                      · rw [if_neg c67] at H
                                                        have c67b0 : ((rd y348 (l0.length : Int)) == 7) = false := beq_eq_false_iff_ne.mpr c67
                                                        have c67b1 : ((rd y348 (l0.length : Int)) != 7) = true := bne_iff_ne.mpr c67
                                                        exact absurd ((Option.some.inj H).trans HT.out) (by decide)
                                                    · rw [if_neg c66] at H
                                                      exact absurd H (by simp)
                                                  · replace c65 := Bool.eq_false_iff.mpr c65
                                                    subst c65
                                                    have H1 : (some false) = some r := by rw [if_neg (show ¬ (false = true) by decide)] at H; exact H
                                                    clear H
                                                    have H := H1
                                                    clear H1
                                                    exact absurd ((Option.some.inj H).trans HT.out) (by decide)
                                                · rw [if_neg c63] at H
                                                  exact absurd H (by simp)
                                              · rw [if_neg c62] at H
                                                exact absurd H (by simp)
                                            · replace c61 := Bool.eq_false_iff.mpr c61
                                              subst c61
                                              have H1 : (some false) = some r := by rw [if_neg (show ¬ (false = true) by decide)] at H; exact H
                                              clear H
                                              have H := H1
                                              clear H1
                                              exact absurd ((Option.some.inj H).trans HT.out) (by decide)
                                          · rw [if_neg c59] at H
                                            exact absurd H (by simp)
                                        · rw [if_neg c58] at H
                                          exact absurd H (by simp)
                                      · replace c57 := Bool.eq_false_iff.mpr c57
                                        subst c57
                                        have H1 : (some false) = some r := by rw [if_neg (show ¬ (false = true) by decide)] at H; exact H
                                        clear H
                                        have H := H1
                                        clear H1
                                        exact absurd ((Option.some.inj H).trans HT.out) (by decide)
                  · rw [if_neg c12] at H
                    exact absurd H (by simp)
                · rw [if_neg c11] at H
                  exact absurd H (by simp)
              · rw [if_neg c10] at H
                exact absurd H (by simp)
            · rw [if_neg c9] at H
              exact absurd H (by simp)
          · rw [if_neg c8] at H
            exact absurd H (by simp)
        · rw [if_neg c7] at H
          exact absurd H (by simp)
      · rw [if_neg c6] at H
        exact absurd H (by simp)
    · rw [if_neg c5] at H
      exact absurd H (by simp)
  · replace c4 := Bool.eq_false_iff.mpr c4
    subst c4
    have H1 : ((figureheadlaw03_answers.f k).bind fun t341 => (some t341)) = some r := by rw [if_neg (show ¬ (false = true) by decide)] at H; exact H
    clear H
    have H := H1
    clear H1
    replace H := Option.bind_eq_some_iff.mp H
    obtain ⟨t341, A730, H⟩ := H
    replace H : (some t341) = some r := H
    have A73 := Aside0.mk A730
    clear A730
    obtain rfl := Option.some.inj H
    go_enter Try.func6, Try.ntmps6
    go_wp2_with (first | ((with_reducible refine gate_dst (N := 18) rfl ?_); (try (refine gate_guard (by rfl) ?_; dsimp only)); refine Kd.N_lit (Kd.slice 32 (Kd.int .u32)) _ 22 ?hg (N' := 18) ?hd (xs := ([l0, l1] : List (List Int))) (inner := [.slice A0 l0.length c0, .slice A1 l1.length c1]) (ok := (fun k_ => ((P0_ k_ ∨ P1_ k_) ∨ w.heap.size ≤ k_))) (okp := (fun k_ => ((P0_ k_ ∨ P1_ k_) ∨ w.heap.size ≤ k_))) ?hr ?hp (fun _ hk => hk) ((show ∀ k_, w.heap.size ≤ k_ → (fun k_ => ((P0_ k_ ∨ P1_ k_) ∨ w.heap.size ≤ k_)) k_ from fun k_ hk => (.inr (Nat.le_trans (below_size (by repeat (first | (with_reducible first | exact HB.out | apply below_alloc | apply pw_below_drewN | apply below_drew1) | exact HB.out))) hk))) _ (Nat.le_refl _)) (Below.refl _ _) (Nat.le_refl _) (by simp) ?_; (case hd => rfl); (case hg => rfl); (case hr => first | (go_simp; done) | (go_simp; rfl)); (case hp => exact (Reps.one (show Kd.FK (Kd.slice 32 (Kd.int .u32)) _ _ l0 [.slice A0 l0.length c0] from (Kd.FK_slice_mk (Kd.V_reads' (Kd.V_mono (ok' := (fun k_ => ((P0_ k_ ∨ P1_ k_) ∨ w.heap.size ≤ k_))) (HO0.out) (fun k_ hk => hk))).2.1 (Kd.V_F (Kd.V_mono (ok' := (fun k_ => ((P0_ k_ ∨ P1_ k_) ∨ w.heap.size ≤ k_))) (HO0.out) (fun k_ hk => hk))))) (Reps.one (show Kd.FK (Kd.slice 32 (Kd.int .u32)) _ _ l1 [.slice A1 l1.length c1] from (Kd.FK_slice_mk (Kd.V_reads' (Kd.V_mono (ok' := (fun k_ => ((P0_ k_ ∨ P1_ k_) ∨ w.heap.size ≤ k_))) (HO1.out) (fun k_ hk => hk))).2.1 (Kd.V_F (Kd.V_mono (ok' := (fun k_ => ((P0_ k_ ∨ P1_ k_) ∨ w.heap.size ≤ k_))) (HO1.out) (fun k_ hk => hk))))) (Reps.none _ _)))); intro v338 w74 ho75 hb hg_ hnew_; clear hg_ hnew_; (first | rw [← Ny337.out] at ho75 | (simp only [Int.reduceToNat] at ho75; rw [← Ny337.out] at ho75)); have n0_ := Aside0.mk (Kd.V_elder' (by (with_reducible repeat (first | apply Kd.V_alloc | apply Kd.V_drewN | apply Kd.V_drew)); exact HO0.out) (Kd.N_base ho75) hb); have n1_ := Aside0.mk (Kd.V_elder' (by (with_reducible repeat (first | apply Kd.V_alloc | apply Kd.V_drewN | apply Kd.V_drew)); exact HO1.out) (Kd.N_base ho75) hb); have n2_ := Aside0.mk (Kd.N_lower ho75 (below_size (by repeat (first | (with_reducible first | exact HB.out | apply below_alloc | apply pw_below_drewN | apply below_drew1) | exact HB.out)))); have n3_ := Aside0.mk (below_step (by repeat (first | (with_reducible first | exact HB.out | apply below_alloc | apply pw_below_drewN | apply below_drew1) | exact HB.out)) hb); clear HO0; clear HO1; clear HB; have HO0 := n0_; have HO1 := n1_; have HO339 := n2_; have HB := n3_; clear n0_ n1_ n2_ n3_; clear hb ho75; obtain ⟨Ao76, co76, eo76⟩ := Kd.N_slice HO339.out; subst eo76) | ((with_reducible refine gate_callee (f := 8) rfl ?_); refine goesL_ (some 19) rfl rfl Try.func8 (by kernel_rfl) rfl #[.slice Ao76 y337.length co76] rfl (by (try simp only [List.map_toArray, List.map_cons, List.map_nil]); first | done | rfl | (simp only [List.length_drop, List.length_take]; rfl)) ?_; (with_reducible refine (figureheadlaw03_good.calls k _ _ y337 false _ ?side1 ?side2 A3.out).mono ?_); (case side1 => repeat (first | exact (Kd.N_reads' HO339.out).2.2 | (with_reducible refine Kd.C_alloc ?_ _) | (with_reducible refine Kd.C_drewN ?_ _) | (with_reducible refine Kd.C_drew ?_))); (case side2 => exact (Kd.N_reads' HO339.out).2.1); rintro e w' ⟨rfl, ⟨nd, rfl⟩⟩; refine ⟨_, rfl, ?_⟩) | ((with_reducible refine gate_callee (f := 9) rfl ?_); refine goesL_ (some 21) rfl rfl Try.func9 (by kernel_rfl) rfl #[] rfl (by (try simp only [List.map_toArray, List.map_cons, List.map_nil]); first | done | rfl | (simp only [List.length_drop, List.length_take]; rfl)) ?_; (with_reducible refine (figureheadlaw03_answers.calls k  t341 _ ?side1 A73.out).mono ?_); (case side1 => exact ⟨by first | rfl | exact HT.out⟩); rintro e w77 ⟨rfl, hb⟩; refine ⟨_, rfl, ?_⟩; have n0_ := Aside0.mk (Kd.V_below (by (with_reducible repeat (first | apply Kd.V_alloc | apply Kd.V_drewN | apply Kd.V_drew)); exact HO0.out) hb); have n1_ := Aside0.mk (Kd.V_below (by (with_reducible repeat (first | apply Kd.V_alloc | apply Kd.V_drewN | apply Kd.V_drew)); exact HO1.out) hb); have n2_ := Aside0.mk (Kd.N_below (by (with_reducible repeat (first | apply Kd.N_alloc | apply Kd.N_drewN | apply Kd.N_drew)); exact HO339.out) hb); have n3_ := Aside0.mk (below_step (by repeat (first | (with_reducible first | exact HB.out | apply below_alloc | apply pw_below_drewN | apply below_drew1) | exact HB.out)) hb); clear HO0; clear HO1; clear HO339; clear HB; have HO0 := n0_; have HO1 := n1_; have HO339 := n2_; have HB := n3_; clear n0_ n1_ n2_ n3_; (try clear hb); (try clear hb2); (try clear hk); (try clear hi)))
    go_ret
    exact ⟨by first | rfl | (simp [errW_none, errW_some] <;> rfl) | (simp [*, errW_none, errW_some] <;> rfl), by repeat (first | (with_reducible first | exact HB.out | apply below_alloc | apply pw_below_drewN | apply below_drew1) | exact HB.out)⟩

end Go.Proofs.Ytnpibnjncjieaaa.Px

namespace Go.Proofs.Ytnpibnjncjieaaa.Px
open Fig Go.RowKit Go.Proofs.YtnpibnjncjieaaaW.PrintWords Go.Proofs.YtnpibnjncjieaaaW.PrintLast Go.Proofs.YtnpibnjncjieaaaW.PrintMore
attribute [local go_sem] max2_int min2_int max_two min_two max_three min_three max_four min_four   -- for this text's walks alone

/-! plain facts: figureheadref01_Good -/
theorem Good_loop (l : List Int) (hl : l.length ≤ 4611686018427387904) (h0 : ∀ x ∈ l, 0 ≤ x) : ∀ (d n : Nat), l.length - n = d → n ≤ l.length → Ev (fun k => figureheadref01_Good.l0 k l (n : Int)) (goodL (l.drop n))
  | 0, n, hd, hn => by
    refine evDone (r' := true) (fun k => ?_) ?_
    · simp only [figureheadref01_Good.l0]; rw [if_neg (by omega)]
    · rw [List.drop_of_length_le (by omega)]; rfl
  | d + 1, n, hd, hn => by
    have hlt : n < l.length := by omega
    have hb := rd_get hlt
    have hc := List.drop_eq_getElem_cons hlt
    have hp := h0 _ (List.getElem_mem hlt)
    by_cases h9 : rd l (n : Int) > 999999999
    · refine evDone (r' := false) (fun k => ?_) ?_
      · simp only [figureheadref01_Good.l0]; rw [if_pos (by omega), if_pos (by omega), if_pos h9]
      · rw [hc]; symm; rw [Bool.eq_false_iff]; intro e; have := (goodL_cons.1 e).1; omega
    · refine Ev.step (f := fun k => figureheadref01_Good.l0 k l ((n + 1 : Nat) : Int)) (fun k => ?_) ?_
      · simp only [figureheadref01_Good.l0]; rw [if_pos (by omega), if_pos (by omega), if_neg h9, w64 (by omega) (by omega)]; rfl
      · have := Good_loop l hl h0 d (n + 1) (by omega) (by omega)
        rw [hc]
        have e : goodL (l[n] :: l.drop (n + 1)) = goodL (l.drop (n + 1)) := by
          rw [Bool.eq_iff_iff, goodL_cons]
          exact ⟨fun h => h.2, fun h => ⟨⟨hp, by omega⟩, h⟩⟩
        rw [e]; exact this
theorem Good_ev {l : List Int} (hl : l.length ≤ 4611686018427387904) (h0 : ∀ x ∈ l, 0 ≤ x) : Ev (fun k => figureheadref01_Good.f k l) (goodL l) := by
  have := Good_loop l hl h0 l.length 0 (by omega) (by omega)
  simpa [figureheadref01_Good.f] using this

end Go.Proofs.Ytnpibnjncjieaaa.Px

namespace Go.Proofs.Ytnpibnjncjieaaa.Px
open Fig Go.RowKit Go.Proofs.YtnpibnjncjieaaaW.PrintWords Go.Proofs.YtnpibnjncjieaaaW.PrintLast Go.Proofs.YtnpibnjncjieaaaW.PrintMore
attribute [local go_sem] max2_int min2_int max_two min_two max_three min_three max_four min_four   -- for this text's walks alone

/-! plain facts: figureheadlaw03_good -/
theorem good03_loop (ls : List (List Int)) (hl : ls.length ≤ 1000) (hb : ∀ l ∈ ls, l.length ≤ 4611686018427387904) (h0 : ∀ l ∈ ls, ∀ x ∈ l, 0 ≤ x) : ∀ (d n : Nat), ls.length - n = d → n ≤ ls.length → Ev (fun k => figureheadlaw03_good.l0 k ls (n : Int)) ((ls.drop n).all fun l => decide (l.length ≤ 20) && goodL l)
  | 0, n, hd, hn => by
    refine evDone (r' := true) (fun k => ?_) (by rw [List.drop_of_length_le (by omega)]; rfl)
    simp only [figureheadlaw03_good.l0]; rw [if_neg (by omega)]
  | d + 1, n, hd, hn => by
    have hlt : n < ls.length := by omega
    have hm := List.getElem_mem hlt
    have hrd : rd_L1 ls (n : Int) = ls[n] := by
      unfold rd_L1; rw [Int.toNat_natCast, List.getD_eq_getElem?_getD, List.getElem?_eq_getElem hlt]; rfl
    rw [List.drop_eq_getElem_cons hlt, List.all_cons]
    have hbm := hb _ hm
    by_cases h20 : ls[n].length ≤ 20
    · refine evIs (Ev.step (f := fun k => (figureheadref01_Good.f k ls[n]).bind fun t => if t = true then figureheadlaw03_good.l0 k ls ((n + 1 : Nat) : Int) else some false) (fun k => ?_) (Ev.bind (a := goodL ls[n]) (r := goodL ls[n] && ((ls.drop (n + 1)).all fun l => decide (l.length ≤ 20) && goodL l)) (Good_ev hbm (h0 _ hm)) ?_)) ?_
      · simp only [figureheadlaw03_good.l0]; rw [if_pos (by omega), if_pos (by omega), hrd, if_neg (by omega), succ64 _ (by omega)]
      · cases hg : goodL ls[n]
        · simpa using Ev.now false
        · simpa using good03_loop ls hl hb h0 d (n + 1) (by omega) (by omega)
      · simp [h20]
    · refine evDone (r' := false) (fun k => ?_) (by simp [h20])
      simp only [figureheadlaw03_good.l0]; rw [if_pos (by omega), if_pos (by omega), hrd, if_pos (by omega)]
theorem good03_ev {ls : List (List Int)} (hl : ls.length ≤ 1000) (hb : ∀ l ∈ ls, l.length ≤ 4611686018427387904) (h0 : ∀ l ∈ ls, ∀ x ∈ l, 0 ≤ x) : Ev (fun k => figureheadlaw03_good.f k ls) (ls.all fun l => decide (l.length ≤ 20) && goodL l) := by
  have := good03_loop ls hl hb h0 ls.length 0 (by omega) (by omega)
  simpa [figureheadlaw03_good.f] using this

end Go.Proofs.Ytnpibnjncjieaaa.Px

namespace Go.Proofs.Ytnpibnjncjieaaa.Px
open Fig Go.RowKit Go.Proofs.YtnpibnjncjieaaaW.PrintWords Go.Proofs.YtnpibnjncjieaaaW.PrintLast Go.Proofs.YtnpibnjncjieaaaW.PrintMore
attribute [local go_sem] max2_int min2_int max_two min_two max_three min_three max_four min_four   -- for this text's walks alone

/-! plain facts: mul_row -/
theorem row_step (s v y c : Nat) (hs : s < 1000000000) (hv : v < 1000000000) (hy : y < 1000000000) (hc : c < 1000000000) :
    IntKind.u64.wrap ((IntKind.u64.wrap ((IntKind.u64.wrap (s : Int)) + (IntKind.u64.wrap ((IntKind.u64.wrap (v : Int)) * (IntKind.u64.wrap (y : Int)))))) + (c : Int)) = ((s + v * y + c : Nat) : Int) := by
  have h1 : v * y ≤ 999999999 * 999999999 := Nat.mul_le_mul (by omega) (by omega)
  rw [u64w (x := (s : Int)) (by omega) (by omega), u64w (x := (v : Int)) (by omega) (by omega), u64w (x := (y : Int)) (by omega) (by omega)]
  have e2 : (v : Int) * (y : Int) = ((v * y : Nat) : Int) := by simp
  rw [e2]
  generalize v * y = t at *
  rw [u64w (x := (t : Int)) (by omega) (by omega), u64w (x := (s : Int) + (t : Int)) (by omega) (by omega), u64w (by omega) (by omega)]; omega
theorem row_low (n : Nat) (h : n ≤ 18446744073709551615) : Int.tmod (n : Int) 1000000000 % 4294967296 = ((n % 1000000000 : Nat) : Int) := by
  rw [Int.tmod_eq_emod_of_nonneg (by omega)]; omega
theorem row_high (n : Nat) (h : n ≤ 18446744073709551615) : IntKind.u64.wrap (Int.tdiv (n : Int) 1000000000) = ((n / 1000000000 : Nat) : Int) := by
  rw [Int.tdiv_eq_ediv_of_nonneg (by omega), u64w (by omega) (by omega)]; omega
theorem row_step1 (s c : Nat) (hs : s < 1000000000) (hc : c < 1000000000) : IntKind.u64.wrap ((IntKind.u64.wrap (s : Int)) + (c : Int)) = ((s + c : Nat) : Int) := by
  rw [u64w (x := (s : Int)) (by omega) (by omega), u64w (by omega) (by omega)]; omega
theorem valL_set : ∀ (l : List Int) (m : Nat) (h : m < l.length) (v s : Nat), l[m] = (s : Int) → valL (l.set m (v : Int)) + 1000000000 ^ m * s = valL l + 1000000000 ^ m * v
  | x :: l, 0, h, v, s, h0 => by
    simp only [List.set_cons_zero, valL, List.getElem_cons_zero] at h0 ⊢
    rw [Nat.pow_zero]; omega
  | x :: l, m + 1, h, v, s, h0 => by
    simp only [List.set_cons_succ, valL, List.getElem_cons_succ] at h0 ⊢
    have := valL_set l m (by simpa using h) v s h0
    rw [Nat.pow_succ, Nat.mul_comm (1000000000 ^ m) 1000000000, Nat.mul_assoc, Nat.mul_assoc]; omega
theorem goodL_set {l : List Int} (h : goodL l = true) (m : Nat) {v : Int} (hv : 0 ≤ v ∧ v < 1000000000) : goodL (l.set m v) = true := by
  rw [goodL_iff]; intro e he
  rcases List.mem_or_eq_of_mem_set he with h1 | h1
  · exact goodL_iff.1 h e h1
  · subst h1; exact hv
/-- what row leaves -/
def RowPost (x : List Int) (V : Nat) (r : List Int) : Prop := goodL r = true ∧ r.length = x.length ∧ valL r = V
theorem row_end (V : Nat) : ∀ (d n : Nat) (x : List Int) (c : Nat), x.length - n = d → goodL x = true → x.length ≤ 1000000000000 → n ≤ x.length → c < 1000000000 → valL x + 1000000000 ^ n * c = V → V < 1000000000 ^ x.length →
    ∃ r, Ev (fun k => mul_row.l1 k x (c : Int) (n : Int)) r ∧ RowPost x V r
  | d, n, x, c, h1, hg, hl, hn, hc, hV, hlt => by
    by_cases h0 : c = 0
    · subst h0
      refine ⟨x, evDone (r' := x) (fun k => ?_) rfl, hg, rfl, by omega⟩
      simp only [mul_row.l1]; rw [if_neg (by omega)]
    · have hnx : n < x.length := by
        rcases Nat.lt_or_ge n x.length with h | h
        · exact h
        · obtain rfl : n = x.length := by omega
          have := Nat.mul_le_mul_left (1000000000 ^ x.length) (show 1 ≤ c by omega)
          omega
      obtain ⟨d, rfl⟩ : ∃ e, d = e + 1 := ⟨d - 1, by omega⟩
      have hp := goodL_iff.1 hg _ (List.getElem_mem hnx)
      obtain ⟨s, hs⟩ : ∃ s : Nat, x[n] = (s : Int) := ⟨x[n].toNat, by omega⟩
      have hset := valL_set x n hnx ((s + c) % 1000000000) s hs
      have hdm := Nat.div_add_mod (s + c) 1000000000
      have key : valL (x.set n (((s + c) % 1000000000 : Nat) : Int)) + 1000000000 ^ (n + 1) * ((s + c) / 1000000000) = V := by
        have e := congrArg (fun z => 1000000000 ^ n * z) hdm
        simp only [Nat.mul_add] at e
        rw [Nat.pow_succ, Nat.mul_assoc]
        omega
      have hc' : (s + c) / 1000000000 < 1000000000 := by omega
      obtain ⟨r, hr, p1, p2, p3⟩ := row_end V d (n + 1) (x.set n (((s + c) % 1000000000 : Nat) : Int)) ((s + c) / 1000000000) (by simp; omega) (goodL_set hg n (by omega)) (by simpa using hl) (by simp; omega) hc' key (by simpa using hlt)
      refine ⟨r, Ev.step (fun k => ?_) hr, p1, by simpa using p2, p3⟩
      simp only [mul_row.l1]; rw [if_pos (by omega), if_pos (by omega), if_pos (by omega), rd_get hnx, hs, row_step1 _ _ (by omega) hc, row_low _ (by omega), row_high _ (by omega), w64 (by omega) (by omega), Int.toNat_natCast]; rfl
theorem row_idx (p q : Nat) (hp : p ≤ 1000000000000) (hq : q ≤ 1000000000000) : wrap64 ((p : Int) + (q : Int)) = ((p + q : Nat) : Int) := by rw [w64 (by omega) (by omega)]; omega
theorem row_loop (a : List Int) (ga : goodL a = true) (y p V : Nat) (hy : y < 1000000000) : ∀ (d n : Nat) (x : List Int) (c : Nat), a.length - n = d → goodL x = true → x.length ≤ 1000000000000 → n ≤ a.length → p + a.length ≤ x.length → c < 1000000000 → valL x + 1000000000 ^ (p + n) * (c + valL (a.drop n) * y) = V → V < 1000000000 ^ x.length →
    ∃ r, Ev (fun k => mul_row.l0 k x a (y : Int) (p : Int) (c : Int) a (a.length : Int) (n : Int)) r ∧ RowPost x V r
  | 0, n, x, c, h1, hg, hl, hn, hpa, hc, hV, hlt => by
    have e : a.drop n = [] := List.drop_of_length_le (by omega)
    rw [e] at hV
    obtain ⟨r, hr, p1⟩ := row_end V _ (p + n) x c rfl hg hl (by omega) hc (by simpa [valL] using hV) hlt
    refine ⟨r, Ev.step (fun k => ?_) hr, p1⟩
    simp only [mul_row.l0]; rw [if_neg (by omega), row_idx p a.length (by omega) (by omega), show a.length = n by omega]
  | d + 1, n, x, c, h1, hg, hl, hn, hpa, hc, hV, hlt => by
    have hna : n < a.length := by omega
    have hnx : p + n < x.length := by omega
    have pa := goodL_iff.1 ga _ (List.getElem_mem hna)
    have px := goodL_iff.1 hg _ (List.getElem_mem hnx)
    obtain ⟨v, hv⟩ : ∃ v : Nat, a[n] = (v : Int) := ⟨a[n].toNat, by omega⟩
    obtain ⟨s, hs⟩ : ∃ s : Nat, x[p + n] = (s : Int) := ⟨x[p + n].toNat, by omega⟩
    have hvy : v * y ≤ 999999999 * 999999999 := Nat.mul_le_mul (by omega) (by omega)
    have e : valL (a.drop n) = v + 1000000000 * valL (a.drop (n + 1)) := by rw [List.drop_eq_getElem_cons hna, hv]; rfl
    have hset := valL_set x (p + n) hnx ((s + v * y + c) % 1000000000) s hs
    have hdm := Nat.div_add_mod (s + v * y + c) 1000000000
    have key : valL (x.set (p + n) (((s + v * y + c) % 1000000000 : Nat) : Int)) + 1000000000 ^ (p + (n + 1)) * ((s + v * y + c) / 1000000000 + valL (a.drop (n + 1)) * y) = V := by
      have e1 := congrArg (fun z => 1000000000 ^ (p + n) * z) hdm
      simp only [Nat.mul_add] at e1
      rw [e, Nat.add_mul, Nat.mul_add, Nat.mul_add, Nat.mul_assoc 1000000000, ← Nat.mul_assoc _ 1000000000] at hV
      rw [← Nat.add_assoc, Nat.pow_succ, Nat.mul_add, Nat.mul_assoc _ 1000000000 (_ / _)]
      omega
    have hc' : (s + v * y + c) / 1000000000 < 1000000000 := by omega
    obtain ⟨r, hr, p1, p2, p3⟩ := row_loop a ga y p V hy d (n + 1) (x.set (p + n) (((s + v * y + c) % 1000000000 : Nat) : Int)) ((s + v * y + c) / 1000000000) (by omega) (goodL_set hg _ (by omega)) (by simpa using hl) (by omega) (by simpa using hpa) hc' key (by simpa using hlt)
    refine ⟨r, Ev.step (fun k => ?_) hr, p1, by simpa using p2, p3⟩
    simp only [mul_row.l0]
    rw [if_pos (by omega), if_pos (by omega), if_pos (by omega), row_idx p n (by omega) (by omega), if_pos (by omega), if_pos (by omega), rd_get hnx, rd_get hna, hs, hv, row_step _ _ _ _ (by omega) (by omega) hy hc, row_low _ (by omega), row_high _ (by omega), succ64 _ (by omega), Int.toNat_natCast]
theorem row_ev {x a : List Int} {y p : Nat} (gx : goodL x = true) (ga : goodL a = true) (hy : y < 1000000000) (hl : x.length ≤ 1000000000000) (hpa : p + a.length ≤ x.length) (hlt : valL x + 1000000000 ^ p * (valL a * y) < 1000000000 ^ x.length) :
    ∃ r, Ev (fun k => mul_row.f k x a (y : Int) (p : Int)) r ∧ goodL r = true ∧ r.length = x.length ∧ valL r = valL x + 1000000000 ^ p * (valL a * y) := by
  obtain ⟨r, hr, h⟩ := row_loop a ga y p _ hy a.length 0 x 0 rfl gx hl (by omega) hpa (by omega) rfl (by simpa using hlt)
  exact ⟨r, hr, h.1, h.2.1, by rw [h.2.2]; simp⟩

end Go.Proofs.Ytnpibnjncjieaaa.Px

namespace Go.Proofs.Ytnpibnjncjieaaa.Px
open Fig Go.RowKit Go.Proofs.YtnpibnjncjieaaaW.PrintWords Go.Proofs.YtnpibnjncjieaaaW.PrintLast Go.Proofs.YtnpibnjncjieaaaW.PrintMore
attribute [local go_sem] max2_int min2_int max_two min_two max_three min_three max_four min_four   -- for this text's walks alone

/-! ### figureheadref01_digit: function 24 -/
def figureheadref01_digit.f (a0 : ByteArray) (a1 : Int) : Option (Int) := if a1 ≥ (a0.size : Int) then (some 0) else (if 0 ≤ (wrap64 ((wrap64 ((a0.size : Int) - 1)) - a1)) then (if (wrap64 ((wrap64 ((a0.size : Int) - 1)) - a1)) < (a0.size : Int) then (some (((bt a0 (wrap64 ((wrap64 ((a0.size : Int) - 1)) - a1))) - 48) % 256)) else (none)) else (none))
set_option maxHeartbeats 8000000 in
set_option maxRecDepth 100000 in
theorem figureheadref01_digit.calls (a0 : ByteArray) (a1 : Int) (r : Int) (w : World) (h : figureheadref01_digit.f a0 a1 = some r) :
    Calls Try.prog 24 #[.string a0, .int .i64 a1] w fun e w' => e = .returned (.int .i64 r) ∧ Drawn0 w w' := by
  have H : (if a1 ≥ (a0.size : Int) then (some 0) else (if 0 ≤ (wrap64 ((wrap64 ((a0.size : Int) - 1)) - a1)) then (if (wrap64 ((wrap64 ((a0.size : Int) - 1)) - a1)) < (a0.size : Int) then (some (((bt a0 (wrap64 ((wrap64 ((a0.size : Int) - 1)) - a1))) - 48) % 256)) else (none)) else (none))) = some r := h
  clear h
  by_cases c3 : a1 ≥ (a0.size : Int)
  · rw [if_pos c3] at H
    have c3b0 : decide ((a0.size : Int) ≤ a1) = true := decide_eq_true c3
    clear c3
    obtain rfl := Option.some.inj H
    go_enter Try.func24, Try.ntmps24
    go_wp2
    go_ret
    exact ⟨by first | rfl | (simp; done) | (simp [*]; done) | (simp [*, Fig.bne_nil]; done), by repeat (first | exact Drawn0.refl _ | apply Drawn0.step)⟩
  · rw [if_neg c3] at H
    have c3b0 : decide ((a0.size : Int) ≤ a1) = false := decide_eq_false c3
    clear c3
    obtain ⟨ji4, hji4⟩ : ∃ j_ : Int, (wrap64 ((wrap64 ((a0.size : Int) - 1)) - a1)) = j_ := ⟨_, rfl⟩
    replace H : (if 0 ≤ (ji4) then (if (ji4) < (a0.size : Int) then (some (((bt a0 (ji4)) - 48) % 256)) else (none)) else (none)) = some r := by first | (rw [hji4] at H; exact H) | (simp only [hji4] at H ⊢; exact H)
    have hji4w : (IntKind.i64.wrap ((wrap64 ((a0.size : Int) - 1)) - a1)) = ji4 := (i64_w _).trans hji4
    by_cases c5 : 0 ≤ (ji4)
    · rw [if_pos c5] at H
      have c5b0 : decide (0 ≤ (ji4)) = true := decide_eq_true c5
      clear c5
      by_cases c6 : (ji4) < (a0.size : Int)
      · rw [if_pos c6] at H
        have c6b0 : decide ((ji4) < (a0.size : Int)) = true := decide_eq_true c6
        clear c6
        obtain rfl := Option.some.inj H
        have p7 : 0 ≤ ((ji4) : Int) := of_decide_eq_true (by first | (with_reducible assumption) | assumption)
        have q7 : (ji4) < (a0.size : Int) := of_decide_eq_true (by first | (with_reducible assumption) | assumption)
        have hx7 := bt_at a0 (ji4)
        replace p7 := eq_true p7
        replace q7 := eq_true q7
        go_enter Try.func24, Try.ntmps24
        go_wp2
        go_ret
        exact ⟨by first | rfl | (simp; done) | (simp only [← hji4] <;> (first | rfl | simp)) | (simp [*]; done) | (simp [*, Fig.bne_nil]; done), by repeat (first | exact Drawn0.refl _ | apply Drawn0.step)⟩
      · rw [if_neg c6] at H
        exact absurd H (by simp)
    · rw [if_neg c5] at H
      exact absurd H (by simp)

end Go.Proofs.Ytnpibnjncjieaaa.Px

namespace Go.Proofs.Ytnpibnjncjieaaa.Px
open Fig Go.RowKit Go.Proofs.YtnpibnjncjieaaaW.PrintWords Go.Proofs.YtnpibnjncjieaaaW.PrintLast Go.Proofs.YtnpibnjncjieaaaW.PrintMore
attribute [local go_sem] max2_int min2_int max_two min_two max_three min_three max_four min_four   -- for this text's walks alone

/-! plain facts: figureheadref01_digit -/
def rs (s : ByteArray) : List UInt8 := s.data.toList.reverse
theorem rs_len (s : ByteArray) : (rs s).length = s.size := by rw [rs, List.length_reverse, ← size_eq]
def dg (s : ByteArray) (k : Nat) : Nat := match (rs s)[k]? with | some c => c.toNat - 48 | none => 0
theorem dg_le {s : ByteArray} (h : dB s = true) (k : Nat) : dg s k ≤ 9 := by
  unfold dg
  split
  · rename_i c hc
    have : isD c = true := digL_iff.1 (show digL (rs s) = true by rw [rs, digL_reverse]; exact h) c (List.mem_of_getElem? hc)
    have := isD_iff.1 this; omega
  · omega
theorem rv_rest (s : ByteArray) (k : Nat) : rv ((rs s).drop k) = dg s k + 10 * rv ((rs s).drop (k + 1)) := by
  unfold dg
  by_cases h : k < (rs s).length
  · rw [List.drop_eq_getElem_cons h, List.getElem?_eq_getElem h]; rfl
  · rw [List.drop_of_length_le (by omega), List.drop_of_length_le (by omega), List.getElem?_eq_none (by omega)]; rfl
theorem rv_rest_end {s : ByteArray} {k : Nat} (h : s.size ≤ k) : rv ((rs s).drop k) = 0 := by
  rw [List.drop_of_length_le (by rw [rs_len]; omega)]; rfl
theorem digit_eq {s : ByteArray} (h : dB s = true) (hs : s.size ≤ 4611686018427387904) {k : Nat} (hk : k ≤ 4611686018427387904) : figureheadref01_digit.f s (k : Int) = some ((dg s k : Nat) : Int) := by
  unfold figureheadref01_digit.f
  by_cases hlt : k < s.size
  · rw [if_neg (by omega), w64 (x := (s.size : Int) - 1) (by omega) (by omega), w64 (by omega) (by omega), if_pos (by omega), if_pos (by omega)]
    have e : (s.size : Int) - 1 - (k : Int) = ((s.size - 1 - k : Nat) : Int) := by omega
    rw [e, bt_get (by omega)]
    have e2 : (rs s)[k]? = some (s.data.toList[s.size - 1 - k]'(by rw [← size_eq]; omega)) := by
      unfold rs
      rw [List.getElem?_reverse (by rw [← size_eq]; exact hlt)]
      rw [List.getElem?_eq_getElem (by rw [← size_eq]; omega)]
      congr 1
    have hd : isD (s.data.toList[s.size - 1 - k]'(by rw [← size_eq]; omega)) = true := digL_iff.1 h _ (List.getElem_mem _)
    have := isD_iff.1 hd
    unfold dg
    rw [e2]
    congr 1
    show _ = ((_ - 48 : Nat) : Int)
    omega
  · rw [if_pos (by omega)]
    unfold dg
    rw [List.getElem?_eq_none (by rw [rs_len]; omega)]; rfl

end Go.Proofs.Ytnpibnjncjieaaa.Px

namespace Go.Proofs.Ytnpibnjncjieaaa.Px
open Fig Go.RowKit Go.Proofs.YtnpibnjncjieaaaW.PrintWords Go.Proofs.YtnpibnjncjieaaaW.PrintLast Go.Proofs.YtnpibnjncjieaaaW.PrintMore
attribute [local go_sem] max2_int min2_int max_two min_two max_three min_three max_four min_four   -- for this text's walks alone

/-! ### figureheadref01_Strip: function 22 -/
def figureheadref01_Strip.l0 : Nat → ByteArray → Int → Option (ByteArray)
  | 0, _, _ => none
  | k + 1, x0, x3 => if x3 < (x0.size : Int) then (if 0 ≤ x3 then (if (bt x0 x3) = 48 then (figureheadref01_Strip.l0 k x0 (wrap64 (x3 + 1))) else (if x3 ≤ (x0.size : Int) then (some (x0.extract (x3 : Int).toNat x0.size)) else (none))) else (none)) else (if 0 ≤ x3 then (if x3 ≤ (x0.size : Int) then (some (x0.extract (x3 : Int).toNat x0.size)) else (none)) else (none))
def figureheadref01_Strip.f (k : Nat) (a0 : ByteArray) : Option (ByteArray) := figureheadref01_Strip.l0 k a0 0
theorem figureheadref01_Strip.mono_l : ∀ k, (∀ y0 y1, LeO (figureheadref01_Strip.l0 k y0 y1) (figureheadref01_Strip.l0 (k + 1) y0 y1))
  | 0 => fun _ _ r h => by simp [figureheadref01_Strip.l0] at h
  | k + 1 => by
    have ih0 := figureheadref01_Strip.mono_l k
    · intro y0 y1
      unfold figureheadref01_Strip.l0
      repeat' first
      | (with_reducible exact ih0 _ _)
      | (with_reducible exact LeO.refl _)
      | (with_reducible exact LeO.none _)
      | (with_reducible refine LeO.ite ?_ ?_)
      | (with_reducible refine LeO.bind ?_ (fun _ => ?_))
      | exact ih0 _ _
      | exact LeO.none _
      | refine LeO.ite ?_ ?_
      | refine LeO.bind ?_ (fun _ => ?_)
theorem figureheadref01_Strip.mono : ∀ a0 k, LeO (figureheadref01_Strip.f k a0) (figureheadref01_Strip.f (k + 1) a0) := by
  intro a0 k
  have ih0 := figureheadref01_Strip.mono_l k
  unfold figureheadref01_Strip.f
  repeat' first
      | (with_reducible exact ih0 _ _)
      | (with_reducible exact LeO.refl _)
      | (with_reducible exact LeO.none _)
      | (with_reducible refine LeO.ite ?_ ?_)
      | (with_reducible refine LeO.bind ?_ (fun _ => ?_))
      | exact ih0 _ _
      | exact LeO.none _
      | refine LeO.ite ?_ ?_
      | refine LeO.bind ?_ (fun _ => ?_)
set_option maxHeartbeats 8000000 in
set_option maxRecDepth 100000 in
theorem figureheadref01_Strip.calls (k : Nat) (a0 : ByteArray) (r : ByteArray) (w : World) (h : figureheadref01_Strip.f k a0 = some r) :
    Calls Try.prog 22 #[.string a0] w fun e w' => e = .returned (.string r) ∧ Drawn0 w w' := by
  have H : (figureheadref01_Strip.l0 k a0 0) = some r := h
  clear h
  have H' := Aside0.mk H
  clear H
  go_enter Try.func22, Try.ntmps22
  go_wp2
  go_loopg [3] k (fun kq v3 w' => ∃ (x3_1 : Int), v3 = .int .i64 x3_1 ∧ Aside0 (figureheadref01_Strip.l0 kq a0 x3_1 = some r) ∧ Aside0 (kq ≤ k) ∧ Drawn0 w w')
  case atStart => exact ⟨(0), (by first | rfl | (simp; done) | (simp [*]; done) | (simp [*, Fig.bne_nil]; done)), H', ⟨Nat.le_refl _⟩, by repeat (first | exact Drawn0.refl _ | apply Drawn0.step)⟩
  case round =>
    clear H'
    obtain ⟨x3_1, rfl, HA, HK1, ⟨m1, rfl⟩⟩ := hrel
    cases gk with
    | zero => exact absurd HA.out (by simp [figureheadref01_Strip.l0])
    | succ k1 =>
      have H := HA.out
      clear HA
      simp only [figureheadref01_Strip.l0] at H
      by_cases c2 : x3_1 < (a0.size : Int)
      · rw [if_pos c2] at H
        have c2b0 : decide (x3_1 < (a0.size : Int)) = true := decide_eq_true c2
        clear c2
        by_cases c3 : 0 ≤ x3_1
        · rw [if_pos c3] at H
          have c3b0 : decide (0 ≤ x3_1) = true := decide_eq_true c3
          clear c3
          by_cases c5 : (bt a0 x3_1) = 48
          · rw [if_pos c5] at H
            have c5b0 : ((bt a0 x3_1) == 48) = true := beq_iff_eq.mpr c5
            have c5b1 : ((bt a0 x3_1) != 48) = false := bne_eq_false_iff_eq.mpr c5
            clear c5
            have H' := Aside0.mk H
            clear H
            have p4 : 0 ≤ (x3_1 : Int) := of_decide_eq_true (by first | (with_reducible assumption) | assumption)
            have q4 : x3_1 < (a0.size : Int) := of_decide_eq_true (by first | (with_reducible assumption) | assumption)
            have hx4 := bt_at a0 x3_1
            replace p4 := eq_true p4
            replace q4 := eq_true q4
            go_wp2
            go_roundg k1
            case measure => have := HK1.out; omega
            case rel => exact ⟨(wrap64 (x3_1 + 1)), (by first | rfl | (simp; done) | (simp [*]; done) | (simp [*, Fig.bne_nil]; done)), H', ⟨by have := HK1.out; omega⟩, by repeat (first | exact Drawn0.refl _ | apply Drawn0.step)⟩
          · rw [if_neg c5] at H
            have c5b0 : ((bt a0 x3_1) == 48) = false := beq_eq_false_iff_ne.mpr c5
            have c5b1 : ((bt a0 x3_1) != 48) = true := bne_iff_ne.mpr c5
            have c6b0 := eq_true (of_decide_eq_true (by first | (with_reducible assumption) | assumption) : 0 ≤ x3_1)
            by_cases c7 : x3_1 ≤ (a0.size : Int)
            · rw [if_pos c7] at H
              have c7b0 := eq_true c7
              have c7b1 : decide (x3_1 ≤ (a0.size : Int)) = true := decide_eq_true c7
              clear c7
              obtain rfl := Option.some.inj H
              have p4 : 0 ≤ (x3_1 : Int) := of_decide_eq_true (by first | (with_reducible assumption) | assumption)
              have q4 : x3_1 < (a0.size : Int) := of_decide_eq_true (by first | (with_reducible assumption) | assumption)
              have hx4 := bt_at a0 x3_1
              replace p4 := eq_true p4
              replace q4 := eq_true q4
              go_wp2
              go_ret
              exact ⟨by first | rfl | (simp; done) | (simp [*]; done) | (simp [*, Fig.bne_nil]; done), by repeat (first | exact Drawn0.refl _ | apply Drawn0.step)⟩
            · rw [if_neg c7] at H
              exact absurd H (by simp)
        · rw [if_neg c3] at H
          exact absurd H (by simp)
      · rw [if_neg c2] at H
        have c2b0 : decide (x3_1 < (a0.size : Int)) = false := decide_eq_false c2
        clear c2
        by_cases c8 : 0 ≤ x3_1
        · rw [if_pos c8] at H
          have c8b0 := eq_true c8
          have c8b1 : decide (0 ≤ x3_1) = true := decide_eq_true c8
          clear c8
          by_cases c9 : x3_1 ≤ (a0.size : Int)
          · rw [if_pos c9] at H
            have c9b0 := eq_true c9
            have c9b1 : decide (x3_1 ≤ (a0.size : Int)) = true := decide_eq_true c9
            clear c9
            obtain rfl := Option.some.inj H
            go_wp2
            go_ret
            exact ⟨by first | rfl | (simp; done) | (simp [*]; done) | (simp [*, Fig.bne_nil]; done), by repeat (first | exact Drawn0.refl _ | apply Drawn0.step)⟩
          · rw [if_neg c9] at H
            exact absurd H (by simp)
        · rw [if_neg c8] at H
          exact absurd H (by simp)

end Go.Proofs.Ytnpibnjncjieaaa.Px

namespace Go.Proofs.Ytnpibnjncjieaaa.Px
open Fig Go.RowKit Go.Proofs.YtnpibnjncjieaaaW.PrintWords Go.Proofs.YtnpibnjncjieaaaW.PrintLast Go.Proofs.YtnpibnjncjieaaaW.PrintMore
attribute [local go_sem] max2_int min2_int max_two min_two max_three min_three max_four min_four   -- for this text's walks alone

/-! plain facts: figureheadref01_Strip -/
theorem Strip_loop (s : ByteArray) (hs : s.size ≤ 4611686018427387904) : ∀ (d n : Nat), s.size - n = d → n ≤ s.size → Ev (fun k => figureheadref01_Strip.l0 k s (n : Int)) (⟨(stripL (s.data.toList.drop n)).toArray⟩ : ByteArray)
  | 0, n, hd, hn => by
    refine evDone (r' := s.extract n s.size) (fun k => ?_) ?_
    · simp only [figureheadref01_Strip.l0]; rw [if_neg (by omega), if_pos (by omega), if_pos (by omega)]; simp
    · apply B_ext; rw [B_from]
      have : s.data.toList.drop n = [] := List.drop_of_length_le (by rw [← size_eq]; omega)
      rw [this]; rfl
  | d + 1, n, hd, hn => by
    have hlt : n < s.size := by omega
    have hb := bt_get hlt
    have hc := List.drop_eq_getElem_cons (l := s.data.toList) (i := n) (by rw [← size_eq]; exact hlt)
    by_cases h48 : bt s (n : Int) = 48
    · refine Ev.step (f := fun k => figureheadref01_Strip.l0 k s ((n + 1 : Nat) : Int)) (fun k => ?_) ?_
      · simp only [figureheadref01_Strip.l0]; rw [if_pos (by omega), if_pos (by omega), if_pos h48, w64 (by omega) (by omega)]; rfl
      · have := Strip_loop s hs d (n + 1) (by omega) (by omega)
        rw [hc]
        have h2 : s.data.toList[n]'(by rw [← size_eq]; exact hlt) = 48 := UInt8.toNat.inj (by rw [hb] at h48; show _ = 48; omega)
        rw [h2]
        simpa [stripL] using this
    · refine evDone (r' := s.extract n s.size) (fun k => ?_) ?_
      · simp only [figureheadref01_Strip.l0]; rw [if_pos (by omega), if_pos (by omega), if_neg h48, if_pos (by omega)]; simp
      · apply B_ext; rw [B_from]
        refine (stripL_of_head ?_).symm
        rw [hc, List.head?_cons]
        intro e
        injection e with e
        rw [hb, e] at h48; exact h48 rfl
theorem Strip_ev {s : ByteArray} (hs : s.size ≤ 4611686018427387904) : Ev (fun k => figureheadref01_Strip.f k s) (stripB s) := by
  have := Strip_loop s hs s.size 0 (by omega) (by omega)
  simpa [figureheadref01_Strip.f, stripB] using this
theorem StripD_ev {s : ByteArray} (hs : s.size ≤ 4611686018427387904) (h : dB s = true) : Ev (fun k => figureheadref01_Strip.f k s) (digB (vB s)) := by
  rw [← stripB_eq h]; exact Strip_ev hs

end Go.Proofs.Ytnpibnjncjieaaa.Px

namespace Go.Proofs.Ytnpibnjncjieaaa.Px
open Fig Go.RowKit Go.Proofs.YtnpibnjncjieaaaW.PrintWords Go.Proofs.YtnpibnjncjieaaaW.PrintLast Go.Proofs.YtnpibnjncjieaaaW.PrintMore
attribute [local go_sem] max2_int min2_int max_two min_two max_three min_three max_four min_four   -- for this text's walks alone

/-! ### figureheadref01_turned: function 25 -/
def figureheadref01_turned.l0 : Nat → List Int → List Int → Int → Option (ByteArray)
  | 0, _, _, _ => none
  | k + 1, x0, x3, x4 => if x4 ≥ 0 then (if 0 ≤ x4 then (if x4 < (x0.length : Int) then (if x3.length < 140737488355328 then (figureheadref01_turned.l0 k x0 (x3 ++ [rd x0 x4]) (wrap64 (x4 - 1))) else (none)) else (none)) else (none)) else (some (strOfNums x3))
def figureheadref01_turned.f (k : Nat) (l0 : List Int) : Option (ByteArray) := figureheadref01_turned.l0 k l0 ([] : List Int) (wrap64 ((l0.length : Int) - 1))
theorem figureheadref01_turned.mono_l : ∀ k, (∀ y0 y1 y2, LeO (figureheadref01_turned.l0 k y0 y1 y2) (figureheadref01_turned.l0 (k + 1) y0 y1 y2))
  | 0 => fun _ _ _ r h => by simp [figureheadref01_turned.l0] at h
  | k + 1 => by
    have ih0 := figureheadref01_turned.mono_l k
    · intro y0 y1 y2
      unfold figureheadref01_turned.l0
      repeat' first
      | (with_reducible exact ih0 _ _ _)
      | (with_reducible exact LeO.refl _)
      | (with_reducible exact LeO.none _)
      | (with_reducible refine LeO.ite ?_ ?_)
      | (with_reducible refine LeO.bind ?_ (fun _ => ?_))
      | exact ih0 _ _ _
      | exact LeO.none _
      | refine LeO.ite ?_ ?_
      | refine LeO.bind ?_ (fun _ => ?_)
theorem figureheadref01_turned.mono : ∀ a0 k, LeO (figureheadref01_turned.f k a0) (figureheadref01_turned.f (k + 1) a0) := by
  intro a0 k
  have ih0 := figureheadref01_turned.mono_l k
  unfold figureheadref01_turned.f
  repeat' first
      | (with_reducible exact ih0 _ _ _)
      | (with_reducible exact LeO.refl _)
      | (with_reducible exact LeO.none _)
      | (with_reducible refine LeO.ite ?_ ?_)
      | (with_reducible refine LeO.bind ?_ (fun _ => ?_))
      | exact ih0 _ _ _
      | exact LeO.none _
      | refine LeO.ite ?_ ?_
      | refine LeO.bind ?_ (fun _ => ?_)
set_option maxHeartbeats 8000000 in
set_option maxRecDepth 100000 in
theorem figureheadref01_turned.calls (k : Nat) (A0 : Option Addr) (c0 : Nat) (l0 : List Int) (r : ByteArray) (w : World) (hr0 : Kd.C (Kd.int .u8) w A0 l0.length l0) (hc0 : l0.length ≤ c0) (h : figureheadref01_turned.f k l0 = some r) :
    Calls Try.prog 25 #[.slice A0 l0.length c0] w fun e w' => e = .returned (.string r) ∧ Below w.heap.size w w' := by
  have HR0 := Aside0.mk hr0
  have HC0 := Aside0.mk hc0
  clear hr0 hc0
  have HB := Aside0.mk (Below.refl w.heap.size w)
  have H : (figureheadref01_turned.l0 k l0 ([] : List Int) (wrap64 ((l0.length : Int) - 1))) = some r := h
  clear h
  have H' := Aside0.mk H
  clear H
  go_enter Try.func25, Try.ntmps25
  go_wp2
  go_loopg [3, 4] k (fun kq v3 v4 w' => ∃ (x3_1 : List Int) (x4_1 : Int), v4 = .int .i64 x4_1 ∧ Aside0 (figureheadref01_turned.l0 kq l0 x3_1 x4_1 = some r) ∧ Aside0 (kq ≤ k) ∧ Aside0 (Kd.R (Kd.int .u8) 5 w' w.heap.size (fun _ => True) v3 x3_1) ∧ Aside0 (Below w.heap.size w w'))
  case atStart => exact ⟨(([] : List Int)), (wrap64 ((l0.length : Int) - 1)), (by first | rfl | (simp; done) | (simp [*]; done) | (simp [*, Fig.bne_nil]; done)), H', ⟨Nat.le_refl _⟩, ⟨by first | exact Kd.R_nil _ _ _ _ _ | exact Kd.N_nil _ _ _ _ _ | exact Kd.V_nil _ _ _ _ _ | exact Kd.Q_nil _ _ _ _ _ | exact Kd.S_nil _ _ _ _ _⟩, ⟨by repeat (first | (with_reducible first | exact HB.out | apply below_alloc | apply pw_below_drewN | apply below_drew1) | exact HB.out)⟩⟩
  case round =>
    clear H'
    obtain ⟨x3_1, x4_1, rfl, HA, HK1, HO_3, HB⟩ := hrel
    cases gk with
    | zero => exact absurd HA.out (by simp [figureheadref01_turned.l0])
    | succ k1 =>
      have H := HA.out
      clear HA
      simp only [figureheadref01_turned.l0] at H
      by_cases c2 : x4_1 ≥ 0
      · rw [if_pos c2] at H
        have c2b0 : decide (0 ≤ x4_1) = true := decide_eq_true c2
        clear c2
        by_cases c3 : 0 ≤ x4_1
        · rw [if_pos c3] at H
          have c3b0 : decide (0 ≤ x4_1) = true := decide_eq_true c3
          clear c3
          by_cases c4 : x4_1 < (l0.length : Int)
          · rw [if_pos c4] at H
            have c4b0 : decide (x4_1 < (l0.length : Int)) = true := decide_eq_true c4
            clear c4
            by_cases c5 : x3_1.length < 140737488355328
            · rw [if_pos c5] at H
              have LMc5 := Aside0.mk c5
              clear c5
              obtain ⟨y209, hy209⟩ : ∃ y_ : List Int, y_ = (x3_1 ++ [rd l0 x4_1]) := ⟨_, rfl⟩
              replace H : (figureheadref01_turned.l0 k1 l0 y209 (wrap64 (x4_1 - 1))) = some r := by first | (rw [hy209]; with_reducible exact H) | (have H2_ := (Option.bind_some _ _).symm.trans H; rw [hy209]; with_reducible exact H2_) | (have H2_ := (Option.bind_some _ _).symm.trans H; with_reducible exact H2_) | with_reducible exact H | (rw [hy209]; exact H) | exact H
              have Ny209 := Aside0.mk hy209
              clear hy209
              have H' := Aside0.mk H
              clear H
              have p208 : 0 ≤ (x4_1 : Int) := of_decide_eq_true (by first | (with_reducible assumption) | assumption)
              have q208 : x4_1 < (l0.length : Int) := of_decide_eq_true (by first | (with_reducible assumption) | assumption)
              obtain ⟨ad208, e208, hx208_0⟩ := Kd.at_int HR0.out x4_1 p208 q208
              cases e208
              replace hx208_0 := (HB.out.cell (World.block_lt_of_cell? w _ hx208_0)).trans hx208_0
              replace p208 := eq_true p208
              replace q208 := eq_true q208
              go_wp2_with (first | ((with_reducible refine gate_builtin (b := .append) (xs := #[.tmp 12, .tmp 17]) rfl ?_); at_builtin; refine Kd.R_append (Kd.int .u8) (w0 := w) w.heap.size rfl (.tmp 12) (.tmp 17) 45 5 (.int .u8 0) 1 rfl Try.underlying45 info5 rfl (by decide) (by omega) u3 x3_1 (rd l0 x4_1) [.int .u8 (rd l0 x4_1)] (fun _ => True) (fun _ => False) rfl rfl ?aP (fun _ hk => hk.elim) ?aF ?aO ?aB ?aS ?aL ?_; (case aP => exact rfl); (case aB => exact (by repeat (first | (with_reducible first | exact HB.out | apply below_alloc | apply pw_below_drewN | apply below_drew1) | exact HB.out))); (case aF => exact (fun _ _ => trivial)); (case aO => exact (by (with_reducible repeat (first | apply Kd.R_alloc | apply Kd.R_drewN | apply Kd.R_drew)); exact HO_3.out)); (case aS => exact (below_size (by repeat (first | (with_reducible first | exact HB.out | apply below_alloc | apply pw_below_drewN | apply below_drew1) | exact HB.out)))); (case aL => have := LMc5.out; omega); intro v210 w6 ho hb hg hat; rw [← Ny209.out] at ho; have n0_ := Aside0.mk (hb); have n1_ := Aside0.mk (ho); clear HB; clear HO_3; have HB := n0_; have HO211 := n1_; clear n0_ n1_; clear ho hb hg hat))
              go_roundg k1
              case measure => have := HK1.out; omega
              case rel => exact ⟨(y209), (wrap64 (x4_1 - 1)), (by first | rfl | (simp; done) | (simp [*]; done) | (simp [*, Fig.bne_nil]; done)), H', ⟨by have := HK1.out; omega⟩, ⟨by (with_reducible repeat (first | apply Kd.R_alloc | apply Kd.R_drewN | apply Kd.R_drew)); exact HO211.out⟩, ⟨by repeat (first | (with_reducible first | exact HB.out | apply below_alloc | apply pw_below_drewN | apply below_drew1) | exact HB.out)⟩⟩
            · rw [if_neg c5] at H
              exact absurd H (by simp)
          · rw [if_neg c4] at H
            exact absurd H (by simp)
        · rw [if_neg c3] at H
          exact absurd H (by simp)
      · rw [if_neg c2] at H
        have c2b0 : decide (0 ≤ x4_1) = false := decide_eq_false c2
        clear c2
        obtain rfl := Option.some.inj H
        have hcv7 := own_string (P := Try.prog) Try.underlying45 Try.underlying5 Try.underlying9 (Kd.own_of_R HO_3.out)
        go_wp2
        go_ret
        exact ⟨by first | rfl | (simp [errW_none, errW_some] <;> rfl) | (simp [*, errW_none, errW_some] <;> rfl), by repeat (first | (with_reducible first | exact HB.out | apply below_alloc | apply pw_below_drewN | apply below_drew1) | exact HB.out)⟩

end Go.Proofs.Ytnpibnjncjieaaa.Px

namespace Go.Proofs.Ytnpibnjncjieaaa.Px
open Fig Go.RowKit Go.Proofs.YtnpibnjncjieaaaW.PrintWords Go.Proofs.YtnpibnjncjieaaaW.PrintLast Go.Proofs.YtnpibnjncjieaaaW.PrintMore
attribute [local go_sem] max2_int min2_int max_two min_two max_three min_three max_four min_four   -- for this text's walks alone

/-! plain facts: figureheadref01_turned -/
theorem turned_loop (l : List Int) (hl : l.length ≤ 1000000000000) : ∀ (n : Nat) (x : List Int), n ≤ l.length → x.length + n = l.length → Ev (fun k => figureheadref01_turned.l0 k l x ((n : Int) - 1)) (strOfNums (x ++ (l.take n).reverse))
  | 0, x, hn, hx => by
    refine evDone (r' := strOfNums x) (fun k => ?_) (by simp)
    simp only [figureheadref01_turned.l0]; rw [if_neg (by omega)]
  | n + 1, x, hn, hx => by
    refine Ev.step (f := fun k => figureheadref01_turned.l0 k l (x ++ [rd l (n : Int)]) ((n : Int) - 1)) (fun k => ?_) ?_
    · have e : (((n + 1 : Nat) : Int) - 1) = (n : Int) := by omega
      simp only [e, figureheadref01_turned.l0]; rw [if_pos (by omega), if_pos (by omega), if_pos (by omega), if_pos (by omega), w64 (by omega) (by omega)]
    · refine evIs (turned_loop l hl n _ (by omega) (by simp; omega)) ?_
      rw [rd_get (by omega), List.append_assoc, List.take_succ_eq_append_getElem (by omega), List.reverse_append]; rfl
theorem turned_ev {l : List Int} (hl : l.length ≤ 1000000000000) : Ev (fun k => figureheadref01_turned.f k l) (strOfNums l.reverse) := by
  have := turned_loop l hl l.length [] (by omega) (by simp)
  unfold figureheadref01_turned.f
  rw [w64 (by omega) (by omega)]
  simpa using this
/-- codes of digits, the last one first -/
def ob (l : List Int) : List UInt8 := l.map fun n => UInt8.ofNat n.toNat
theorem ob_len (l : List Int) : (ob l).length = l.length := by simp [ob]
theorem ob_snoc (l : List Int) {c : Nat} (h : c ≤ 9) : digL (ob l) = true → digL (ob (l ++ [((48 + c : Nat) : Int)])) = true ∧ rv (ob (l ++ [((48 + c : Nat) : Int)])) = rv (ob l) + 10 ^ l.length * c := by
  intro hd
  have e2 : (UInt8.ofNat (48 + c)).toNat = 48 + c := by rw [UInt8.toNat_ofNat']; omega
  unfold ob
  rw [List.map_append, digL_append, rv_append]
  simp only [List.map_cons, List.map_nil, Int.toNat_natCast, List.length_map, rv, e2]
  refine ⟨⟨hd, ?_⟩, ?_⟩
  · rw [digL_cons, isD_iff, e2]; exact ⟨by omega, rfl⟩
  · rw [show 48 + c - 48 + 10 * 0 = c by omega]
theorem turnedStrip_ev {l : List Int} (hl : l.length ≤ 1000000000000) (hd : digL (ob l) = true) : Ev (fun k => (figureheadref01_turned.f k l).bind fun t => (figureheadref01_Strip.f k t).bind fun t2 => some t2) (digB (rv (ob l))) := by
  have e1 : (strOfNums l.reverse).data.toList = (ob l).reverse := by rw [B_nums, ob, List.map_reverse]
  refine Ev.bind (turned_ev hl) (Ev.bind (StripD_ev (by rw [strOfNums_size, List.length_reverse]; omega) (by unfold dB; rw [e1, digL_reverse]; exact hd)) ?_)
  have : vB (strOfNums l.reverse) = rv (ob l) := by unfold vB; rw [e1, List.reverse_reverse]
  rw [this]; exact Ev.now _

end Go.Proofs.Ytnpibnjncjieaaa.Px

namespace Go.Proofs.Ytnpibnjncjieaaa.Px
open Fig Go.RowKit Go.Proofs.YtnpibnjncjieaaaW.PrintWords Go.Proofs.YtnpibnjncjieaaaW.PrintLast Go.Proofs.YtnpibnjncjieaaaW.PrintMore
attribute [local go_sem] max2_int min2_int max_two min_two max_three min_three max_four min_four   -- for this text's walks alone

/-! ### figureheadref01_Plus: function 17 -/
mutual
def figureheadref01_Plus.l0 : Nat → ByteArray → ByteArray → List Int → Int → Int → Option (ByteArray)
  | 0, _, _, _, _, _ => none
  | k + 1, x0, x1, x5, x6, x7 => if x7 < (x0.size : Int) then (figureheadref01_Plus.j1 k x0 x1 x5 x6 x7 true) else (if x7 < (x1.size : Int) then (figureheadref01_Plus.j1 k x0 x1 x5 x6 x7 true) else (figureheadref01_Plus.j1 k x0 x1 x5 x6 x7 (decide (x6 > 0))))
def figureheadref01_Plus.j1 : Nat → ByteArray → ByteArray → List Int → Int → Int → Bool → Option (ByteArray)
  | 0, _, _, _, _, _, _ => none
  | k + 1, x0, x1, x5, x6, x7, x22 => if x22 = true then ((figureheadref01_digit.f x0 x7).bind fun t292 => ((figureheadref01_digit.f x1 x7).bind fun t293 => (if x5.length < 140737488355328 then (figureheadref01_Plus.l0 k x0 x1 (x5 ++ [(wrap64 (48 + (Int.tmod (wrap64 ((wrap64 (t292 + t293)) + x6)) 10))) % 256]) (wrap64 (Int.tdiv (wrap64 ((wrap64 (t292 + t293)) + x6)) 10)) (wrap64 (x7 + 1))) else (none)))) else ((figureheadref01_turned.f k x5).bind fun t297 => ((figureheadref01_Strip.f k t297).bind fun t298 => (some t298)))
end
def figureheadref01_Plus.f (k : Nat) (a0 : ByteArray) (a1 : ByteArray) : Option (ByteArray) := figureheadref01_Plus.l0 k a0 a1 ([] : List Int) 0 0
theorem figureheadref01_Plus.mono_l : ∀ k, (∀ y0 y1 y2 y3 y4, LeO (figureheadref01_Plus.l0 k y0 y1 y2 y3 y4) (figureheadref01_Plus.l0 (k + 1) y0 y1 y2 y3 y4)) ∧ (∀ y0 y1 y2 y3 y4 y5, LeO (figureheadref01_Plus.j1 k y0 y1 y2 y3 y4 y5) (figureheadref01_Plus.j1 (k + 1) y0 y1 y2 y3 y4 y5))
  | 0 => ⟨fun _ _ _ _ _ r h => by simp [figureheadref01_Plus.l0] at h, fun _ _ _ _ _ _ r h => by simp [figureheadref01_Plus.j1] at h⟩
  | k + 1 => by
    obtain ⟨ih0, ih1⟩ := figureheadref01_Plus.mono_l k
    refine ⟨?_, ?_⟩
    · intro y0 y1 y2 y3 y4
      unfold figureheadref01_Plus.l0
      repeat' first
      | (with_reducible exact ih0 _ _ _ _ _)
      | (with_reducible exact ih1 _ _ _ _ _ _)
      | (with_reducible exact figureheadref01_Strip.mono _ _)
      | (with_reducible exact figureheadref01_turned.mono _ _)
      | (with_reducible exact LeO.refl _)
      | (with_reducible exact LeO.none _)
      | (with_reducible refine LeO.ite ?_ ?_)
      | (with_reducible refine LeO.bind ?_ (fun _ => ?_))
      | exact ih0 _ _ _ _ _
      | exact ih1 _ _ _ _ _ _
      | exact figureheadref01_Strip.mono _ _
      | exact figureheadref01_turned.mono _ _
      | exact LeO.none _
      | refine LeO.ite ?_ ?_
      | refine LeO.bind ?_ (fun _ => ?_)
    · intro y0 y1 y2 y3 y4 y5
      unfold figureheadref01_Plus.j1
      repeat' first
      | (with_reducible exact ih0 _ _ _ _ _)
      | (with_reducible exact ih1 _ _ _ _ _ _)
      | (with_reducible exact figureheadref01_Strip.mono _ _)
      | (with_reducible exact figureheadref01_turned.mono _ _)
      | (with_reducible exact LeO.refl _)
      | (with_reducible exact LeO.none _)
      | (with_reducible refine LeO.ite ?_ ?_)
      | (with_reducible refine LeO.bind ?_ (fun _ => ?_))
      | exact ih0 _ _ _ _ _
      | exact ih1 _ _ _ _ _ _
      | exact figureheadref01_Strip.mono _ _
      | exact figureheadref01_turned.mono _ _
      | exact LeO.none _
      | refine LeO.ite ?_ ?_
      | refine LeO.bind ?_ (fun _ => ?_)
theorem figureheadref01_Plus.mono : ∀ a0 a1 k, LeO (figureheadref01_Plus.f k a0 a1) (figureheadref01_Plus.f (k + 1) a0 a1) := by
  intro a0 a1 k
  obtain ⟨ih0, ih1⟩ := figureheadref01_Plus.mono_l k
  unfold figureheadref01_Plus.f
  repeat' first
      | (with_reducible exact ih0 _ _ _ _ _)
      | (with_reducible exact ih1 _ _ _ _ _ _)
      | (with_reducible exact figureheadref01_Strip.mono _ _)
      | (with_reducible exact figureheadref01_turned.mono _ _)
      | (with_reducible exact LeO.refl _)
      | (with_reducible exact LeO.none _)
      | (with_reducible refine LeO.ite ?_ ?_)
      | (with_reducible refine LeO.bind ?_ (fun _ => ?_))
      | exact ih0 _ _ _ _ _
      | exact ih1 _ _ _ _ _ _
      | exact figureheadref01_Strip.mono _ _
      | exact figureheadref01_turned.mono _ _
      | exact LeO.none _
      | refine LeO.ite ?_ ?_
      | refine LeO.bind ?_ (fun _ => ?_)
set_option maxHeartbeats 8000000 in
set_option maxRecDepth 100000 in
theorem figureheadref01_Plus.calls (k : Nat) (a0 : ByteArray) (a1 : ByteArray) (r : ByteArray) (w : World) (h : figureheadref01_Plus.f k a0 a1 = some r) :
    Calls Try.prog 17 #[.string a0, .string a1] w fun e w' => e = .returned (.string r) ∧ Below w.heap.size w w' := by
  have HB := Aside0.mk (Below.refl w.heap.size w)
  have H : (figureheadref01_Plus.l0 k a0 a1 ([] : List Int) 0 0) = some r := h
  clear h
  have H' := Aside0.mk H
  clear H
  go_enter Try.func17, Try.ntmps17
  go_wp2
  go_loopg [5, 6, 7] k (fun kq v5 v6 v7 w' => ∃ (x5_1 : List Int) (x6_1 : Int) (x7_1 : Int), v6 = .int .i64 x6_1 ∧ v7 = .int .i64 x7_1 ∧ Aside0 (figureheadref01_Plus.l0 kq a0 a1 x5_1 x6_1 x7_1 = some r) ∧ Aside0 (kq ≤ k) ∧ Aside0 (Kd.R (Kd.int .u8) 5 w' w.heap.size (fun _ => True) v5 x5_1) ∧ Aside0 (Below w.heap.size w w'))
  case atStart => exact ⟨(([] : List Int)), (0), (0), (by first | rfl | (simp; done) | (simp [*]; done) | (simp [*, Fig.bne_nil]; done)), (by first | rfl | (simp; done) | (simp [*]; done) | (simp [*, Fig.bne_nil]; done)), H', ⟨Nat.le_refl _⟩, ⟨by first | exact Kd.R_nil _ _ _ _ _ | exact Kd.N_nil _ _ _ _ _ | exact Kd.V_nil _ _ _ _ _ | exact Kd.Q_nil _ _ _ _ _ | exact Kd.S_nil _ _ _ _ _⟩, ⟨by repeat (first | (with_reducible first | exact HB.out | apply below_alloc | apply pw_below_drewN | apply below_drew1) | exact HB.out)⟩⟩
  case round =>
    clear H'
    try clear c1
    try clear p2
    obtain ⟨x5_1, x6_1, x7_1, rfl, rfl, HA, HK1, HO_5, HB⟩ := hrel
    cases gk with
    | zero => exact absurd HA.out (by simp [figureheadref01_Plus.l0])
    | succ k1 =>
      have H := HA.out
      clear HA
      simp only [figureheadref01_Plus.l0] at H
      have HC3 := Aside0.mk H
      clear H
      go_upto_region 4 with (fail)
      go_cut [22] (fun v22 wc => ∃ (kq : Nat) (x22_2 : Bool), v22 = .bool x22_2 ∧ Aside0 (figureheadref01_Plus.j1 kq a0 a1 x5_1 x6_1 x7_1 x22_2 = some r) ∧ Aside0 (kq ≤ k1) ∧ Aside0 (Kd.R (Kd.int .u8) 5 wc w.heap.size (fun _ => True) u5 x5_1) ∧ Aside0 (Below w.heap.size w wc))
      case first =>
        have H := HC3.out
        clear HC3
        by_cases c4 : x7_1 < (a0.size : Int)
        · rw [if_pos c4] at H
          have c4b0 : decide (x7_1 < (a0.size : Int)) = true := decide_eq_true c4
          clear c4
          (first | rw [c4b0] | (simp only [i64_w, i32_w]; rw [c4b0]) | skip)
          have H' := Aside0.mk H
          clear H
          go_wp2
          go_meet
          case rel => exact ⟨_, (true), (by first | rfl | (simp; done) | (simp [*]; done) | (simp [*, Fig.bne_nil]; done)), H', ⟨by have := HK1.out; first | omega | exact Nat.le_refl _⟩, ⟨by (with_reducible repeat (first | apply Kd.R_alloc | apply Kd.R_drewN | apply Kd.R_drew)); exact HO_5.out⟩, ⟨by repeat (first | (with_reducible first | exact HB.out | apply below_alloc | apply pw_below_drewN | apply below_drew1) | exact HB.out)⟩⟩
        · rw [if_neg c4] at H
          have c4b0 : decide (x7_1 < (a0.size : Int)) = false := decide_eq_false c4
          clear c4
          (first | rw [c4b0] | (simp only [i64_w, i32_w]; rw [c4b0]) | skip)
          by_cases c5 : x7_1 < (a1.size : Int)
          · rw [if_pos c5] at H
            have c5b0 : decide (x7_1 < (a1.size : Int)) = true := decide_eq_true c5
            clear c5
            have H' := Aside0.mk H
            clear H
            go_wp2
            go_meet
            case rel => exact ⟨_, (true), (by first | rfl | (simp; done) | (simp [*]; done) | (simp [*, Fig.bne_nil]; done)), H', ⟨by have := HK1.out; first | omega | exact Nat.le_refl _⟩, ⟨by (with_reducible repeat (first | apply Kd.R_alloc | apply Kd.R_drewN | apply Kd.R_drew)); exact HO_5.out⟩, ⟨by repeat (first | (with_reducible first | exact HB.out | apply below_alloc | apply pw_below_drewN | apply below_drew1) | exact HB.out)⟩⟩
          · rw [if_neg c5] at H
            have c5b0 : decide (x7_1 < (a1.size : Int)) = false := decide_eq_false c5
            clear c5
            have H' := Aside0.mk H
            clear H
            go_wp2
            go_meet
            case rel => exact ⟨_, (decide (x6_1 > 0)), (by first | rfl | (simp; done) | (simp [*]; done) | (simp [*, Fig.bne_nil]; done)), H', ⟨by have := HK1.out; first | omega | exact Nat.le_refl _⟩, ⟨by (with_reducible repeat (first | apply Kd.R_alloc | apply Kd.R_drewN | apply Kd.R_drew)); exact HO_5.out⟩, ⟨by repeat (first | (with_reducible first | exact HB.out | apply below_alloc | apply pw_below_drewN | apply below_drew1) | exact HB.out)⟩⟩
      case rest =>
        clear HC3
        try clear c1
        try clear p2
        try clear c4
        try clear c4b0
        try clear c5
        try clear c5b0
        try clear p2
        obtain ⟨kq, x22_2, rfl, HA, HJ2, HO_5, HB⟩ := hcut
        cases kq with
        | zero => exact absurd HA.out (by simp [figureheadref01_Plus.j1])
        | succ kj2 =>
          have H := HA.out
          clear HA
          simp only [figureheadref01_Plus.j1] at H
          by_cases c6 : x22_2 = true
          · subst c6
            have H1 : ((figureheadref01_digit.f a0 x7_1).bind fun t292 => ((figureheadref01_digit.f a1 x7_1).bind fun t293 => (if x5_1.length < 140737488355328 then (figureheadref01_Plus.l0 kj2 a0 a1 (x5_1 ++ [(wrap64 (48 + (Int.tmod (wrap64 ((wrap64 (t292 + t293)) + x6_1)) 10))) % 256]) (wrap64 (Int.tdiv (wrap64 ((wrap64 (t292 + t293)) + x6_1)) 10)) (wrap64 (x7_1 + 1))) else (none)))) = some r := by rw [if_pos rfl] at H; exact H
            clear H
            have H := H1
            clear H1
            replace H := Option.bind_eq_some_iff.mp H
            obtain ⟨t292, A70, H⟩ := H
            replace H : ((figureheadref01_digit.f a1 x7_1).bind fun t293 => (if x5_1.length < 140737488355328 then (figureheadref01_Plus.l0 kj2 a0 a1 (x5_1 ++ [(wrap64 (48 + (Int.tmod (wrap64 ((wrap64 (t292 + t293)) + x6_1)) 10))) % 256]) (wrap64 (Int.tdiv (wrap64 ((wrap64 (t292 + t293)) + x6_1)) 10)) (wrap64 (x7_1 + 1))) else (none))) = some r := H
            have A7 := Aside0.mk A70
            clear A70
            replace H := Option.bind_eq_some_iff.mp H
            obtain ⟨t293, A80, H⟩ := H
            replace H : (if x5_1.length < 140737488355328 then (figureheadref01_Plus.l0 kj2 a0 a1 (x5_1 ++ [(wrap64 (48 + (Int.tmod (wrap64 ((wrap64 (t292 + t293)) + x6_1)) 10))) % 256]) (wrap64 (Int.tdiv (wrap64 ((wrap64 (t292 + t293)) + x6_1)) 10)) (wrap64 (x7_1 + 1))) else (none)) = some r := H
            have A8 := Aside0.mk A80
            clear A80
            by_cases c9 : x5_1.length < 140737488355328
            · rw [if_pos c9] at H
              have LMc9 := Aside0.mk c9
              clear c9
              obtain ⟨y294, hy294⟩ : ∃ y_ : List Int, y_ = (x5_1 ++ [(wrap64 (48 + (Int.tmod (wrap64 ((wrap64 (t292 + t293)) + x6_1)) 10))) % 256]) := ⟨_, rfl⟩
              replace H : (figureheadref01_Plus.l0 kj2 a0 a1 y294 (wrap64 (Int.tdiv (wrap64 ((wrap64 (t292 + t293)) + x6_1)) 10)) (wrap64 (x7_1 + 1))) = some r := by first | (rw [hy294]; with_reducible exact H) | (have H2_ := (Option.bind_some _ _).symm.trans H; rw [hy294]; with_reducible exact H2_) | (have H2_ := (Option.bind_some _ _).symm.trans H; with_reducible exact H2_) | with_reducible exact H | (rw [hy294]; exact H) | exact H
              have Ny294 := Aside0.mk hy294
              clear hy294
              have H' := Aside0.mk H
              clear H
              go_wp2_with (first | ((with_reducible refine gate_callee (f := 24) rfl ?_); refine goesL_ (some 27) rfl rfl Try.func24 (by kernel_rfl) rfl #[.string a0, .int .i64 x7_1] rfl (by (try simp only [List.map_toArray, List.map_cons, List.map_nil]); first | done | rfl | (simp only [List.length_drop, List.length_take]; rfl)) ?_; (with_reducible refine (figureheadref01_digit.calls a0 x7_1 t292 _ A7.out).mono ?_); rintro e w' ⟨rfl, ⟨nd, rfl⟩⟩; refine ⟨_, rfl, ?_⟩) | ((with_reducible refine gate_callee (f := 24) rfl ?_); refine goesL_ (some 30) rfl rfl Try.func24 (by kernel_rfl) rfl #[.string a1, .int .i64 x7_1] rfl (by (try simp only [List.map_toArray, List.map_cons, List.map_nil]); first | done | rfl | (simp only [List.length_drop, List.length_take]; rfl)) ?_; (with_reducible refine (figureheadref01_digit.calls a1 x7_1 t293 _ A8.out).mono ?_); rintro e w' ⟨rfl, ⟨nd, rfl⟩⟩; refine ⟨_, rfl, ?_⟩) | ((with_reducible refine gate_builtin (b := .append) (xs := #[.tmp 34, .tmp 39]) rfl ?_); (try (refine gate_guard (by rfl) ?_; dsimp only)); at_builtin; refine Kd.R_append (Kd.int .u8) (w0 := w) w.heap.size rfl (.tmp 34) (.tmp 39) 45 5 (.int .u8 0) 1 rfl Try.underlying45 info5 rfl (by decide) (by omega) u5 x5_1 ((wrap64 (48 + (Int.tmod (wrap64 ((wrap64 (t292 + t293)) + x6_1)) 10))) % 256) [.int .u8 ((wrap64 (48 + (Int.tmod (wrap64 ((wrap64 (t292 + t293)) + x6_1)) 10))) % 256)] (fun _ => True) (fun _ => False) rfl rfl ?aP (fun _ hk => hk.elim) ?aF ?aO ?aB ?aS ?aL ?_; (case aP => exact rfl); (case aB => exact (by repeat (first | (with_reducible first | exact HB.out | apply below_alloc | apply pw_below_drewN | apply below_drew1) | exact HB.out))); (case aF => exact (fun _ _ => trivial)); (case aO => exact (by (with_reducible repeat (first | apply Kd.R_alloc | apply Kd.R_drewN | apply Kd.R_drew)); exact HO_5.out)); (case aS => exact (below_size (by repeat (first | (with_reducible first | exact HB.out | apply below_alloc | apply pw_below_drewN | apply below_drew1) | exact HB.out)))); (case aL => have := LMc9.out; omega); intro v295 w10 ho hb hg hat; rw [← Ny294.out] at ho; have n0_ := Aside0.mk (hb); have n1_ := Aside0.mk (ho); clear HB; clear HO_5; have HB := n0_; have HO296 := n1_; clear n0_ n1_; clear ho hb hg hat))
              go_roundg kj2
              case measure => have := HK1.out; have := HJ2.out; omega
              case rel => exact ⟨(y294), (wrap64 (Int.tdiv (wrap64 ((wrap64 (t292 + t293)) + x6_1)) 10)), (wrap64 (x7_1 + 1)), (by first | rfl | (simp; done) | (simp [*]; done) | (simp [*, Fig.bne_nil]; done)), (by first | rfl | (simp; done) | (simp [*]; done) | (simp [*, Fig.bne_nil]; done)), H', ⟨by have := HK1.out; have := HJ2.out; omega⟩, ⟨by (with_reducible repeat (first | apply Kd.R_alloc | apply Kd.R_drewN | apply Kd.R_drew)); exact HO296.out⟩, ⟨by repeat (first | (with_reducible first | exact HB.out | apply below_alloc | apply pw_below_drewN | apply below_drew1) | exact HB.out)⟩⟩
            · rw [if_neg c9] at H
              exact absurd H (by simp)
          · replace c6 := Bool.eq_false_iff.mpr c6
            subst c6
            have H1 : ((figureheadref01_turned.f kj2 x5_1).bind fun t297 => ((figureheadref01_Strip.f kj2 t297).bind fun t298 => (some t298))) = some r := by rw [if_neg (show ¬ (false = true) by decide)] at H; exact H
            clear H
            have H := H1
            clear H1
            replace H := Option.bind_eq_some_iff.mp H
            obtain ⟨t297, A110, H⟩ := H
            replace H : ((figureheadref01_Strip.f kj2 t297).bind fun t298 => (some t298)) = some r := H
            have A11 := Aside0.mk A110
            clear A110
            replace H := Option.bind_eq_some_iff.mp H
            obtain ⟨t298, A120, H⟩ := H
            replace H : (some t298) = some r := H
            have A12 := Aside0.mk A120
            clear A120
            obtain rfl := Option.some.inj H
            obtain ⟨Ao13, co13, eo13⟩ := Kd.R_slice HO_5.out
            subst eo13
            go_wp2_with (first | ((with_reducible refine gate_callee (f := 25) rfl ?_); refine goesL_ (some 44) rfl rfl Try.func25 (by kernel_rfl) rfl #[.slice Ao13 x5_1.length co13] rfl (by (try simp only [List.map_toArray, List.map_cons, List.map_nil]); first | done | rfl | (simp only [List.length_drop, List.length_take]; rfl)) ?_; (with_reducible refine (figureheadref01_turned.calls kj2 _ _ x5_1 t297 _ ?side1 ?side2 A11.out).mono ?_); (case side1 => repeat (first | exact (Kd.R_reads' HO_5.out).2.2 | (with_reducible refine Kd.C_alloc ?_ _) | (with_reducible refine Kd.C_drewN ?_ _) | (with_reducible refine Kd.C_drew ?_))); (case side2 => exact (Kd.R_reads' HO_5.out).2.1); rintro e w14 ⟨rfl, hb⟩; refine ⟨_, rfl, ?_⟩; have n0_ := Aside0.mk (Kd.R_below (by (with_reducible repeat (first | apply Kd.R_alloc | apply Kd.R_drewN | apply Kd.R_drew)); exact HO_5.out) hb); have n1_ := Aside0.mk (below_step (by repeat (first | (with_reducible first | exact HB.out | apply below_alloc | apply pw_below_drewN | apply below_drew1) | exact HB.out)) hb); clear HO_5; clear HB; have HO_5 := n0_; have HB := n1_; clear n0_ n1_; (try clear hb); (try clear hb2); (try clear hk); (try clear hi)) | ((with_reducible refine gate_callee (f := 22) rfl ?_); refine goesL_ (some 45) rfl rfl Try.func22 (by kernel_rfl) rfl #[.string t297] rfl (by (try simp only [List.map_toArray, List.map_cons, List.map_nil]); first | done | rfl | (simp only [List.length_drop, List.length_take]; rfl)) ?_; (with_reducible refine (figureheadref01_Strip.calls kj2 t297 t298 _ A12.out).mono ?_); rintro e w' ⟨rfl, ⟨nd, rfl⟩⟩; refine ⟨_, rfl, ?_⟩))
            go_ret
            exact ⟨by first | rfl | (simp [errW_none, errW_some] <;> rfl) | (simp [*, errW_none, errW_some] <;> rfl), by repeat (first | (with_reducible first | exact HB.out | apply below_alloc | apply pw_below_drewN | apply below_drew1) | exact HB.out)⟩

end Go.Proofs.Ytnpibnjncjieaaa.Px

namespace Go.Proofs.Ytnpibnjncjieaaa.Px
open Fig Go.RowKit Go.Proofs.YtnpibnjncjieaaaW.PrintWords Go.Proofs.YtnpibnjncjieaaaW.PrintLast Go.Proofs.YtnpibnjncjieaaaW.PrintMore
attribute [local go_sem] max2_int min2_int max_two min_two max_three min_three max_four min_four   -- for this text's walks alone

/-! plain facts: figureheadref01_Plus -/
theorem dg_zero {s : ByteArray} {k : Nat} (h : s.size ≤ k) : dg s k = 0 := by unfold dg; rw [List.getElem?_eq_none (by rw [rs_len]; omega)]
theorem add_step (p q c : Nat) (hp : p ≤ 9) (hq : q ≤ 9) (hc : c ≤ 1) : wrap64 (wrap64 ((p : Int) + (q : Int)) + (c : Int)) = ((p + q + c : Nat) : Int) := by
  rw [w64 (x := (p : Int) + (q : Int)) (by omega) (by omega), w64 (by omega) (by omega)]; omega
theorem code_mod (n : Nat) (h : n ≤ 1000000000000000000) : (wrap64 (48 + Int.tmod (n : Int) 10)) % 256 = ((48 + n % 10 : Nat) : Int) := by
  rw [Int.tmod_eq_emod_of_nonneg (by omega), w64 (by omega) (by omega)]; omega
theorem code_div (n : Nat) (h : n ≤ 1000000000000000000) : wrap64 (Int.tdiv (n : Int) 10) = ((n / 10 : Nat) : Int) := by
  rw [Int.tdiv_eq_ediv_of_nonneg (by omega), w64 (by omega) (by omega)]; omega
theorem plus_sum (p q c X Y : Nat) : c + (p + 10 * X) + (q + 10 * Y) = (p + q + c) % 10 + 10 * ((p + q + c) / 10 + X + Y) := by omega
theorem Plus_loop (a b : ByteArray) (ha : dB a = true) (hb : dB b = true) (m : Nat) (la : a.size ≤ m) (lb : b.size ≤ m) (hm : m ≤ 100000000000) : ∀ (d k : Nat) (x : List Int) (c : Nat), m + 1 - k = d → k ≤ m + 1 → (k = m + 1 → c = 0) → c ≤ 1 → x.length = k → digL (ob x) = true →
    Ev (fun j => figureheadref01_Plus.l0 j a b x (c : Int) (k : Int)) (digB (rv (ob x) + 10 ^ k * (c + rv ((rs a).drop k) + rv ((rs b).drop k)))) := by
  intro d
  induction d with
  | zero =>
    intro k x c h1 h2 h3 hc hx hd
    obtain rfl := h3 (by omega)
    refine evIs (Ev.step (f := fun j => (figureheadref01_Plus.j1 j a b x ((0 : Nat) : Int) (k : Int) false)) (fun j => ?_) (Ev.step (fun j => ?_) (turnedStrip_ev (by omega) hd))) ?_
    · simp only [figureheadref01_Plus.l0]; rw [if_neg (by omega), if_neg (by omega), show decide (((0 : Nat) : Int) > 0) = false from rfl]
    · simp only [figureheadref01_Plus.j1]; rw [if_neg (by simp)]
    · rw [rv_rest_end (by omega), rv_rest_end (by omega)]; simp
  | succ d ih =>
    intro k x c h1 h2 h3 hc hx hd
    by_cases hgo : k < a.size ∨ k < b.size ∨ 0 < c
    · have da := dg_le ha k
      have db := dg_le hb k
      have hj : ∀ j, figureheadref01_Plus.l0 (j + 1) a b x (c : Int) (k : Int) = figureheadref01_Plus.j1 j a b x (c : Int) (k : Int) true := by
        intro j
        simp only [figureheadref01_Plus.l0]
        by_cases g1 : k < a.size
        · rw [if_pos (by omega)]
        · rw [if_neg (by omega)]
          by_cases g2 : k < b.size
          · rw [if_pos (by omega)]
          · rw [if_neg (by omega), show decide ((c : Int) > 0) = true by rw [decide_eq_true_eq]; omega]
      have h10 : k = m → dg a k = 0 ∧ dg b k = 0 := fun e => ⟨dg_zero (by omega), dg_zero (by omega)⟩
      have hn0 : k = m → (dg a k + dg b k + c) / 10 = 0 := fun e => by have := h10 e; omega
      have hn1 : (dg a k + dg b k + c) / 10 ≤ 1 := by omega
      obtain ⟨o1, o2⟩ := ob_snoc x (c := (dg a k + dg b k + c) % 10) (by omega) hd
      refine Ev.step hj (Ev.step (f := fun j => figureheadref01_Plus.l0 j a b (x ++ [((48 + (dg a k + dg b k + c) % 10 : Nat) : Int)]) (((dg a k + dg b k + c) / 10 : Nat) : Int) ((k + 1 : Nat) : Int)) (fun j => ?_) ?_)
      · simp only [figureheadref01_Plus.j1, if_true]
        rw [digit_eq ha (by omega) (by omega), digit_eq hb (by omega) (by omega)]
        simp only [Option.bind_some]
        rw [if_pos (by omega), add_step _ _ _ da db hc, code_mod _ (by omega), code_div _ (by omega), w64 (by omega) (by omega)]; rfl
      · refine evIs (ih (k + 1) _ _ (by omega) (by omega) (fun e => hn0 (by omega)) hn1 (by simp [hx]) o1) ?_
        rw [o2, rv_rest a k, rv_rest b k, hx, Nat.pow_succ, plus_sum, Nat.mul_add (10 ^ k) ((dg a k + dg b k + c) % 10), ← Nat.mul_assoc, Nat.add_assoc]
    · have hc0 : c = 0 := by omega
      subst hc0
      refine evIs (Ev.step (f := fun j => (figureheadref01_Plus.j1 j a b x ((0 : Nat) : Int) (k : Int) false)) (fun j => ?_) (Ev.step (fun j => ?_) (turnedStrip_ev (by omega) hd))) ?_
      · simp only [figureheadref01_Plus.l0]; rw [if_neg (by omega), if_neg (by omega), show decide (((0 : Nat) : Int) > 0) = false from rfl]
      · simp only [figureheadref01_Plus.j1]; rw [if_neg (by simp)]
      · rw [rv_rest_end (by omega), rv_rest_end (by omega)]; simp
theorem Plus_ev {a b : ByteArray} (ha : dB a = true) (hb : dB b = true) (la : a.size ≤ 100000000000) (lb : b.size ≤ 100000000000) : Ev (fun k => figureheadref01_Plus.f k a b) (digB (vB a + vB b)) := by
  refine evIs (Plus_loop a b ha hb (max a.size b.size) (by omega) (by omega) (by omega) _ 0 [] 0 rfl (by omega) (by omega) (by omega) rfl rfl) ?_
  simp [ob, rv, vB, rs]

end Go.Proofs.Ytnpibnjncjieaaa.Px

namespace Go.Proofs.Ytnpibnjncjieaaa.Px
open Fig Go.RowKit Go.Proofs.YtnpibnjncjieaaaW.PrintWords Go.Proofs.YtnpibnjncjieaaaW.PrintLast Go.Proofs.YtnpibnjncjieaaaW.PrintMore
attribute [local go_sem] max2_int min2_int max_two min_two max_three min_three max_four min_four   -- for this text's walks alone

/-! ### figureheadref01_Times: function 18 -/
mutual
def figureheadref01_Times.l0 : Nat → ByteArray → ByteArray → List Int → Int → Option (ByteArray)
  | 0, _, _, _, _ => none
  | k + 1, x0, x1, x5, x6 => if x6 < (x0.size : Int) then (figureheadref01_Times.l1 k x0 x1 x5 x6 0) else (figureheadref01_Times.l2 k x5 ([] : List Int) 0 0)
def figureheadref01_Times.l1 : Nat → ByteArray → ByteArray → List Int → Int → Int → Option (ByteArray)
  | 0, _, _, _, _, _ => none
  | k + 1, x0, x1, x5, x6, x7 => if x7 < (x1.size : Int) then (if 0 ≤ (wrap64 (x6 + x7)) then (if (wrap64 (x6 + x7)) < (x5.length : Int) then ((figureheadref01_digit.f x0 x6).bind fun t303 => ((figureheadref01_digit.f x1 x7).bind fun t304 => (figureheadref01_Times.l1 k x0 x1 (x5.set ((wrap64 (x6 + x7)) : Int).toNat (wrap64 ((rd x5 (wrap64 (x6 + x7))) + (wrap64 (t303 * t304))))) x6 (wrap64 (x7 + 1))))) else (none)) else (none)) else (figureheadref01_Times.l0 k x0 x1 x5 (wrap64 (x6 + 1)))
def figureheadref01_Times.l2 : Nat → List Int → List Int → Int → Int → Option (ByteArray)
  | 0, _, _, _, _ => none
  | k + 1, x5, x8, x9, x10 => if x10 < (x5.length : Int) then (if 0 ≤ x10 then (if x8.length < 140737488355328 then (figureheadref01_Times.l2 k x5 (x8 ++ [(wrap64 (48 + (Int.tmod (wrap64 ((rd x5 x10) + x9)) 10))) % 256]) (wrap64 (Int.tdiv (wrap64 ((rd x5 x10) + x9)) 10)) (wrap64 (x10 + 1))) else (none)) else (none)) else ((figureheadref01_turned.f k x8).bind fun t310 => ((figureheadref01_Strip.f k t310).bind fun t311 => (some t311)))
end
def figureheadref01_Times.f (k : Nat) (a0 : ByteArray) (a1 : ByteArray) : Option (ByteArray) := if 0 ≤ (wrap64 ((wrap64 ((a0.size : Int) + (a1.size : Int))) + 1)) then (if (wrap64 ((wrap64 ((a0.size : Int) + (a1.size : Int))) + 1) : Int).toNat ≤ 35184372088832 then (figureheadref01_Times.l0 k a0 a1 (List.replicate (wrap64 ((wrap64 ((a0.size : Int) + (a1.size : Int))) + 1) : Int).toNat 0) 0) else (none)) else (none)
theorem figureheadref01_Times.mono_l : ∀ k, (∀ y0 y1 y2 y3, LeO (figureheadref01_Times.l0 k y0 y1 y2 y3) (figureheadref01_Times.l0 (k + 1) y0 y1 y2 y3)) ∧ (∀ y0 y1 y2 y3 y4, LeO (figureheadref01_Times.l1 k y0 y1 y2 y3 y4) (figureheadref01_Times.l1 (k + 1) y0 y1 y2 y3 y4)) ∧ (∀ y0 y1 y2 y3, LeO (figureheadref01_Times.l2 k y0 y1 y2 y3) (figureheadref01_Times.l2 (k + 1) y0 y1 y2 y3))
  | 0 => ⟨fun _ _ _ _ r h => by simp [figureheadref01_Times.l0] at h, fun _ _ _ _ _ r h => by simp [figureheadref01_Times.l1] at h, fun _ _ _ _ r h => by simp [figureheadref01_Times.l2] at h⟩
  | k + 1 => by
    obtain ⟨ih0, ih1, ih2⟩ := figureheadref01_Times.mono_l k
    refine ⟨?_, ?_, ?_⟩
    · intro y0 y1 y2 y3
      unfold figureheadref01_Times.l0
      repeat' first
      | (with_reducible exact ih0 _ _ _ _)
      | (with_reducible exact ih1 _ _ _ _ _)
      | (with_reducible exact ih2 _ _ _ _)
      | (with_reducible exact figureheadref01_Strip.mono _ _)
      | (with_reducible exact figureheadref01_turned.mono _ _)
      | (with_reducible exact LeO.refl _)
      | (with_reducible exact LeO.none _)
      | (with_reducible refine LeO.ite ?_ ?_)
      | (with_reducible refine LeO.bind ?_ (fun _ => ?_))
      | exact ih0 _ _ _ _
      | exact ih1 _ _ _ _ _
      | exact ih2 _ _ _ _
      | exact figureheadref01_Strip.mono _ _
      | exact figureheadref01_turned.mono _ _
      | exact LeO.none _
      | refine LeO.ite ?_ ?_
      | refine LeO.bind ?_ (fun _ => ?_)
    · intro y0 y1 y2 y3 y4
      unfold figureheadref01_Times.l1
      repeat' first
      | (with_reducible exact ih0 _ _ _ _)
      | (with_reducible exact ih1 _ _ _ _ _)
      | (with_reducible exact ih2 _ _ _ _)
      | (with_reducible exact figureheadref01_Strip.mono _ _)
      | (with_reducible exact figureheadref01_turned.mono _ _)
      | (with_reducible exact LeO.refl _)
      | (with_reducible exact LeO.none _)
      | (with_reducible refine LeO.ite ?_ ?_)
      | (with_reducible refine LeO.bind ?_ (fun _ => ?_))
      | exact ih0 _ _ _ _
      | exact ih1 _ _ _ _ _
      | exact ih2 _ _ _ _
      | exact figureheadref01_Strip.mono _ _
      | exact figureheadref01_turned.mono _ _
      | exact LeO.none _
      | refine LeO.ite ?_ ?_
      | refine LeO.bind ?_ (fun _ => ?_)
    · intro y0 y1 y2 y3
      unfold figureheadref01_Times.l2
      repeat' first
      | (with_reducible exact ih0 _ _ _ _)
      | (with_reducible exact ih1 _ _ _ _ _)
      | (with_reducible exact ih2 _ _ _ _)
      | (with_reducible exact figureheadref01_Strip.mono _ _)
      | (with_reducible exact figureheadref01_turned.mono _ _)
      | (with_reducible exact LeO.refl _)
      | (with_reducible exact LeO.none _)
      | (with_reducible refine LeO.ite ?_ ?_)
      | (with_reducible refine LeO.bind ?_ (fun _ => ?_))
      | exact ih0 _ _ _ _
      | exact ih1 _ _ _ _ _
      | exact ih2 _ _ _ _
      | exact figureheadref01_Strip.mono _ _
      | exact figureheadref01_turned.mono _ _
      | exact LeO.none _
      | refine LeO.ite ?_ ?_
      | refine LeO.bind ?_ (fun _ => ?_)
theorem figureheadref01_Times.mono : ∀ a0 a1 k, LeO (figureheadref01_Times.f k a0 a1) (figureheadref01_Times.f (k + 1) a0 a1) := by
  intro a0 a1 k
  obtain ⟨ih0, ih1, ih2⟩ := figureheadref01_Times.mono_l k
  unfold figureheadref01_Times.f
  repeat' first
      | (with_reducible exact ih0 _ _ _ _)
      | (with_reducible exact ih1 _ _ _ _ _)
      | (with_reducible exact ih2 _ _ _ _)
      | (with_reducible exact figureheadref01_Strip.mono _ _)
      | (with_reducible exact figureheadref01_turned.mono _ _)
      | (with_reducible exact LeO.refl _)
      | (with_reducible exact LeO.none _)
      | (with_reducible refine LeO.ite ?_ ?_)
      | (with_reducible refine LeO.bind ?_ (fun _ => ?_))
      | exact ih0 _ _ _ _
      | exact ih1 _ _ _ _ _
      | exact ih2 _ _ _ _
      | exact figureheadref01_Strip.mono _ _
      | exact figureheadref01_turned.mono _ _
      | exact LeO.none _
      | refine LeO.ite ?_ ?_
      | refine LeO.bind ?_ (fun _ => ?_)
def figureheadref01_Times.T8 : Bool × List (List Nat × List Nat) := (true, [([], []), ([], []), ([], []), ([1, 2], [1, 2]), ([], []), ([], []), ([], []), ([5, 6], [5, 6]), ([4, 7], [4, 7]), ([8], [8]), ([], []), ([], []), ([10, 11], [10, 11]), ([], []), ([], []), ([13, 14, 12], [13, 14]), ([12, 15], [12, 15]), ([9, 16], [9, 16]), ([0, 3, 0, 1, 2, 3, 4, 5, 6, 7, 8, 9, 10, 11, 12, 13, 14, 15, 16, 17], [0, 3]), ([18, 17, 15, 0, 1, 2, 3, 4, 5, 6, 7, 8, 9, 10, 11, 12, 13, 14, 15, 16, 17], [17, 18])])
def figureheadref01_Times.B8 : List Nat := [0, 0, 0, 6, 0, 0, 0, 96, 240, 496, 0, 0, 3072, 0, 0, 31744, 64512, 131056, 262143, 524287]
theorem figureheadref01_Times.tab8 : rtab .any (opsOf Try.f18 8) = figureheadref01_Times.T8 := by kernel_rfl
theorem figureheadref01_Times.bits8 : waitsOk figureheadref01_Times.T8.2 figureheadref01_Times.B8 = true := by kernel_rfl
set_option maxHeartbeats 8000000 in
set_option maxRecDepth 100000 in
theorem figureheadref01_Times.calls (k : Nat) (a0 : ByteArray) (a1 : ByteArray) (r : ByteArray) (w : World) (h : figureheadref01_Times.f k a0 a1 = some r) :
    Calls Try.prog 18 #[.string a0, .string a1] w fun e w' => e = .returned (.string r) ∧ Below w.heap.size w w' := by
  have HB := Aside0.mk (Below.refl w.heap.size w)
  have H : (if 0 ≤ (wrap64 ((wrap64 ((a0.size : Int) + (a1.size : Int))) + 1)) then (if (wrap64 ((wrap64 ((a0.size : Int) + (a1.size : Int))) + 1) : Int).toNat ≤ 35184372088832 then (figureheadref01_Times.l0 k a0 a1 (List.replicate (wrap64 ((wrap64 ((a0.size : Int) + (a1.size : Int))) + 1) : Int).toNat 0) 0) else (none)) else (none)) = some r := h
  clear h
  obtain ⟨ji3, hji3⟩ : ∃ j_ : Int, (wrap64 ((wrap64 ((a0.size : Int) + (a1.size : Int))) + 1)) = j_ := ⟨_, rfl⟩
  replace H : (if 0 ≤ (ji3) then (if (ji3 : Int).toNat ≤ 35184372088832 then (figureheadref01_Times.l0 k a0 a1 (List.replicate (ji3 : Int).toNat 0) 0) else (none)) else (none)) = some r := by first | (rw [hji3] at H; exact H) | (simp only [hji3] at H ⊢; exact H)
  have hji3w : (IntKind.i64.wrap ((wrap64 ((a0.size : Int) + (a1.size : Int))) + 1)) = ji3 := (i64_w _).trans hji3
  by_cases c4 : 0 ≤ (ji3)
  · rw [if_pos c4] at H
    have c4b0 := eq_true c4
    have c4b1 : decide (0 ≤ (ji3)) = true := decide_eq_true c4
    clear c4
    by_cases c5 : (ji3 : Int).toNat ≤ 35184372088832
    · rw [if_pos c5] at H
      have c5b0 := eq_true c5
      have c5b1 : decide ((ji3 : Int).toNat ≤ 35184372088832) = true := decide_eq_true c5
      clear c5
      obtain ⟨y299, hy299⟩ : ∃ y_ : List Int, y_ = (List.replicate (ji3 : Int).toNat 0) := ⟨_, rfl⟩
      replace H : (figureheadref01_Times.l0 k a0 a1 y299 0) = some r := by first | (rw [hy299]; with_reducible exact H) | (have H2_ := (Option.bind_some _ _).symm.trans H; rw [hy299]; with_reducible exact H2_) | (have H2_ := (Option.bind_some _ _).symm.trans H; with_reducible exact H2_) | with_reducible exact H | (rw [hy299]; exact H) | exact H
      have Ny299 := Aside0.mk hy299
      clear hy299
      have H' := Aside0.mk H
      clear H
      go_enter Try.func18, Try.ntmps18
      go_wp2_with (first | ((with_reducible refine gate_dst (N := 18) rfl ?_); refine Kd.R_make (Kd.int .i64) _ 3 rfl (N := 18) rfl 50 _ _ rfl ji3 rfl rfl Try.underlying50 (.int .i64 0) 8 info3 rfl (by decide) (by omega) 0 (ok := fun _ => True) (okp := fun _ => True) rfl (fun _ hk => hk) trivial (of_decide_eq_true (by first | (with_reducible assumption) | assumption)) (Nat.le_trans (Nat.mul_le_mul_right _ (of_decide_eq_true (by first | (with_reducible assumption) | assumption) : ji3.toNat ≤ 35184372088832)) (by omega)) (Below.refl _ _) (Nat.le_refl _) ?_; intro v300 w6 ho7 hb hg_ hnew_; clear hg_ hnew_; (first | rw [← Ny299.out] at ho7 | (simp only [Int.reduceToNat] at ho7; rw [← Ny299.out] at ho7)); have n0_ := Aside0.mk (Kd.R_lower ho7 (below_size (by repeat (first | (with_reducible first | exact HB.out | apply below_alloc | apply pw_below_drewN | apply below_drew1) | exact HB.out)))); have n1_ := Aside0.mk (below_step (by repeat (first | (with_reducible first | exact HB.out | apply below_alloc | apply pw_below_drewN | apply below_drew1) | exact HB.out)) hb); clear HB; have HO301 := n0_; have HB := n1_; clear n0_ n1_; clear hb ho7))
      go_loopg [6] k (fun kq v6 w' => ∃ (x5_1 : List Int) (x6_1 : Int), v6 = .int .i64 x6_1 ∧ Aside0 (figureheadref01_Times.l0 kq a0 a1 x5_1 x6_1 = some r) ∧ Aside0 (kq ≤ k) ∧ Aside0 (Kd.R (Kd.int .i64) 3 w' w.heap.size (fun _ => True) v300 x5_1) ∧ Aside0 (Below w.heap.size w w'))
      case atStart => exact ⟨(y299), (0), (by first | rfl | (simp; done) | (simp [*]; done) | (simp [*, Fig.bne_nil]; done)), H', ⟨Nat.le_refl _⟩, ⟨by (with_reducible repeat (first | apply Kd.R_alloc | apply Kd.R_drewN | apply Kd.R_drew)); exact HO301.out⟩, ⟨by repeat (first | (with_reducible first | exact HB.out | apply below_alloc | apply pw_below_drewN | apply below_drew1) | exact HB.out)⟩⟩
      case round =>
        clear H'
        try clear c1
        try clear p2
        try clear c4
        try clear c4b0
        try clear c4b1
        try clear c5
        try clear c5b0
        try clear c5b1
        try clear p6
        obtain ⟨x5_1, x6_1, rfl, HA, HK1, HO_5, HB⟩ := hrel
        cases gk with
        | zero => exact absurd HA.out (by simp [figureheadref01_Times.l0])
        | succ k1 =>
          have H := HA.out
          clear HA
          simp only [figureheadref01_Times.l0] at H
          by_cases c8 : x6_1 < (a0.size : Int)
          · rw [if_pos c8] at H
            have c8b0 : decide (x6_1 < (a0.size : Int)) = true := decide_eq_true c8
            clear c8
            have H' := Aside0.mk H
            clear H
            go_wp2
            go_loopg [7] k1 (fun kq v7 w' => ∃ (x5_2 : List Int) (x7_2 : Int), v7 = .int .i64 x7_2 ∧ Aside0 (figureheadref01_Times.l1 kq a0 a1 x5_2 x6_1 x7_2 = some r) ∧ Aside0 (kq ≤ k1) ∧ Aside0 (Kd.R (Kd.int .i64) 3 w' w.heap.size (fun _ => True) v300 x5_2) ∧ Aside0 (Below w.heap.size w w'))
            case atStart => exact ⟨(x5_1), (0), (by first | rfl | (simp; done) | (simp [*]; done) | (simp [*, Fig.bne_nil]; done)), H', ⟨Nat.le_refl _⟩, ⟨by (with_reducible repeat (first | apply Kd.R_alloc | apply Kd.R_drewN | apply Kd.R_drew)); exact HO_5.out⟩, ⟨by repeat (first | (with_reducible first | exact HB.out | apply below_alloc | apply pw_below_drewN | apply below_drew1) | exact HB.out)⟩⟩
            case round =>
              clear H'
              try clear c1
              try clear p2
              try clear c4
              try clear c4b0
              try clear c4b1
              try clear c5
              try clear c5b0
              try clear c5b1
              try clear p6
              try clear c8
              try clear c8b0
              try clear p2
              try clear p6
              obtain ⟨x5_2, x7_2, rfl, HA, HK2, HO_5, HB⟩ := hrel
              cases gk with
              | zero => exact absurd HA.out (by simp [figureheadref01_Times.l1])
              | succ k2 =>
                have H := HA.out
                clear HA
                simp only [figureheadref01_Times.l1] at H
                by_cases c9 : x7_2 < (a1.size : Int)
                · rw [if_pos c9] at H
                  have c9b0 : decide (x7_2 < (a1.size : Int)) = true := decide_eq_true c9
                  clear c9
                  obtain ⟨ji10, hji10⟩ : ∃ j_ : Int, (wrap64 (x6_1 + x7_2)) = j_ := ⟨_, rfl⟩
                  replace H : (if 0 ≤ (ji10) then (if (ji10) < (x5_2.length : Int) then ((figureheadref01_digit.f a0 x6_1).bind fun t303 => ((figureheadref01_digit.f a1 x7_2).bind fun t304 => (figureheadref01_Times.l1 k2 a0 a1 (x5_2.set ((ji10) : Int).toNat (wrap64 ((rd x5_2 (ji10)) + (wrap64 (t303 * t304))))) x6_1 (wrap64 (x7_2 + 1))))) else (none)) else (none)) = some r := by first | (rw [hji10] at H; exact H) | (simp only [hji10] at H ⊢; exact H)
                  have hji10w : (IntKind.i64.wrap (x6_1 + x7_2)) = ji10 := (i64_w _).trans hji10
                  by_cases c11 : 0 ≤ (ji10)
                  · rw [if_pos c11] at H
                    have c11b0 : decide (0 ≤ (ji10)) = true := decide_eq_true c11
                    clear c11
                    by_cases c12 : (ji10) < (x5_2.length : Int)
                    · rw [if_pos c12] at H
                      have c12b0 : decide ((ji10) < (x5_2.length : Int)) = true := decide_eq_true c12
                      clear c12
                      replace H := Option.bind_eq_some_iff.mp H
                      obtain ⟨t303, A130, H⟩ := H
                      replace H : ((figureheadref01_digit.f a1 x7_2).bind fun t304 => (figureheadref01_Times.l1 k2 a0 a1 (x5_2.set ((ji10) : Int).toNat (wrap64 ((rd x5_2 (ji10)) + (wrap64 (t303 * t304))))) x6_1 (wrap64 (x7_2 + 1)))) = some r := H
                      have A13 := Aside0.mk A130
                      clear A130
                      replace H := Option.bind_eq_some_iff.mp H
                      obtain ⟨t304, A140, H⟩ := H
                      replace H : (figureheadref01_Times.l1 k2 a0 a1 (x5_2.set ((ji10) : Int).toNat (wrap64 ((rd x5_2 (ji10)) + (wrap64 (t303 * t304))))) x6_1 (wrap64 (x7_2 + 1))) = some r := H
                      have A14 := Aside0.mk A140
                      clear A140
                      obtain ⟨y305, hy305⟩ : ∃ y_ : List Int, y_ = (x5_2.set ((ji10) : Int).toNat (wrap64 ((rd x5_2 (ji10)) + (wrap64 (t303 * t304))))) := ⟨_, rfl⟩
                      replace H : (figureheadref01_Times.l1 k2 a0 a1 y305 x6_1 (wrap64 (x7_2 + 1))) = some r := by first | (rw [hy305]; with_reducible exact H) | (have H2_ := (Option.bind_some _ _).symm.trans H; rw [hy305]; with_reducible exact H2_) | (have H2_ := (Option.bind_some _ _).symm.trans H; with_reducible exact H2_) | with_reducible exact H | (rw [hy305]; exact H) | exact H
                      have Ny305 := Aside0.mk hy305
                      clear hy305
                      have H' := Aside0.mk H
                      clear H
                      try go_wp2
                      have n0_ := Aside0.mk (Kd.R_drew HO_5.out)
                      have n1_ := Aside0.mk (below_drew1 HB.out)
                      clear HO_5
                      clear HB
                      have HO_5 := n0_
                      have HB := n1_
                      clear n0_ n1_
                      obtain ⟨Ao17, co17, eo17⟩ := Kd.R_slice HO_5.out
                      (first | subst eo17 | (injection eo17 with f1_ f2_ f3_; have f4_ := f1_.symm; have f5_ := f3_.symm; clear f1_ f2_ f3_; subst f4_; subst f5_))
                      have p302 : 0 ≤ ((ji10) : Int) := of_decide_eq_true (by first | (with_reducible assumption) | assumption)
                      have q302 : (ji10) < (x5_2.length : Int) := of_decide_eq_true (by first | (with_reducible assumption) | assumption)
                      obtain ⟨ad302, e302, hx302_0⟩ := Kd.at_int (Kd.R_reads' HO_5.out).2.2 (ji10) p302 q302
                      cases e302
                      replace p302 := eq_true p302
                      replace q302 := eq_true q302
                      refine start_ (n := 20) (S := fun w' => w'.cell? (ad302.add ((ji10)).toNat) = some (.int .i64 (rd x5_2 (ji10)))) (ds := [19]) #[false, false, false, false, false, false, false, false, false, false, false, false, false, false, false, false, false, false, false, false] (by kernel_rfl) rfl rfl (hx302_0) (fun hHeld => ?_); refine with_tabW figureheadref01_Times.tab8 figureheadref01_Times.bits8 (fun HT_ HW_ => ?_)
                      generalize wr.drew = w16 at HO_5 HB hx302_0 hHeld ⊢
                      refine pure_ (i := 0) (N := some 31) (v := ?_) (a' := ?_) #[true, false, false, false, false, false, false, false, false, false, false, false, false, false, false, false, false, false, false, false] rfl rfl (any_of HT_.out (by kernel_rfl)) (fun _ _ _ h => h) (Or.inl ⟨by rfl, ?_⟩) ?_ ?_
                      rotate_left
                      · intro w'
                        go_simp
                        with_reducible rfl
                      rotate_left
                      · simp only [Act.put, List.setIfInBounds_toArray, List.set_cons_zero, List.set_cons_succ, i64_w, i32_w]
                        rfl
                      refine pure_ (i := 1) (N := some 32) (v := ?_) (a' := ?_) #[true, true, false, false, false, false, false, false, false, false, false, false, false, false, false, false, false, false, false, false] rfl rfl (any_of HT_.out (by kernel_rfl)) (fun _ _ _ h => h) (Or.inl ⟨by rfl, ?_⟩) ?_ ?_
                      rotate_left
                      · intro w'
                        go_simp
                        with_reducible rfl
                      rotate_left
                      · simp only [Act.put, List.setIfInBounds_toArray, List.set_cons_zero, List.set_cons_succ, i64_w, i32_w]
                        rfl
                      refine pure_ (i := 2) (N := some 33) (v := ?_) (a' := ?_) #[true, true, true, false, false, false, false, false, false, false, false, false, false, false, false, false, false, false, false, false] rfl rfl (any_of HT_.out (by kernel_rfl)) (fun _ _ _ h => h) (Or.inl ⟨by rfl, ?_⟩) ?_ ?_
                      rotate_left
                      · intro w'
                        go_simp
                        with_reducible rfl
                      rotate_left
                      · simp only [Act.put, List.setIfInBounds_toArray, List.set_cons_zero, List.set_cons_succ, i64_w, i32_w]
                        rfl
                      refine pure_ (i := 3) (N := some 34) (v := ?_) (a' := ?_) #[true, true, true, true, false, false, false, false, false, false, false, false, false, false, false, false, false, false, false, false] rfl rfl (any_of HT_.out (by kernel_rfl)) (fun _ _ _ h => h) (Or.inl ⟨by rfl, ?_⟩) ?_ ?_
                      rotate_left
                      · intro w'
                        go_simp
                        with_reducible rfl
                      rotate_left
                      · simp only [Act.put, List.setIfInBounds_toArray, List.set_cons_zero, List.set_cons_succ, i64_w, i32_w]
                        rfl
                      refine pure_ (i := 4) (N := some 35) (v := ?_) (a' := ?_) #[true, true, true, true, true, false, false, false, false, false, false, false, false, false, false, false, false, false, false, false] rfl rfl (any_of HT_.out (by kernel_rfl)) (fun _ _ _ h => h) (Or.inl ⟨by rfl, ?_⟩) ?_ ?_
                      rotate_left
                      · intro w'
                        go_simp
                        with_reducible rfl
                      rotate_left
                      · simp only [Act.put, List.setIfInBounds_toArray, List.set_cons_zero, List.set_cons_succ, i64_w, i32_w]
                        rfl
                      refine pure_ (i := 5) (N := some 36) (v := ?_) (a' := ?_) #[true, true, true, true, true, true, false, false, false, false, false, false, false, false, false, false, false, false, false, false] rfl rfl (any_of HT_.out (by kernel_rfl)) (fun _ _ _ h => h) (Or.inl ⟨by rfl, ?_⟩) ?_ ?_
                      rotate_left
                      · intro w'
                        go_simp
                        with_reducible rfl
                      rotate_left
                      · simp only [Act.put, List.setIfInBounds_toArray, List.set_cons_zero, List.set_cons_succ, i64_w, i32_w]
                        rfl
                      refine pure_ (i := 6) (N := some 37) (v := ?_) (a' := ?_) #[true, true, true, true, true, true, true, false, false, false, false, false, false, false, false, false, false, false, false, false] rfl rfl (any_of HT_.out (by kernel_rfl)) (fun _ _ _ h => h) (Or.inl ⟨by rfl, ?_⟩) ?_ ?_
                      rotate_left
                      · intro w'
                        go_simp
                        with_reducible rfl
                      rotate_left
                      · simp only [Act.put, List.setIfInBounds_toArray, List.set_cons_zero, List.set_cons_succ, i64_w, i32_w]
                        rfl
                      refine pure_ (i := 7) (N := some 38) (v := ?_) (a' := ?_) #[true, true, true, true, true, true, true, true, false, false, false, false, false, false, false, false, false, false, false, false] rfl rfl (any_of HT_.out (by kernel_rfl)) (fun _ _ _ h => h) (Or.inl ⟨by rfl, ?_⟩) ?_ ?_
                      rotate_left
                      · intro w'
                        go_simp
                        with_reducible rfl
                      rotate_left
                      · simp only [Act.put, List.setIfInBounds_toArray, List.set_cons_zero, List.set_cons_succ, i64_w, i32_w]
                        rfl
                      refine pure_ (i := 8) (N := some 39) (v := ?_) (a' := ?_) #[true, true, true, true, true, true, true, true, true, false, false, false, false, false, false, false, false, false, false, false] rfl rfl (any_of HT_.out (by kernel_rfl)) (fun _ _ _ h => h) (Or.inl ⟨by rfl, ?_⟩) ?_ ?_
                      rotate_left
                      · intro w'
                        go_simp
                        with_reducible rfl
                      rotate_left
                      · simp only [Act.put, List.setIfInBounds_toArray, List.set_cons_zero, List.set_cons_succ, i64_w, i32_w]
                        rfl
                      refine pure_ (i := 10) (N := some 41) (v := ?_) (a' := ?_) #[true, true, true, true, true, true, true, true, true, false, true, false, false, false, false, false, false, false, false, false] rfl rfl (any_of HT_.out (by kernel_rfl)) (fun _ _ _ h => h) (Or.inl ⟨by rfl, ?_⟩) ?_ ?_
                      rotate_left
                      · intro w'
                        go_simp
                        with_reducible rfl
                      rotate_left
                      · simp only [Act.put, List.setIfInBounds_toArray, List.set_cons_zero, List.set_cons_succ, i64_w, i32_w]
                        rfl
                      refine pure_ (i := 11) (N := some 42) (v := ?_) (a' := ?_) #[true, true, true, true, true, true, true, true, true, false, true, true, false, false, false, false, false, false, false, false] rfl rfl (any_of HT_.out (by kernel_rfl)) (fun _ _ _ h => h) (Or.inl ⟨by rfl, ?_⟩) ?_ ?_
                      rotate_left
                      · intro w'
                        go_simp
                        with_reducible rfl
                      rotate_left
                      · simp only [Act.put, List.setIfInBounds_toArray, List.set_cons_zero, List.set_cons_succ, i64_w, i32_w]
                        rfl
                      refine pure_ (i := 13) (N := some 44) (v := ?_) (a' := ?_) #[true, true, true, true, true, true, true, true, true, false, true, true, false, true, false, false, false, false, false, false] rfl rfl (any_of HT_.out (by kernel_rfl)) (fun _ _ _ h => h) (Or.inl ⟨by rfl, ?_⟩) ?_ ?_
                      rotate_left
                      · intro w'
                        go_simp
                        with_reducible rfl
                      rotate_left
                      · simp only [Act.put, List.setIfInBounds_toArray, List.set_cons_zero, List.set_cons_succ, i64_w, i32_w]
                        rfl
                      refine pure_ (i := 14) (N := some 45) (v := ?_) (a' := ?_) #[true, true, true, true, true, true, true, true, true, false, true, true, false, true, true, false, false, false, false, false] rfl rfl (any_of HT_.out (by kernel_rfl)) (fun _ _ _ h => h) (Or.inl ⟨by rfl, ?_⟩) ?_ ?_
                      rotate_left
                      · intro w'
                        go_simp
                        with_reducible rfl
                      rotate_left
                      · simp only [Act.put, List.setIfInBounds_toArray, List.set_cons_zero, List.set_cons_succ, i64_w, i32_w]
                        rfl
                      refine take_ (i := 9) (N := some 40) (v := ?_) (a' := ?_) #[true, true, true, true, true, true, true, true, true, true, true, true, false, true, true, false, false, false, false, false] rfl rfl (take_ofW HT_.out HW_.out (by kernel_rfl)) (fun _ _ _ h => h) (Or.inl ⟨by rfl, ?_⟩) hHeld ?_ ?_
                      rotate_left
                      · intro w' s0
                        go_simp
                        with_reducible rfl
                      rotate_left
                      · simp only [Act.put, List.setIfInBounds_toArray, List.set_cons_zero, List.set_cons_succ, i64_w, i32_w]
                        rfl
                      refine one_ (i := 12) (N := some 43) #[true, true, true, true, true, true, true, true, true, true, true, true, true, true, true, false, false, false, false, false] rfl rfl (one_of HT_.out (by kernel_rfl)) (by decide) (fun K hK => ?_)
                      refine goes_ Try.func24 (by kernel_rfl) rfl #[.string a0, .int .i64 x6_1] (by rfl) rfl rfl (by (try simp only [List.map_toArray, List.map_cons, List.map_nil]); first | done | rfl | (simp only [List.length_drop, List.length_take]; rfl)) ?_
                      with_reducible refine (figureheadref01_digit.calls a0 x6_1 t303 _ A13.out).mono ?_
                      rintro e w' ⟨rfl, ⟨nd, rfl⟩⟩
                      refine ⟨_, rfl, ?_⟩
                      refine hK.out _ _ (hHeld) (fun hHeld => ?_)
                      clear hK K
                      refine norm_ (a' := ?_) ?_ ?_
                      rotate_left
                      · show Act.put _ (some 43) _ = _
                        simp only [Act.put, List.setIfInBounds_toArray, List.set_cons_zero, List.set_cons_succ, i64_w, i32_w]
                        rfl
                      refine one_ (i := 15) (N := some 46) #[true, true, true, true, true, true, true, true, true, true, true, true, true, true, true, true, false, false, false, false] rfl rfl (one_of HT_.out (by kernel_rfl)) (by decide) (fun K hK => ?_)
                      refine goes_ Try.func24 (by kernel_rfl) rfl #[.string a1, .int .i64 x7_2] (by rfl) rfl rfl (by (try simp only [List.map_toArray, List.map_cons, List.map_nil]); first | done | rfl | (simp only [List.length_drop, List.length_take]; rfl)) ?_
                      with_reducible refine (figureheadref01_digit.calls a1 x7_2 t304 _ A14.out).mono ?_
                      rintro e w' ⟨rfl, ⟨nd, rfl⟩⟩
                      refine ⟨_, rfl, ?_⟩
                      have p15 : 0 ≤ ((ji10) : Int) := of_decide_eq_true (by first | (with_reducible assumption) | assumption)
                      have q15 : ((ji10) : Int) < ((x5_2.length : Int) : Int) := of_decide_eq_true (by first | (with_reducible assumption) | assumption)
                      obtain ⟨go15, co15, eo15, gb15, gl15, cl15, HG15⟩ := Kd.R_form HO_5.out (by omega)
                      (first | cases eo15 | (injection eo15 with ea_ en_ ec_; (first | subst ea_ | (injection ea_ with ea_; subst ea_)); subst ec_; clear en_))
                      have GB15 := Aside0.mk gb15
                      have GG15 := Aside0.mk HG15
                      clear gb15 gl15 HG15
                      (first | simp only [add_plain] at hx302_0 | skip)
                      obtain ⟨hx15_0, hf15_0⟩ := Kd.R_celln 0 HO_5.out ((ji10) : Int) p15 q15
                      replace p15 := eq_true p15
                      replace q15 := eq_true q15
                      have HP18 := Kd.R_putn HO_5.out ((ji10) : Int) (wrap64 ((rd x5_2 (ji10)) + (wrap64 (t303 * t304))))
                      rw [← Ny305.out] at HP18
                      have HQ18 := Aside0.mk HP18
                      clear HP18
                      refine hK.out _ _ (hHeld) (fun hHeld => ?_)
                      clear hK K
                      refine norm_ (a' := ?_) ?_ ?_
                      rotate_left
                      · show Act.put _ (some 46) _ = _
                        simp only [Act.put, List.setIfInBounds_toArray, List.set_cons_zero, List.set_cons_succ, i64_w, i32_w]
                        rfl
                      refine pure_ (i := 16) (N := some 47) (v := ?_) (a' := ?_) #[true, true, true, true, true, true, true, true, true, true, true, true, true, true, true, true, true, false, false, false] rfl rfl (any_of HT_.out (by kernel_rfl)) (fun _ _ _ h => h) (Or.inl ⟨by rfl, ?_⟩) ?_ ?_
                      rotate_left
                      · intro w'
                        go_simp
                        with_reducible rfl
                      rotate_left
                      · simp only [Act.put, List.setIfInBounds_toArray, List.set_cons_zero, List.set_cons_succ, i64_w, i32_w]
                        rfl
                      refine pure_ (i := 17) (N := some 48) (v := ?_) (a' := ?_) #[true, true, true, true, true, true, true, true, true, true, true, true, true, true, true, true, true, true, false, false] rfl rfl (any_of HT_.out (by kernel_rfl)) (fun _ _ _ h => h) (Or.inl ⟨by rfl, ?_⟩) ?_ ?_
                      rotate_left
                      · intro w'
                        go_simp
                        with_reducible rfl
                      rotate_left
                      · simp only [Act.put, List.setIfInBounds_toArray, List.set_cons_zero, List.set_cons_succ, i64_w, i32_w]
                        rfl
                      refine pure_ (i := 18) (N := some 49) (v := ?_) (a' := ?_) #[true, true, true, true, true, true, true, true, true, true, true, true, true, true, true, true, true, true, true, false] rfl rfl (any_of HT_.out (by kernel_rfl)) (fun _ _ _ h => h) (Or.inl ⟨by rfl, ?_⟩) ?_ ?_
                      rotate_left
                      · intro w'
                        go_simp
                        with_reducible rfl
                      rotate_left
                      · simp only [Act.put, List.setIfInBounds_toArray, List.set_cons_zero, List.set_cons_succ, i64_w, i32_w]
                        rfl
                      refine last_ (i := 19) (N := none) #[true, true, true, true, true, true, true, true, true, true, true, true, true, true, true, true, true, true, true, true] rfl rfl (one_of HT_.out (by kernel_rfl)) (by decide) (fun K hK => ?_)
                      refine skip_ (w1 := ?_) (by rfl) rfl ?_ ?_
                      rotate_left
                      · go_simp
                        rfl
                      refine hK.out _ _ ?_
                      clear hK K
                      refine done_ (done_of HT_.out (by kernel_rfl)) ?_
                      try go_wp2
                      go_roundg k2
                      case measure => have := HK1.out; have := HK2.out; omega
                      case rel => exact ⟨(y305), (wrap64 (x7_2 + 1)), (by first | rfl | (simp; done) | (simp [*]; done) | (simp [*, Fig.bne_nil]; done)), H', ⟨by have := HK1.out; have := HK2.out; omega⟩, ⟨by (with_reducible repeat (first | apply Kd.R_alloc | apply Kd.R_drewN | apply Kd.R_drew)); exact HQ18.out⟩, ⟨by repeat (first | (with_reducible first | exact HB.out | apply below_alloc | apply pw_below_drewN | apply below_drew1 | refine below_set ?_ GB15.out) | exact HB.out)⟩⟩
                    · rw [if_neg c12] at H
                      exact absurd H (by simp)
                  · rw [if_neg c11] at H
                    exact absurd H (by simp)
                · rw [if_neg c9] at H
                  have c9b0 : decide (x7_2 < (a1.size : Int)) = false := decide_eq_false c9
                  clear c9
                  have H' := Aside0.mk H
                  clear H
                  go_wp2
                  go_roundg k2
                  case measure => have := HK1.out; have := HK2.out; omega
                  case rel => exact ⟨(x5_2), (wrap64 (x6_1 + 1)), (by first | rfl | (simp; done) | (simp [*]; done) | (simp [*, Fig.bne_nil]; done)), H', ⟨by have := HK1.out; have := HK2.out; omega⟩, ⟨by (with_reducible repeat (first | apply Kd.R_alloc | apply Kd.R_drewN | apply Kd.R_drew)); exact HO_5.out⟩, ⟨by repeat (first | (with_reducible first | exact HB.out | apply below_alloc | apply pw_below_drewN | apply below_drew1) | exact HB.out)⟩⟩
          · rw [if_neg c8] at H
            have c8b0 : decide (x6_1 < (a0.size : Int)) = false := decide_eq_false c8
            clear c8
            have H' := Aside0.mk H
            clear H
            go_wp2
            go_loopg [8, 9, 10] k1 (fun kq v8 v9 v10 w' => ∃ (x8_2 : List Int) (x9_2 : Int) (x10_2 : Int), v9 = .int .i64 x9_2 ∧ v10 = .int .i64 x10_2 ∧ Aside0 (figureheadref01_Times.l2 kq x5_1 x8_2 x9_2 x10_2 = some r) ∧ Aside0 (kq ≤ k1) ∧ Aside0 (Kd.R (Kd.int .i64) 3 w' w.heap.size (fun _ => True) v300 x5_1) ∧ Aside0 (Kd.R (Kd.int .u8) 5 w' w.heap.size (fun _ => True) v8 x8_2) ∧ Aside0 (Below w.heap.size w w'))
            case atStart => exact ⟨(([] : List Int)), (0), (0), (by first | rfl | (simp; done) | (simp [*]; done) | (simp [*, Fig.bne_nil]; done)), (by first | rfl | (simp; done) | (simp [*]; done) | (simp [*, Fig.bne_nil]; done)), H', ⟨Nat.le_refl _⟩, ⟨by (with_reducible repeat (first | apply Kd.R_alloc | apply Kd.R_drewN | apply Kd.R_drew)); exact HO_5.out⟩, ⟨by first | exact Kd.R_nil _ _ _ _ _ | exact Kd.N_nil _ _ _ _ _ | exact Kd.V_nil _ _ _ _ _ | exact Kd.Q_nil _ _ _ _ _ | exact Kd.S_nil _ _ _ _ _⟩, ⟨by repeat (first | (with_reducible first | exact HB.out | apply below_alloc | apply pw_below_drewN | apply below_drew1) | exact HB.out)⟩⟩
            case round =>
              clear H'
              try clear c1
              try clear p1
              try clear q1
              try clear hx1
              try clear c2
              try clear p2
              try clear p3
              try clear q3
              try clear hx3
              try clear c4
              try clear c4b0
              try clear c4b1
              try clear c5
              try clear c5b0
              try clear c5b1
              try clear p6
              try clear c8
              try clear c8b0
              try clear c9
              try clear c9b0
              try clear c11
              try clear c11b0
              try clear c12
              try clear c12b0
              try clear p15
              try clear q15
              try clear hx15
              try clear hf15
              try clear c18
              try clear hx15_0
              try clear hx302_0
              try clear p15
              try clear p2
              try clear p302
              try clear p6
              try clear q15
              try clear q302
              obtain ⟨x8_2, x9_2, x10_2, rfl, rfl, HA, HK2, HO_5, HO_8, HB⟩ := hrel
              cases gk with
              | zero => exact absurd HA.out (by simp [figureheadref01_Times.l2])
              | succ k2 =>
                have H := HA.out
                clear HA
                simp only [figureheadref01_Times.l2] at H
                by_cases c19 : x10_2 < (x5_1.length : Int)
                · rw [if_pos c19] at H
                  have c19b0 : decide (x10_2 < (x5_1.length : Int)) = true := decide_eq_true c19
                  clear c19
                  by_cases c20 : 0 ≤ x10_2
                  · rw [if_pos c20] at H
                    have c20b0 : decide (0 ≤ x10_2) = true := decide_eq_true c20
                    clear c20
                    by_cases c21 : x8_2.length < 140737488355328
                    · rw [if_pos c21] at H
                      have LMc21 := Aside0.mk c21
                      clear c21
                      obtain ⟨y307, hy307⟩ : ∃ y_ : List Int, y_ = (x8_2 ++ [(wrap64 (48 + (Int.tmod (wrap64 ((rd x5_1 x10_2) + x9_2)) 10))) % 256]) := ⟨_, rfl⟩
                      replace H : (figureheadref01_Times.l2 k2 x5_1 y307 (wrap64 (Int.tdiv (wrap64 ((rd x5_1 x10_2) + x9_2)) 10)) (wrap64 (x10_2 + 1))) = some r := by first | (rw [hy307]; with_reducible exact H) | (have H2_ := (Option.bind_some _ _).symm.trans H; rw [hy307]; with_reducible exact H2_) | (have H2_ := (Option.bind_some _ _).symm.trans H; with_reducible exact H2_) | with_reducible exact H | (rw [hy307]; exact H) | exact H
                      have Ny307 := Aside0.mk hy307
                      clear hy307
                      have H' := Aside0.mk H
                      clear H
                      obtain ⟨Ao22, co22, eo22⟩ := Kd.R_slice HO_5.out
                      subst eo22
                      have p306 : 0 ≤ (x10_2 : Int) := of_decide_eq_true (by first | (with_reducible assumption) | assumption)
                      have q306 : x10_2 < (x5_1.length : Int) := of_decide_eq_true (by first | (with_reducible assumption) | assumption)
                      obtain ⟨ad306, e306, hx306_0⟩ := Kd.at_int (Kd.R_reads' HO_5.out).2.2 x10_2 p306 q306
                      cases e306
                      replace p306 := eq_true p306
                      replace q306 := eq_true q306
                      go_wp2_with (first | ((with_reducible refine gate_builtin (b := .append) (xs := #[.tmp 62, .tmp 67]) rfl ?_); at_builtin; refine Kd.R_append (Kd.int .u8) (w0 := w) w.heap.size rfl (.tmp 62) (.tmp 67) 45 5 (.int .u8 0) 1 rfl Try.underlying45 info5 rfl (by decide) (by omega) u8 x8_2 ((wrap64 (48 + (Int.tmod (wrap64 ((rd x5_1 x10_2) + x9_2)) 10))) % 256) [.int .u8 ((wrap64 (48 + (Int.tmod (wrap64 ((rd x5_1 x10_2) + x9_2)) 10))) % 256)] (fun _ => True) (fun _ => False) rfl rfl ?aP (fun _ hk => hk.elim) ?aF ?aO ?aB ?aS ?aL ?_; (case aP => exact rfl); (case aB => exact (by repeat (first | (with_reducible first | exact HB.out | apply below_alloc | apply pw_below_drewN | apply below_drew1) | exact HB.out))); (case aF => exact (fun _ _ => trivial)); (case aO => exact (by (with_reducible repeat (first | apply Kd.R_alloc | apply Kd.R_drewN | apply Kd.R_drew)); exact HO_8.out)); (case aS => exact (below_size (by repeat (first | (with_reducible first | exact HB.out | apply below_alloc | apply pw_below_drewN | apply below_drew1) | exact HB.out)))); (case aL => have := LMc21.out; omega); intro v308 w23 ho hb hg hat; rw [← Ny307.out] at ho; have n0_ := Aside0.mk (Kd.R_over' (by (with_reducible repeat (first | apply Kd.R_alloc | apply Kd.R_drewN | apply Kd.R_drew)); exact HO_5.out) (Kd.R_typed (by (with_reducible repeat (first | apply Kd.R_alloc | apply Kd.R_drewN | apply Kd.R_drew)); exact HO_8.out)) (by decide) hg); have n1_ := Aside0.mk (hb); have n2_ := Aside0.mk (ho); clear HO_5; clear HB; clear HO_8; have HO_5 := n0_; have HB := n1_; have HO309 := n2_; clear n0_ n1_ n2_; clear ho hb hg hat))
                      go_roundg k2
                      case measure => have := HK1.out; have := HK2.out; omega
                      case rel => exact ⟨(y307), (wrap64 (Int.tdiv (wrap64 ((rd x5_1 x10_2) + x9_2)) 10)), (wrap64 (x10_2 + 1)), (by first | rfl | (simp; done) | (simp [*]; done) | (simp [*, Fig.bne_nil]; done)), (by first | rfl | (simp; done) | (simp [*]; done) | (simp [*, Fig.bne_nil]; done)), H', ⟨by have := HK1.out; have := HK2.out; omega⟩, ⟨by (with_reducible repeat (first | apply Kd.R_alloc | apply Kd.R_drewN | apply Kd.R_drew)); exact HO_5.out⟩, ⟨by (with_reducible repeat (first | apply Kd.R_alloc | apply Kd.R_drewN | apply Kd.R_drew)); exact HO309.out⟩, ⟨by repeat (first | (with_reducible first | exact HB.out | apply below_alloc | apply pw_below_drewN | apply below_drew1) | exact HB.out)⟩⟩
                    · rw [if_neg c21] at H
                      exact absurd H (by simp)
                  · rw [if_neg c20] at H
                    exact absurd H (by simp)
                · rw [if_neg c19] at H
                  have c19b0 : decide (x10_2 < (x5_1.length : Int)) = false := decide_eq_false c19
                  clear c19
                  replace H := Option.bind_eq_some_iff.mp H
                  obtain ⟨t310, A240, H⟩ := H
                  replace H : ((figureheadref01_Strip.f k2 t310).bind fun t311 => (some t311)) = some r := H
                  have A24 := Aside0.mk A240
                  clear A240
                  replace H := Option.bind_eq_some_iff.mp H
                  obtain ⟨t311, A250, H⟩ := H
                  replace H : (some t311) = some r := H
                  have A25 := Aside0.mk A250
                  clear A250
                  obtain rfl := Option.some.inj H
                  obtain ⟨Ao26, co26, eo26⟩ := Kd.R_slice HO_5.out
                  subst eo26
                  obtain ⟨Ao27, co27, eo27⟩ := Kd.R_slice HO_8.out
                  subst eo27
                  go_wp2_with (first | ((with_reducible refine gate_callee (f := 25) rfl ?_); refine goesL_ (some 72) rfl rfl Try.func25 (by kernel_rfl) rfl #[.slice Ao27 x8_2.length co27] rfl (by (try simp only [List.map_toArray, List.map_cons, List.map_nil]); first | done | rfl | (simp only [List.length_drop, List.length_take]; rfl)) ?_; (with_reducible refine (figureheadref01_turned.calls k2 _ _ x8_2 t310 _ ?side1 ?side2 A24.out).mono ?_); (case side1 => repeat (first | exact (Kd.R_reads' HO_8.out).2.2 | (with_reducible refine Kd.C_alloc ?_ _) | (with_reducible refine Kd.C_drewN ?_ _) | (with_reducible refine Kd.C_drew ?_))); (case side2 => exact (Kd.R_reads' HO_8.out).2.1); rintro e w28 ⟨rfl, hb⟩; refine ⟨_, rfl, ?_⟩; have n0_ := Aside0.mk (Kd.R_below (by (with_reducible repeat (first | apply Kd.R_alloc | apply Kd.R_drewN | apply Kd.R_drew)); exact HO_5.out) hb); have n1_ := Aside0.mk (Kd.R_below (by (with_reducible repeat (first | apply Kd.R_alloc | apply Kd.R_drewN | apply Kd.R_drew)); exact HO_8.out) hb); have n2_ := Aside0.mk (below_step (by repeat (first | (with_reducible first | exact HB.out | apply below_alloc | apply pw_below_drewN | apply below_drew1) | exact HB.out)) hb); clear HO_5; clear HO_8; clear HB; have HO_5 := n0_; have HO_8 := n1_; have HB := n2_; clear n0_ n1_ n2_; (try clear hb); (try clear hb2); (try clear hk); (try clear hi)) | ((with_reducible refine gate_callee (f := 22) rfl ?_); refine goesL_ (some 73) rfl rfl Try.func22 (by kernel_rfl) rfl #[.string t310] rfl (by (try simp only [List.map_toArray, List.map_cons, List.map_nil]); first | done | rfl | (simp only [List.length_drop, List.length_take]; rfl)) ?_; (with_reducible refine (figureheadref01_Strip.calls k2 t310 t311 _ A25.out).mono ?_); rintro e w' ⟨rfl, ⟨nd, rfl⟩⟩; refine ⟨_, rfl, ?_⟩))
                  go_ret
                  exact ⟨by first | rfl | (simp [errW_none, errW_some] <;> rfl) | (simp only [← hji3]; first | rfl | (simp [errW_none, errW_some] <;> rfl)) | (simp [*, errW_none, errW_some] <;> rfl), by repeat (first | (with_reducible first | exact HB.out | apply below_alloc | apply pw_below_drewN | apply below_drew1) | exact HB.out)⟩
    · rw [if_neg c5] at H
      exact absurd H (by simp)
  · rw [if_neg c4] at H
    exact absurd H (by simp)

end Go.Proofs.Ytnpibnjncjieaaa.Px

namespace Go.Proofs.Ytnpibnjncjieaaa.Px
open Fig Go.RowKit Go.Proofs.YtnpibnjncjieaaaW.PrintWords Go.Proofs.YtnpibnjncjieaaaW.PrintLast Go.Proofs.YtnpibnjncjieaaaW.PrintMore
attribute [local go_sem] max2_int min2_int max_two min_two max_three min_three max_four min_four   -- for this text's walks alone

/-! plain facts: figureheadref01_Times -/
/-- what a row of sums says -/
def va : List Int → Nat
  | [] => 0
  | x :: l => x.toNat + 10 * va l
theorem va_drop {l : List Int} {k : Nat} (h : k < l.length) : va (l.drop k) = l[k].toNat + 10 * va (l.drop (k + 1)) := by
  rw [List.drop_eq_getElem_cons h]; rfl
theorem va_set : ∀ (l : List Int) (m : Nat) (h : m < l.length) (t : Nat), 0 ≤ l[m] → va (l.set m (l[m] + (t : Int))) = va l + 10 ^ m * t
  | x :: l, 0, h, t, h0 => by
    simp only [List.set_cons_zero, va, List.getElem_cons_zero] at h0 ⊢
    rw [Nat.pow_zero]; omega
  | x :: l, m + 1, h, t, h0 => by
    simp only [List.set_cons_succ, va, List.getElem_cons_succ] at h0 ⊢
    rw [va_set l m (by simpa using h) t h0, Nat.pow_succ, Nat.mul_add, Nat.mul_comm (10 ^ m) 10, Nat.mul_assoc]; omega
theorem va_replicate (n : Nat) : va (List.replicate n 0) = 0 := by
  induction n with
  | zero => rfl
  | succ n ih => simp [List.replicate_succ, va, ih]
theorem set_bound {l : List Int} {m : Nat} {v M : Int} (h : ∀ e ∈ l, 0 ≤ e ∧ e ≤ M) {M' : Int} (hM : M ≤ M') (hv : 0 ≤ v ∧ v ≤ M') : ∀ e ∈ l.set m v, 0 ≤ e ∧ e ≤ M' := by
  intro e he
  rcases List.mem_or_eq_of_mem_set he with h1 | h1
  · have := h e h1; omega
  · subst h1; exact hv
theorem times_idx (i j : Nat) (hi : i ≤ 1000000) (hj : j ≤ 1000000) : wrap64 ((i : Int) + (j : Int)) = ((i + j : Nat) : Int) := by rw [w64 (by omega) (by omega)]; omega
theorem times_cell (e : Int) (p q : Nat) (h0 : 0 ≤ e) (h1 : e ≤ 100000000000000000) (hp : p ≤ 9) (hq : q ≤ 9) : wrap64 (e + wrap64 ((p : Int) * (q : Int))) = e + ((p * q : Nat) : Int) := by
  have : p * q ≤ 9 * 9 := Nat.mul_le_mul hp hq
  have e2 : (p : Int) * (q : Int) = ((p * q : Nat) : Int) := by simp
  rw [e2]
  generalize p * q = t at *
  rw [w64 (x := (t : Int)) (by omega) (by omega), w64 (by omega) (by omega)]
theorem Times_in (a b : ByteArray) (ha : dB a = true) (hb : dB b = true) (la : a.size ≤ 1000000) (lb : b.size ≤ 1000000) (i : Nat) (hi : i < a.size) (r : ByteArray) : ∀ (d j M : Nat) (x : List Int), b.size - j = d → j ≤ b.size → x.length = a.size + b.size + 1 → (∀ e ∈ x, 0 ≤ e ∧ e ≤ (M : Int)) → M + 81 * d ≤ 100000000000000000 →
    (∀ x', x'.length = a.size + b.size + 1 → (∀ e ∈ x', 0 ≤ e ∧ e ≤ ((M + 81 * d : Nat) : Int)) → va x' = va x + 10 ^ (i + j) * (dg a i * rv ((rs b).drop j)) → Ev (fun k => figureheadref01_Times.l0 k a b x' ((i + 1 : Nat) : Int)) r) →
    Ev (fun k => figureheadref01_Times.l1 k a b x (i : Int) (j : Int)) r
  | 0, j, M, x, h1, h2, hx, hM, hb2, h => by
    refine Ev.step (f := fun k => figureheadref01_Times.l0 k a b x ((i + 1 : Nat) : Int)) (fun k => ?_) (h x hx (fun e he => by have := hM e he; omega) (by rw [rv_rest_end (by omega)]; simp))
    simp only [figureheadref01_Times.l1]; rw [if_neg (by omega), succ64 _ (by omega)]
  | d + 1, j, M, x, h1, h2, hx, hM, hb2, h => by
    have da := dg_le ha i
    have db := dg_le hb j
    have hlt : i + j < x.length := by omega
    have hm := hM _ (List.getElem_mem hlt)
    have hpq : dg a i * dg b j ≤ 81 := Nat.mul_le_mul da db
    refine Ev.step (f := fun k => figureheadref01_Times.l1 k a b (x.set (i + j) (x[i + j] + ((dg a i * dg b j : Nat) : Int))) (i : Int) ((j + 1 : Nat) : Int)) (fun k => ?_)
      (Times_in a b ha hb la lb i hi r d (j + 1) (M + 81) _ (by omega) (by omega) (by simpa using hx) (set_bound (M' := ((M + 81 : Nat) : Int)) (v := x[i + j] + ((dg a i * dg b j : Nat) : Int)) hM (by omega) (by omega)) (by omega) (fun x' h3 h4 h5 => h x' h3 (fun e he => by have := h4 e he; omega) ?_))
    · simp only [figureheadref01_Times.l1]
      rw [if_pos (by omega), times_idx i j (by omega) (by omega), if_pos (by omega), if_pos (by omega), digit_eq ha (by omega) (by omega), digit_eq hb (by omega) (by omega)]
      simp only [Option.bind_some, Int.toNat_natCast]
      rw [rd_get hlt, times_cell _ _ _ hm.1 (by omega) da db, succ64 _ (by omega)]
    · rw [h5, va_set _ _ hlt _ hm.1, rv_rest b j, Nat.mul_add (dg a i), Nat.mul_add (10 ^ (i + j)), ← Nat.add_assoc i j 1, Nat.pow_succ, ← Nat.mul_assoc (dg a i) 10, Nat.mul_comm (dg a i) 10, Nat.mul_assoc (10 ^ (i + j)) 10, Nat.mul_assoc 10, Nat.add_assoc]
theorem Times_carry (x : List Int) (hx : ∀ e ∈ x, 0 ≤ e ∧ e ≤ 100000000000000000) (lx : x.length ≤ 3000000) : ∀ (d k : Nat) (t : List Int) (c : Nat), x.length - k = d → k ≤ x.length → t.length = k → digL (ob t) = true → c ≤ 100000000000000000 → rv (ob t) + 10 ^ k * (c + va (x.drop k)) < 10 ^ x.length →
    Ev (fun j => figureheadref01_Times.l2 j x t (c : Int) (k : Int)) (digB (rv (ob t) + 10 ^ k * (c + va (x.drop k))))
  | 0, k, t, c, h1, h2, ht, hd, hc, hlt => by
    have e : x.drop k = [] := List.drop_of_length_le (by omega)
    have hk : k = x.length := by omega
    rw [e, hk] at hlt
    simp only [va, Nat.add_zero] at hlt
    have hc0 : c = 0 := by
      rcases Nat.eq_zero_or_pos c with h | h
      · exact h
      · have := Nat.mul_le_mul_left (10 ^ x.length) h
        omega
    subst hc0
    refine evIs (Ev.step (fun j => ?_) (turnedStrip_ev (l := t) (by omega) hd)) ?_
    · simp only [figureheadref01_Times.l2]; rw [if_neg (by omega)]
    · rw [e]; simp [va]
  | d + 1, k, t, c, h1, h2, ht, hd, hc, hlt => by
    have hkx : k < x.length := by omega
    have hm := hx _ (List.getElem_mem hkx)
    obtain ⟨v, hv⟩ : ∃ v : Nat, x[k] = (v : Int) := ⟨x[k].toNat, by omega⟩
    have e := va_drop hkx
    rw [hv, Int.toNat_natCast] at e
    have hsum : wrap64 (rd x (k : Int) + (c : Int)) = ((v + c : Nat) : Int) := by rw [rd_get hkx, hv, w64 (by omega) (by omega)]; omega
    obtain ⟨o1, o2⟩ := ob_snoc t (c := (v + c) % 10) (by omega) hd
    have key : rv (ob t) + 10 ^ t.length * ((v + c) % 10) + 10 ^ (k + 1) * ((v + c) / 10 + va (x.drop (k + 1))) = rv (ob t) + 10 ^ k * (c + va (x.drop k)) := by
      rw [ht, e, Nat.pow_succ, Nat.mul_assoc, Nat.add_assoc, ← Nat.mul_add]; congr 2; omega
    have hn : (v + c) / 10 ≤ 100000000000000000 := by omega
    refine Ev.step (f := fun j => figureheadref01_Times.l2 j x (t ++ [((48 + (v + c) % 10 : Nat) : Int)]) (((v + c) / 10 : Nat) : Int) ((k + 1 : Nat) : Int)) (fun j => ?_)
      (evIs (Times_carry x hx lx d (k + 1) _ ((v + c) / 10) (by omega) (by omega) (by simp [ht]) o1 hn (by rw [o2, key]; exact hlt)) (by rw [o2, key]))
    simp only [figureheadref01_Times.l2]
    rw [if_pos (by omega), if_pos (by omega), if_pos (by omega), hsum, code_mod _ (by omega), code_div _ (by omega), succ64 _ (by omega)]
theorem Times_out (a b : ByteArray) (ha : dB a = true) (hb : dB b = true) (la : a.size ≤ 1000000) (lb : b.size ≤ 1000000) : ∀ (d i : Nat) (x : List Int), a.size - i = d → i ≤ a.size → x.length = a.size + b.size + 1 → (∀ e ∈ x, 0 ≤ e ∧ e ≤ ((81 * b.size * i : Nat) : Int)) → va x + 10 ^ i * (rv ((rs a).drop i) * vB b) < 10 ^ x.length →
    Ev (fun k => figureheadref01_Times.l0 k a b x (i : Int)) (digB (va x + 10 ^ i * (rv ((rs a).drop i) * vB b)))
  | 0, i, x, h1, h2, hx, hM, hlt => by
    have hb3 : 81 * b.size * i ≤ 81 * 1000000 * 1000000 := Nat.mul_le_mul (Nat.mul_le_mul_left _ lb) (by omega)
    have e0 : rv ((rs a).drop i) = 0 := rv_rest_end (by omega)
    rw [e0] at hlt ⊢
    have := Times_carry x (fun e he => by have := hM e he; omega) (by omega) x.length 0 [] 0 (by omega) (by omega) rfl rfl (by omega) (by simpa [ob, rv] using hlt)
    refine evIs (Ev.step (fun k => ?_) this) (by simp [ob, rv])
    simp only [figureheadref01_Times.l0]; rw [if_neg (by omega)]; rfl
  | d + 1, i, x, h1, h2, hx, hM, hlt => by
    have hb3 : 81 * b.size * (i + 1) ≤ 81 * 1000000 * 1000000 := Nat.mul_le_mul (Nat.mul_le_mul_left _ lb) (by omega)
    have hb4 : 81 * b.size * (i + 1) = 81 * b.size * i + 81 * b.size := Nat.mul_succ _ _
    have key : 10 ^ (i + 0) * (dg a i * rv ((rs b).drop 0)) + 10 ^ (i + 1) * (rv ((rs a).drop (i + 1)) * vB b) = 10 ^ i * (rv ((rs a).drop i) * vB b) := by
      rw [rv_rest a i, show rv ((rs b).drop 0) = vB b from rfl, Nat.add_zero, Nat.pow_succ, Nat.mul_assoc (10 ^ i) 10, ← Nat.mul_add, Nat.add_mul, Nat.mul_assoc 10]
    refine Ev.step (f := fun k => figureheadref01_Times.l1 k a b x (i : Int) ((0 : Nat) : Int)) (fun k => ?_)
      (Times_in a b ha hb la lb i (by omega) _ b.size 0 (81 * b.size * i) x (by omega) (by omega) hx hM (by omega) (fun x' h3 h4 h5 => evIs (Times_out a b ha hb la lb d (i + 1) x' (by omega) (by omega) h3 (fun e he => by have := h4 e he; omega) ?_) ?_))
    · simp only [figureheadref01_Times.l0]; rw [if_pos (by omega)]; rfl
    · rw [h5, Nat.add_assoc, key, h3, ← hx]; exact hlt
    · rw [h5, Nat.add_assoc, key]
theorem Times_ev {a b : ByteArray} (ha : dB a = true) (hb : dB b = true) (la : a.size ≤ 1000000) (lb : b.size ≤ 1000000) : Ev (fun k => figureheadref01_Times.f k a b) (digB (vB a * vB b)) := by
  unfold figureheadref01_Times.f
  rw [times_len _ _ la lb]
  simp only [Int.toNat_natCast]
  have c1 : (0 : Int) ≤ ((a.size + b.size + 1 : Nat) : Int) := by omega
  have c2 : a.size + b.size + 1 ≤ 35184372088832 := by omega
  simp only [c1, c2, if_true]
  refine evIs (Times_out a b ha hb la lb a.size 0 _ (by omega) (by omega) (by simp) (fun e he => by rw [List.eq_of_mem_replicate he]; omega) ?_) ?_
  · rw [va_replicate, List.length_replicate]
    have := Nat.mul_lt_mul'' (vB_lt ha) (vB_lt hb)
    rw [← Nat.pow_add] at this
    have h2 : 10 ^ (a.size + b.size) ≤ 10 ^ (a.size + b.size + 1) := Nat.pow_le_pow_right (by omega) (by omega)
    have e : rv ((rs a).drop 0) = vB a := rfl
    rw [e]; omega
  · rw [va_replicate, show rv ((rs a).drop 0) = vB a from rfl]; simp

end Go.Proofs.Ytnpibnjncjieaaa.Px

namespace Go.Proofs.Ytnpibnjncjieaaa.Px
open Fig Go.RowKit Go.Proofs.YtnpibnjncjieaaaW.PrintWords Go.Proofs.YtnpibnjncjieaaaW.PrintLast Go.Proofs.YtnpibnjncjieaaaW.PrintMore
attribute [local go_sem] max2_int min2_int max_two min_two max_three min_three max_four min_four   -- for this text's walks alone

/-! plain facts: mul_Small -/
theorem small_len (p : Nat) (hp : p ≤ 1000000) : wrap64 ((p : Int) + 2) = ((p + 2 : Nat) : Int) := by rw [w64 (by omega) (by omega)]; omega
theorem Small_ev {a : List Int} {y m : Nat} (ga : goodL a = true) (la : a.length ≤ 1000000) (hy : y < 1000000000) (hm : m < 1000000000) : Ev (fun k => mul_Small.f k a (y : Int) (m : Int)) (limbs (valL a * y + m)) := by
  unfold mul_Small.f
  rw [small_len _ la]
  have c1 : (0 : Int) ≤ ((a.length + 2 : Nat) : Int) := by omega
  have c2 : a.length + 2 ≤ 70368744177664 := by omega
  simp only [Int.toNat_natCast, c1, c2, if_true, Option.bind_some]
  have c3 : (0 : Int) < (((List.replicate (a.length + 2) (0 : Int)).length : Nat) : Int) := by simp; omega
  simp only [c3, if_true]
  have e1 : (List.replicate (a.length + 2) (0 : Int)).set (0 : Int).toNat (m : Int) = (m : Int) :: List.replicate (a.length + 1) 0 := by rw [List.replicate_succ]; rfl
  rw [e1]
  have g1 : goodL ((m : Int) :: List.replicate (a.length + 1) 0) = true := goodL_cons.2 ⟨by omega, goodL_replicate _⟩
  have v1 : valL ((m : Int) :: List.replicate (a.length + 1) 0) = m := by simp [valL, valL_replicate]
  have l1 : ((m : Int) :: List.replicate (a.length + 1) 0).length = a.length + 2 := by simp
  have hlt : valL ((m : Int) :: List.replicate (a.length + 1) 0) + 1000000000 ^ 0 * (valL a * y) < 1000000000 ^ ((m : Int) :: List.replicate (a.length + 1) 0).length := by
    rw [v1, l1, Nat.pow_zero, Nat.one_mul]
    have va := valL_lt ga
    have h3 : valL a * y ≤ 1000000000 ^ a.length * 999999999 := Nat.mul_le_mul (by omega) (by omega)
    have h4 : 1000000000 ^ (a.length + 2) = 1000000000 ^ a.length * 1000000000 * 1000000000 := by rw [Nat.pow_succ, Nat.pow_succ]
    have h5 : 1 ≤ 1000000000 ^ a.length := Nat.one_le_pow _ _ (by omega)
    omega
  obtain ⟨r, hr, g2, g3, g4⟩ := row_ev (p := 0) g1 ga hy (by rw [l1]; omega) (by rw [l1]; omega) hlt
  refine Ev.bind hr ?_
  simp only [nat_Trim.f]
  rw [trimF_eq g2 (by rw [g3, l1]; omega)]
  refine evIs (Ev.now _) ?_
  rw [g4, v1, Nat.pow_zero, Nat.one_mul, Nat.add_comm]

end Go.Proofs.Ytnpibnjncjieaaa.Px

namespace Go.Proofs.Ytnpibnjncjieaaa.Px
open Fig Go.RowKit Go.Proofs.YtnpibnjncjieaaaW.PrintWords Go.Proofs.YtnpibnjncjieaaaW.PrintLast Go.Proofs.YtnpibnjncjieaaaW.PrintMore
attribute [local go_sem] max2_int min2_int max_two min_two max_three min_three max_four min_four   -- for this text's walks alone

/-! plain facts: div_guess -/
theorem guess_mid (p q : Nat) (hp : p ≤ 1000000000) (hq : q ≤ 1000000000) : (((p : Int) + (q : Int)) % 4294967296) / 2 = (((p + q) / 2 : Nat) : Int) := by omega
theorem guess_loop (r b : List Int) (gr : goodL r = true) (gb : goodL b = true) (lr : r.length ≤ 1000001) (lb : b.length ≤ 1000000) : ∀ (d p q : Nat), q - p = d → p < q → q ≤ 1000000000 → valL b * p ≤ valL r → valL r < valL b * q →
    Ev (fun k => div_guess.l0 k r b (p : Int) (q : Int)) (((valL r / valL b : Nat) : Int), limbs (valL r % valL b)) := by
  intro d
  induction d using Nat.strongRecOn with
  | _ d ih =>
  intro p q hd hpq hq h1 h2
  by_cases hs : 1 < q - p
  · have hm1 : p < (p + q) / 2 := by omega
    have hm2 : (p + q) / 2 < q := by omega
    have lm : (limbs (valL b * ((p + q) / 2) + 0)).length ≤ 1000001 := by
      have := valL_lt gb
      have h3 : valL b * ((p + q) / 2) < 1000000000 ^ b.length * 1000000000 := Nat.mul_lt_mul'' this (by omega)
      rw [← Nat.pow_succ] at h3
      exact limbs_pow9 h3 (by omega)
    refine Ev.step (f := fun k => (mul_Small.f k b (((p + q) / 2 : Nat) : Int) ((0 : Nat) : Int)).bind fun t => (nat_Cmp.f t r).bind fun t2 => if t2 ≤ 0 then div_guess.l0 k r b (((p + q) / 2 : Nat) : Int) (q : Int) else div_guess.l0 k r b (p : Int) (((p + q) / 2 : Nat) : Int)) (fun k => ?_) (Ev.bind (Small_ev gb lb (by omega) (by omega)) (Ev.bind (evSome fun _ => cmpF_eq (limbs_good _) gr (by omega) (by omega)) ?_))
    · simp only [div_guess.l0]
      rw [if_pos (by omega), guess_mid p q (by omega) hq]; rfl
    · rw [limbs_val, Nat.add_zero]
      by_cases hc : valL b * ((p + q) / 2) ≤ valL r
      · have c0 : cmpN (valL b * ((p + q) / 2)) (valL r) ≤ 0 := by
          unfold cmpN
          split
          · omega
          · rw [if_neg (by omega)]; omega
        simp only [c0, if_true]
        exact ih _ (by omega) _ _ rfl hm2 hq hc h2
      · have c0 : ¬ cmpN (valL b * ((p + q) / 2)) (valL r) ≤ 0 := by unfold cmpN; rw [if_neg (by omega), if_pos (by omega)]; omega
        simp only [c0, if_false]
        exact ih _ (by omega) _ _ rfl hm1 (by omega) h1 (by omega)
  · have hq1 : q = p + 1 := by omega
    subst hq1
    have hb0 : 0 < valL b := by
      rcases Nat.eq_zero_or_pos (valL b) with h0 | h0
      · rw [h0] at h2; omega
      · exact h0
    have e1 : valL r / valL b = p := by
      rw [Nat.mul_add] at h2
      exact Nat.div_eq_of_lt_le (by rw [Nat.mul_comm]; exact h1) (by rw [Nat.add_mul, Nat.mul_comm p]; omega)
    have e2 : valL r % valL b = valL r - valL b * p := by
      have := Nat.div_add_mod (valL r) (valL b)
      rw [e1] at this; omega
    have lm : (limbs (valL b * p + 0)).length ≤ 1000001 := by
      exact limbs_pow9 (Nat.lt_of_le_of_lt h1 (valL_lt gr)) lr
    refine Ev.step (f := fun k => (mul_Small.f k b ((p : Nat) : Int) ((0 : Nat) : Int)).bind fun t => (nat_Sub.f r t).bind fun t2 => some (((p : Nat) : Int), t2.1)) (fun k => ?_) (Ev.bind (Small_ev gb lb (by omega) (by omega)) (Ev.bind (evSome fun _ => subF_ge gr (limbs_good _) (by omega) (by omega) (by rw [limbs_val]; omega)) ?_))
    · simp only [div_guess.l0]
      rw [if_neg (by omega)]; rfl
    · rw [limbs_val, Nat.add_zero, e1, e2]; exact Ev.now _
theorem guess_ev {r b : List Int} (gr : goodL r = true) (gb : goodL b = true) (lr : r.length ≤ 1000001) (lb : b.length ≤ 1000000) (h : valL r < 1000000000 * valL b) : Ev (fun k => div_guess.f k r b) (((valL r / valL b : Nat) : Int), limbs (valL r % valL b)) := by
  have := guess_loop r b gr gb lr lb _ 0 1000000000 rfl (by omega) (by omega) (by omega) (by rw [Nat.mul_comm]; exact h)
  exact this

end Go.Proofs.Ytnpibnjncjieaaa.Px

namespace Go.Proofs.Ytnpibnjncjieaaa.Px
open Fig Go.RowKit Go.Proofs.YtnpibnjncjieaaaW.PrintWords Go.Proofs.YtnpibnjncjieaaaW.PrintLast Go.Proofs.YtnpibnjncjieaaaW.PrintMore
attribute [local go_sem] max2_int min2_int max_two min_two max_three min_three max_four min_four   -- for this text's walks alone

/-! plain facts: div_Small -/
theorem cast_bd {x : Nat} (h : x < 1000000000) : (0 : Int) ≤ (x : Int) ∧ (x : Int) < 1000000000 := by omega
theorem divs_step (r p y : Nat) (hy0 : 0 < y) (hy : y < 1000000000) (hr : r < y) (hp : p < 1000000000) : IntKind.u64.wrap ((IntKind.u64.wrap ((r : Int) * 1000000000)) + (IntKind.u64.wrap (p : Int))) = ((r * 1000000000 + p : Nat) : Int) := by
  rw [u64w (x := (r : Int) * 1000000000) (by omega) (by omega), u64w (x := (p : Int)) (by omega) (by omega), u64w (by omega) (by omega)]; omega
theorem divs_quo (r p y : Nat) (hy0 : 0 < y) (hy : y < 1000000000) (hr : r < y) (hp : p < 1000000000) : (r * 1000000000 + p) / y < 1000000000 := by
  rw [Nat.div_lt_iff_lt_mul hy0]
  have : (r + 1) * 1000000000 ≤ y * 1000000000 := Nat.mul_le_mul_right _ hr
  rw [Nat.mul_comm]; omega
theorem u64_nat (p : Nat) (hp : p ≤ 18446744073709551615) : IntKind.u64.wrap (p : Int) = (p : Int) := u64w (by omega) (by omega)
theorem divs_low (t y : Nat) (ht : t ≤ 18446744073709551615) (h : t / y < 1000000000) : (IntKind.u64.wrap (Int.tdiv (t : Int) (y : Int))) % 4294967296 = ((t / y : Nat) : Int) := by
  rw [← Int.ofNat_tdiv, u64_nat _ (by have := Nat.div_le_self t y; omega)]; generalize t / y = u at *; omega
theorem divs_mod (t y : Nat) : Int.tmod (t : Int) (y : Int) = ((t % y : Nat) : Int) := (Int.ofNat_tmod t y).symm
theorem drop_set_self : ∀ (q : List Int) (n : Nat) (v : Int), n < q.length → (q.set n v).drop n = v :: q.drop (n + 1)
  | x :: q, 0, v, h => rfl
  | x :: q, n + 1, v, h => by simpa using drop_set_self q n v (by simpa using h)
theorem divs_val (A V y p r X : Nat) (hy : 0 < y) (h : X * y + r = V) : (((r * 1000000000 + p) / y) + 1000000000 * X) * y + (r * 1000000000 + p) % y = p + 1000000000 * V := by
  have := Nat.div_add_mod (r * 1000000000 + p) y
  rw [Nat.add_mul, Nat.mul_assoc, Nat.mul_comm _ y, ← h, Nat.mul_add]; omega
theorem Small_div_loop (a : List Int) (ga : goodL a = true) (la : a.length ≤ 1000000000000) (y : Nat) (hy0 : 0 < y) (hy : y < 1000000000) : ∀ (n : Nat) (q : List Int) (r : Nat), n ≤ a.length → q.length = a.length → goodL q = true → r < y → valL (q.drop n) * y + r = valL (a.drop n) →
    Ev (fun k => div_Small.l0 k a (y : Int) q (r : Int) ((n : Int) - 1)) (limbs (valL a / y), ((valL a % y : Nat) : Int), true)
  | 0, q, r, hn, hq, gq, hr, hv => by
    rw [List.drop_zero, List.drop_zero] at hv
    have e1 : valL q = valL a / y := by rw [← hv, Nat.mul_comm, Nat.mul_add_div hy0, Nat.div_eq_of_lt hr]; rfl
    have e2 : r = valL a % y := by rw [← hv, Nat.mul_comm, Nat.mul_add_mod, Nat.mod_eq_of_lt hr]
    refine evIs (Ev.step (f := fun _ => (nat_Trim.f q).bind fun t => some (t, ((r : Nat) : Int) % 4294967296, true)) (fun k => ?_) (Ev.bind (evSome fun _ => trimF_eq gq (by omega)) (Ev.now _))) ?_
    · simp only [div_Small.l0]; rw [if_neg (by omega)]
    · rw [e1, ← e2]
      have : ((r : Nat) : Int) % 4294967296 = (r : Int) := by omega
      rw [this]
  | n + 1, q, r, hn, hq, gq, hr, hv => by
    have hna : n < a.length := by omega
    have hnq : n < q.length := by omega
    have pa := goodL_iff.1 ga _ (List.getElem_mem hna)
    obtain ⟨p, hp⟩ : ∃ v : Nat, a[n] = (v : Int) := ⟨a[n].toNat, by omega⟩
    have hp9 : p < 1000000000 := by omega
    have hqb := divs_quo r p y hy0 hy hr hp9
    have hmod := Nat.mod_lt (r * 1000000000 + p) hy0
    have ht : r * 1000000000 + p ≤ 18446744073709551615 := by omega
    have ex : (((n + 1 : Nat) : Int) - 1) = (n : Int) := by omega
    refine Ev.step (f := fun k => div_Small.l0 k a (y : Int) (q.set n (((r * 1000000000 + p) / y : Nat) : Int)) (((r * 1000000000 + p) % y : Nat) : Int) ((n : Int) - 1)) (fun k => ?_) (Small_div_loop a ga la y hy0 hy n _ _ (by omega) (by simpa using hq) (goodL_set gq n (cast_bd hqb)) hmod ?_)
    · simp only [ex, div_Small.l0]
      rw [if_pos (by omega), if_pos (by omega), if_pos (by omega), u64_nat y (by omega), if_neg (by omega), if_pos (by omega), rd_get hna, hp, divs_step r p y hy0 hy hr hp9, divs_low _ _ ht hqb, divs_mod, w64 (x := (n : Int) - 1) (by omega) (by omega), Int.toNat_natCast]
    · rw [drop_set_self q n _ hnq, List.drop_eq_getElem_cons hna, hp]
      exact divs_val 0 _ y p r _ hy0 hv
theorem DivSmall_ev {a : List Int} {y : Nat} (ga : goodL a = true) (la : a.length ≤ 1000000000000) (hy0 : 0 < y) (hy : y < 1000000000) : Ev (fun k => div_Small.f k a (y : Int)) (limbs (valL a / y), ((valL a % y : Nat) : Int), true) := by
  have h0 : ¬ (y : Int) = 0 := by omega
  have h1 : (0 : Int) ≤ (a.length : Int) := by omega
  have h2 : a.length ≤ 70368744177664 := by omega
  unfold div_Small.f
  simp only [h0, h1, if_true, if_false, Int.toNat_natCast, h2]
  rw [w64 (by omega) (by omega)]
  refine Small_div_loop a ga la y hy0 hy a.length _ 0 (Nat.le_refl _) (by simp) (goodL_replicate _) hy0 ?_
  rw [List.drop_of_length_le (by simp), List.drop_of_length_le (Nat.le_refl _)]; simp [valL]

end Go.Proofs.Ytnpibnjncjieaaa.Px

namespace Go.Proofs.Ytnpibnjncjieaaa.Px
open Fig Go.RowKit Go.Proofs.YtnpibnjncjieaaaW.PrintWords Go.Proofs.YtnpibnjncjieaaaW.PrintLast Go.Proofs.YtnpibnjncjieaaaW.PrintMore
attribute [local go_sem] max2_int min2_int max_two min_two max_three min_three max_four min_four   -- for this text's walks alone

/-! plain facts: div_DivMod -/
theorem divm_val (A V y p r X Q R : Nat) (h : X * y + r = V) (hq : Q = (p + 1000000000 * r) / y) (hr : R = (p + 1000000000 * r) % y) : (Q + 1000000000 * X) * y + R = p + 1000000000 * V := by
  have := Nat.div_add_mod (p + 1000000000 * r) y
  rw [← hq, ← hr] at this
  rw [Nat.add_mul, Nat.mul_assoc, Nat.mul_comm _ y, ← h, Nat.mul_add]; omega
theorem DivMod_loop (a b : List Int) (ga : goodL a = true) (gb : goodL b = true) (la : a.length ≤ 1000000) (lb : b.length ≤ 1000000) (hb : 0 < valL b) : ∀ (n : Nat) (q r : List Int), n ≤ a.length → q.length = a.length → goodL q = true → goodL r = true → r.length ≤ 1000000 → valL r < valL b → valL (q.drop n) * valL b + valL r = valL (a.drop n) →
    Ev (fun k => div_DivMod.l0 k a b q r ((n : Int) - 1)) (limbs (valL a / valL b), limbs (valL a % valL b), true)
  | 0, q, r, hn, hq, gq, gr, lr, hr, hv => by
    rw [List.drop_zero, List.drop_zero] at hv
    have e1 : valL q = valL a / valL b := by rw [← hv, Nat.mul_comm, Nat.mul_add_div hb, Nat.div_eq_of_lt hr]; rfl
    have e2 : valL r = valL a % valL b := by rw [← hv, Nat.mul_comm, Nat.mul_add_mod, Nat.mod_eq_of_lt hr]
    refine evIs (Ev.step (f := fun _ => (nat_Trim.f q).bind fun t => (nat_Trim.f r).bind fun t2 => some (t, t2, true)) (fun k => ?_) (Ev.bind (evSome fun _ => trimF_eq gq (by omega)) (Ev.bind (evSome fun _ => trimF_eq gr (by omega)) (Ev.now _)))) ?_
    · simp only [div_DivMod.l0]; rw [if_neg (by omega)]
    · rw [e1, e2]
  | n + 1, q, r, hn, hq, gq, gr, lr, hr, hv => by
    have hna : n < a.length := by omega
    have hnq : n < q.length := by omega
    have pa := goodL_iff.1 ga _ (List.getElem_mem hna)
    obtain ⟨p, hp⟩ : ∃ v : Nat, a[n] = (v : Int) := ⟨a[n].toNat, by omega⟩
    have hp9 : p < 1000000000 := by omega
    have gpr : goodL ([(p : Int)] ++ r) = true := goodL_append.2 ⟨goodL_cons.2 ⟨by omega, rfl⟩, gr⟩
    have vpr : valL ([(p : Int)] ++ r) = p + 1000000000 * valL r := by simp [valL]
    have hlt : p + 1000000000 * valL r < 1000000000 * valL b := by omega
    have hqb : (p + 1000000000 * valL r) / valL b < 1000000000 := by rw [Nat.div_lt_iff_lt_mul hb]; exact hlt
    have hmod := Nat.mod_lt (p + 1000000000 * valL r) hb
    have lt2 : (limbs (p + 1000000000 * valL r)).length ≤ 1000001 := by
      rw [← vpr]
      exact Nat.le_trans (limbs_len_le (valL_lt gpr)) (by simp; omega)
    have lm : (limbs ((p + 1000000000 * valL r) % valL b)).length ≤ 1000000 := by
      have := valL_lt gb
      exact limbs_pow9 (Nat.lt_trans hmod this) lb
    have ex : (((n + 1 : Nat) : Int) - 1) = (n : Int) := by omega
    refine Ev.step (f := fun k => (nat_Trim.f ([(p : Int)] ++ r)).bind fun t => (div_guess.f k t b).bind fun t2 => div_DivMod.l0 k a b (q.set n t2.1) t2.2 ((n : Int) - 1)) (fun k => ?_) (Ev.bind (evSome fun _ => trimF_eq gpr (by simp; omega)) ?_)
    · simp only [ex, div_DivMod.l0, Option.bind_some]
      rw [if_pos (by omega), if_pos (by omega), if_pos (by omega), rd_get hna, hp, if_pos (by simp; omega)]
      have c1 : (n : Int) < (q.length : Int) := by omega
      simp only [c1, if_true, Int.toNat_natCast, w64 (x := (n : Int) - 1) (by omega) (by omega)]
    · rw [vpr]
      refine Ev.bind (guess_ev (limbs_good _) gb (by omega) lb (by rw [limbs_val]; exact hlt)) ?_
      rw [limbs_val]
      refine DivMod_loop a b ga gb la lb hb n _ _ (by omega) (by simpa using hq) (goodL_set gq n (cast_bd hqb)) (limbs_good _) lm (by rw [limbs_val]; exact hmod) ?_
      rw [limbs_val, drop_set_self q n _ hnq, List.drop_eq_getElem_cons hna, hp]
      exact divm_val 0 _ _ p _ _ _ _ hv rfl rfl
theorem DivMod_ev {a b : List Int} (ga : goodL a = true) (gb : goodL b = true) (la : a.length ≤ 1000000) (lb : b.length ≤ 1000000) (hb : 0 < valL b) : Ev (fun k => div_DivMod.f k a b) (limbs (valL a / valL b), limbs (valL a % valL b), true) := by
  unfold div_DivMod.f
  refine Ev.bind (evSome fun _ => trimF_eq gb (by omega)) ?_
  have lb2 : (limbs (valL b)).length ≤ 1000000 := Nat.le_trans (limbs_len_le (valL_lt gb)) lb
  have h0 : ¬ ((limbs (valL b)).length : Int) = 0 := by
    intro h
    have : limbs (valL b) = [] := List.eq_nil_of_length_eq_zero (by omega)
    have := limbs_nil_iff.1 this; omega
  have h1 : (0 : Int) ≤ (a.length : Int) := by omega
  have h2 : a.length ≤ 70368744177664 := by omega
  simp only [h0, h1, if_true, if_false, Int.toNat_natCast, h2]
  rw [w64 (by omega) (by omega)]
  have := DivMod_loop a (limbs (valL b)) ga (limbs_good _) la lb2 (by rw [limbs_val]; exact hb) a.length (List.replicate a.length 0) [] (Nat.le_refl _) (by simp) (goodL_replicate _) rfl (by simp) (by rw [limbs_val]; exact hb) (by
    rw [List.drop_of_length_le (by simp), List.drop_of_length_le (Nat.le_refl _)]; simp [valL])
  rwa [limbs_val] at this
theorem DivMod_zero {a b : List Int} (gb : goodL b = true) (lb : b.length ≤ 1000000) (hb : valL b = 0) : Ev (fun k => div_DivMod.f k a b) ([], [], false) := by
  unfold div_DivMod.f
  refine Ev.bind (evSome fun _ => trimF_eq gb (by omega)) ?_
  rw [hb, limbs_zero]
  simp only [List.length_nil, Int.natCast_zero, if_true]
  exact Ev.now _

end Go.Proofs.Ytnpibnjncjieaaa.Px

namespace Go.Proofs.Ytnpibnjncjieaaa.Px
open Fig Go.RowKit Go.Proofs.YtnpibnjncjieaaaW.PrintWords Go.Proofs.YtnpibnjncjieaaaW.PrintLast Go.Proofs.YtnpibnjncjieaaaW.PrintMore
attribute [local go_sem] max2_int min2_int max_two min_two max_three min_three max_four min_four   -- for this text's walks alone

/-! plain facts: figureheadlaw03_answers -/
theorem answers03_ev : Ev (fun k => figureheadlaw03_answers.f k) true := Ev.of figureheadlaw03_answers.mono (k := 60) (by decide +kernel)

end Go.Proofs.Ytnpibnjncjieaaa.Px

namespace Go.Proofs.Ytnpibnjncjieaaa.Px
open Fig Go.RowKit Go.Proofs.YtnpibnjncjieaaaW.PrintWords Go.Proofs.YtnpibnjncjieaaaW.PrintLast Go.Proofs.YtnpibnjncjieaaaW.PrintMore
attribute [local go_sem] max2_int min2_int max_two min_two max_three min_three max_four min_four   -- for this text's walks alone

/-! plain facts: figureheadref01_Same -/
theorem Same_loop (a b : List Int) (hl : a.length ≤ 4611686018427387904) (he : a.length = b.length) : ∀ (d n : Nat), a.length - n = d → n ≤ a.length → Ev (fun k => figureheadref01_Same.l0 k a b (n : Int)) (decide (a.drop n = b.drop n))
  | 0, n, hd, hn => by
    refine evDone (r' := true) (fun k => ?_) ?_
    · simp only [figureheadref01_Same.l0]; rw [if_neg (by omega)]
    · rw [List.drop_of_length_le (by omega), List.drop_of_length_le (by omega)]; simp
  | d + 1, n, hd, hn => by
    have ha := rd_get (l := a) (n := n) (by omega)
    have hb := rd_get (l := b) (n := n) (by omega)
    have ca := List.drop_eq_getElem_cons (l := a) (i := n) (by omega)
    have cb := List.drop_eq_getElem_cons (l := b) (i := n) (by omega)
    by_cases h9 : rd a (n : Int) = rd b (n : Int)
    · refine Ev.step (f := fun k => figureheadref01_Same.l0 k a b ((n + 1 : Nat) : Int)) (fun k => ?_) ?_
      · simp only [figureheadref01_Same.l0]; rw [if_pos (by omega), if_pos (by omega), if_pos (by omega), if_pos h9, w64 (by omega) (by omega)]; rfl
      · have := Same_loop a b hl he d (n + 1) (by omega) (by omega)
        refine evIs this ?_
        rw [ca, cb, show a[n] = b[n] by rw [← ha, ← hb, h9]]
        simp only [List.cons.injEq, true_and]
    · refine evDone (r' := false) (fun k => ?_) ?_
      · simp only [figureheadref01_Same.l0]; rw [if_pos (by omega), if_pos (by omega), if_pos (by omega), if_neg h9]
      · rw [ca, cb]; symm; rw [decide_eq_false_iff_not]; intro e; injection e with e _
        rw [ha, hb] at h9; exact h9 e
theorem Same_ev {a b : List Int} (hl : a.length ≤ 4611686018427387904) : Ev (fun k => figureheadref01_Same.f k a b) (decide (a = b)) := by
  by_cases he : a.length = b.length
  · have := Same_loop a b hl he a.length 0 (by omega) (by omega)
    simp only [figureheadref01_Same.f, he, if_true]
    simpa using this
  · refine ⟨0, fun k _ => ?_⟩
    simp only [figureheadref01_Same.f]
    rw [if_neg (by omega)]; congr 1; symm; rw [decide_eq_false_iff_not]; rintro rfl; exact he rfl
theorem Same_self {a : List Int} (hl : a.length ≤ 4611686018427387904) : Ev (fun k => figureheadref01_Same.f k a a) true := by
  simpa using Same_ev (a := a) (b := a) hl
theorem Same_true {a b : List Int} (h : a = b) (hl : a.length ≤ 4611686018427387904) : Ev (fun k => figureheadref01_Same.f k a b) true := by subst h; exact Same_self hl

end Go.Proofs.Ytnpibnjncjieaaa.Px
