/- The functions that the law NatOwn reaches, told as plain functions, with what is proved of them (part 1). -/
import Derived.Test.YtkhmdpplpecgcaaPx0
import Derived.Test.YtkhmdpplpecgcaaCNatOwn0
namespace Go.Proofs.Ytkhmdpplpecgcaa.Px
open Fig Go.RowKit Go.Proofs.YtkhmdpplpecgcaaW.PrintWords Go.Proofs.YtkhmdpplpecgcaaW.PrintLast Go.Proofs.YtkhmdpplpecgcaaW.PrintMore
attribute [local go_sem] max2_int min2_int max_two min_two max_three min_three max_four min_four   -- for this text's walks alone

/-! ### figureheadlaw01_NatOwn: function 12 -/
mutual
def figureheadlaw01_NatOwn.l0 : Nat → List Int → List Int → List Int → List Int → List Int → List Int → Int → Option (Bool)
  | 0, _, _, _, _, _, _, _ => none
  | k + 1, x0, x1, x5, x6, x7, x8, x9 => if x9 < (x7.length : Int) then (if 0 ≤ x9 then (figureheadlaw01_NatOwn.l0 k x0 x1 x5 x6 (x7.set (x9 : Int).toNat 5) x8 (wrap64 (x9 + 1))) else (none)) else (figureheadlaw01_NatOwn.l1 k x0 x1 x5 x6 x8 0)
def figureheadlaw01_NatOwn.l1 : Nat → List Int → List Int → List Int → List Int → List Int → Int → Option (Bool)
  | 0, _, _, _, _, _, _ => none
  | k + 1, x0, x1, x5, x6, x8, x10 => if x10 < (x8.length : Int) then (if 0 ≤ x10 then (figureheadlaw01_NatOwn.l1 k x0 x1 x5 x6 (x8.set (x10 : Int).toNat 5) (wrap64 (x10 + 1))) else (none)) else ((figureheadlaw01_answers.f).bind fun t561 => (if t561 = true then (if 0 ≤ (x0.length : Int) then (if (x0.length : Int) ≤ (x5.length : Int) then ((figureheadref01_Same.f k (x5.take ((x0.length : Int) : Int).toNat) x0).bind fun t567 => (if t567 = true then (if 0 ≤ (x1.length : Int) then (if (x1.length : Int) ≤ (x6.length : Int) then ((figureheadref01_Same.f k (x6.take ((x1.length : Int) : Int).toNat) x1).bind fun t573 => (if t573 = true then (if (x0.length : Int) < (x5.length : Int) then (if (rd x5 (x0.length : Int)) = 7 then (if 0 ≤ (wrap64 ((x1.length : Int) + 1)) then (if (wrap64 ((x1.length : Int) + 1)) < (x6.length : Int) then (some ((rd x6 (wrap64 ((x1.length : Int) + 1))) == 8)) else (none)) else (none)) else (some false)) else (none)) else (some false))) else (none)) else (none)) else (some false))) else (none)) else (none)) else (some false)))
end
def figureheadlaw01_NatOwn.f (k : Nat) (l0 : List Int) (l1 : List Int) : Option (Bool) := (figureheadlaw01_good.f k (([l0, l1] : List (List Int)))).bind fun t498 => (if t498 = true then ((some (([] : List Int) : List Int)).bind fun y500 => (if y500.length + l0.length < 35184372088832 then ((some (y500 ++ l0 : List Int)).bind fun y503 => ((some (([7, 7] : List Int) : List Int)).bind fun y506 => (if y503.length + y506.length < 35184372088832 then ((some (y503 ++ y506 : List Int)).bind fun y509 => ((some (([] : List Int) : List Int)).bind fun y512 => (if y512.length + l1.length < 35184372088832 then ((some (y512 ++ l1 : List Int)).bind fun y515 => ((some (([8, 8] : List Int) : List Int)).bind fun y518 => (if y515.length + y518.length < 35184372088832 then ((some (y515 ++ y518 : List Int)).bind fun y521 => (if 0 ≤ (l0.length : Int) then (if (l0.length : Int) ≤ (y509.length : Int) then (if 0 ≤ (l1.length : Int) then (if (l1.length : Int) ≤ (y521.length : Int) then ((nat_Add.f (y509.take ((l0.length : Int) : Int).toNat) (y521.take ((l1.length : Int) : Int).toNat)).bind fun t534 => ((nat_Trim.f (y509.take ((l0.length : Int) : Int).toNat)).bind fun t542 => ((nat_Sub.f (y509.take ((l0.length : Int) : Int).toNat) (y521.take ((l1.length : Int) : Int).toNat)).bind fun bt555 => (figureheadlaw01_NatOwn.l0 k l0 l1 y509 y521 t534 t542 0)))) else (none)) else (none)) else (none)) else (none))) else (none)))) else (none)))) else (none)))) else (none))) else ((figureheadlaw01_answers.f).bind fun t499 => (some t499)))
theorem figureheadlaw01_NatOwn.mono_l : ∀ k, (∀ y0 y1 y2 y3 y4 y5 y6, LeO (figureheadlaw01_NatOwn.l0 k y0 y1 y2 y3 y4 y5 y6) (figureheadlaw01_NatOwn.l0 (k + 1) y0 y1 y2 y3 y4 y5 y6)) ∧ (∀ y0 y1 y2 y3 y4 y5, LeO (figureheadlaw01_NatOwn.l1 k y0 y1 y2 y3 y4 y5) (figureheadlaw01_NatOwn.l1 (k + 1) y0 y1 y2 y3 y4 y5))
  | 0 => ⟨fun _ _ _ _ _ _ _ r h => by simp [figureheadlaw01_NatOwn.l0] at h, fun _ _ _ _ _ _ r h => by simp [figureheadlaw01_NatOwn.l1] at h⟩
  | k + 1 => by
    obtain ⟨ih0, ih1⟩ := figureheadlaw01_NatOwn.mono_l k
    refine ⟨?_, ?_⟩
    · intro y0 y1 y2 y3 y4 y5 y6
      unfold figureheadlaw01_NatOwn.l0
      repeat' first
      | (with_reducible exact ih0 _ _ _ _ _ _ _)
      | (with_reducible exact ih1 _ _ _ _ _ _)
      | (with_reducible exact figureheadlaw01_good.mono _ _)
      | (with_reducible exact figureheadref01_Same.mono _ _ _)
      | (with_reducible exact LeO.refl _)
      | (with_reducible exact LeO.none _)
      | (with_reducible refine LeO.ite ?_ ?_)
      | (with_reducible refine LeO.bind ?_ (fun _ => ?_))
      | exact ih0 _ _ _ _ _ _ _
      | exact ih1 _ _ _ _ _ _
      | exact figureheadlaw01_good.mono _ _
      | exact figureheadref01_Same.mono _ _ _
      | exact LeO.none _
      | refine LeO.ite ?_ ?_
      | refine LeO.bind ?_ (fun _ => ?_)
    · intro y0 y1 y2 y3 y4 y5
      unfold figureheadlaw01_NatOwn.l1
      repeat' first
      | (with_reducible exact ih0 _ _ _ _ _ _ _)
      | (with_reducible exact ih1 _ _ _ _ _ _)
      | (with_reducible exact figureheadlaw01_good.mono _ _)
      | (with_reducible exact figureheadref01_Same.mono _ _ _)
      | (with_reducible exact LeO.refl _)
      | (with_reducible exact LeO.none _)
      | (with_reducible refine LeO.ite ?_ ?_)
      | (with_reducible refine LeO.bind ?_ (fun _ => ?_))
      | exact ih0 _ _ _ _ _ _ _
      | exact ih1 _ _ _ _ _ _
      | exact figureheadlaw01_good.mono _ _
      | exact figureheadref01_Same.mono _ _ _
      | exact LeO.none _
      | refine LeO.ite ?_ ?_
      | refine LeO.bind ?_ (fun _ => ?_)
theorem figureheadlaw01_NatOwn.mono : ∀ a0 a1 k, LeO (figureheadlaw01_NatOwn.f k a0 a1) (figureheadlaw01_NatOwn.f (k + 1) a0 a1) := by
  intro a0 a1 k
  obtain ⟨ih0, ih1⟩ := figureheadlaw01_NatOwn.mono_l k
  unfold figureheadlaw01_NatOwn.f
  repeat' first
      | (with_reducible exact ih0 _ _ _ _ _ _ _)
      | (with_reducible exact ih1 _ _ _ _ _ _)
      | (with_reducible exact figureheadlaw01_good.mono _ _)
      | (with_reducible exact figureheadref01_Same.mono _ _ _)
      | (with_reducible exact LeO.refl _)
      | (with_reducible exact LeO.none _)
      | (with_reducible refine LeO.ite ?_ ?_)
      | (with_reducible refine LeO.bind ?_ (fun _ => ?_))
      | exact ih0 _ _ _ _ _ _ _
      | exact ih1 _ _ _ _ _ _
      | exact figureheadlaw01_good.mono _ _
      | exact figureheadref01_Same.mono _ _ _
      | exact LeO.none _
      | refine LeO.ite ?_ ?_
      | refine LeO.bind ?_ (fun _ => ?_)
def figureheadlaw01_NatOwn.T5 : Bool × List (List Nat × List Nat) := (true, [([], []), ([], []), ([1], [1]), ([0, 2], [0, 2]), ([], []), ([], []), ([5], [5]), ([4, 6], [4, 6]), ([3, 7], [3, 7]), ([8, 8, 0, 1, 2, 3, 4, 5, 6, 7, 8], [8])])
def figureheadlaw01_NatOwn.B5 : List Nat := [0, 0, 2, 7, 0, 0, 32, 112, 255, 511]
theorem figureheadlaw01_NatOwn.tab5 : rtab .any (opsOf Try.f12 5) = figureheadlaw01_NatOwn.T5 := by kernel_rfl
theorem figureheadlaw01_NatOwn.bits5 : waitsOk figureheadlaw01_NatOwn.T5.2 figureheadlaw01_NatOwn.B5 = true := by kernel_rfl
def figureheadlaw01_NatOwn.T7 : Bool × List (List Nat × List Nat) := (true, [([], []), ([], []), ([1], [1]), ([0, 2], [0, 2]), ([], []), ([], []), ([5], [5]), ([4, 6], [4, 6]), ([3, 7], [3, 7])])
def figureheadlaw01_NatOwn.B7 : List Nat := [0, 0, 2, 7, 0, 0, 32, 112, 255]
theorem figureheadlaw01_NatOwn.tab7 : rtab .any (opsOf Try.f12 7) = figureheadlaw01_NatOwn.T7 := by kernel_rfl
theorem figureheadlaw01_NatOwn.bits7 : waitsOk figureheadlaw01_NatOwn.T7.2 figureheadlaw01_NatOwn.B7 = true := by kernel_rfl
set_option maxHeartbeats 8000000 in
set_option maxRecDepth 100000 in
theorem figureheadlaw01_NatOwn.calls (k : Nat) (P0_ : Nat → Prop) (A0 : Option Addr) (c0 : Nat) (l0 : List Int) (P1_ : Nat → Prop) (A1 : Option Addr) (c1 : Nat) (l1 : List Int) (r : Bool) (w : World) (HT : Aside0 (r = true)) (hs0 : Kd.V (Kd.int .u32) 30 w w.heap.size (fun k_ => P0_ k_) (.slice A0 l0.length c0) l0) (hs1 : Kd.V (Kd.int .u32) 30 w w.heap.size (fun k_ => P1_ k_) (.slice A1 l1.length c1) l1) (h : figureheadlaw01_NatOwn.f k l0 l1 = some r) :
    Calls Try.prog 12 #[.slice A0 l0.length c0, .slice A1 l1.length c1] w fun e w' => e = .returned (.bool r) ∧ Below w.heap.size w w' := by
  have HO0 := Aside0.mk (show Kd.V (Kd.int .u32) 30 w w.heap.size (fun k_ => ((P0_ k_ ∨ P1_ k_) ∨ w.heap.size ≤ k_)) (.slice A0 l0.length c0) l0 from Kd.V_mono hs0 (fun k_ hk => .inl (.inl hk)))
  have HO1 := Aside0.mk (show Kd.V (Kd.int .u32) 30 w w.heap.size (fun k_ => ((P0_ k_ ∨ P1_ k_) ∨ w.heap.size ≤ k_)) (.slice A1 l1.length c1) l1 from Kd.V_mono hs1 (fun k_ hk => .inl (.inr hk)))
  have HB := Aside0.mk (Below.refl w.heap.size w)
  have H : ((figureheadlaw01_good.f k (([l0, l1] : List (List Int)))).bind fun t498 => (if t498 = true then ((some (([] : List Int) : List Int)).bind fun y500 => (if y500.length + l0.length < 35184372088832 then ((some (y500 ++ l0 : List Int)).bind fun y503 => ((some (([7, 7] : List Int) : List Int)).bind fun y506 => (if y503.length + y506.length < 35184372088832 then ((some (y503 ++ y506 : List Int)).bind fun y509 => ((some (([] : List Int) : List Int)).bind fun y512 => (if y512.length + l1.length < 35184372088832 then ((some (y512 ++ l1 : List Int)).bind fun y515 => ((some (([8, 8] : List Int) : List Int)).bind fun y518 => (if y515.length + y518.length < 35184372088832 then ((some (y515 ++ y518 : List Int)).bind fun y521 => (if 0 ≤ (l0.length : Int) then (if (l0.length : Int) ≤ (y509.length : Int) then (if 0 ≤ (l1.length : Int) then (if (l1.length : Int) ≤ (y521.length : Int) then ((nat_Add.f (y509.take ((l0.length : Int) : Int).toNat) (y521.take ((l1.length : Int) : Int).toNat)).bind fun t534 => ((nat_Trim.f (y509.take ((l0.length : Int) : Int).toNat)).bind fun t542 => ((nat_Sub.f (y509.take ((l0.length : Int) : Int).toNat) (y521.take ((l1.length : Int) : Int).toNat)).bind fun bt555 => (figureheadlaw01_NatOwn.l0 k l0 l1 y509 y521 t534 t542 0)))) else (none)) else (none)) else (none)) else (none))) else (none)))) else (none)))) else (none)))) else (none))) else ((figureheadlaw01_answers.f).bind fun t499 => (some t499)))) = some r := h
  clear h
  obtain ⟨y495, hy495⟩ : ∃ y_ : List (List Int), y_ = (([l0, l1] : List (List Int))) := ⟨_, rfl⟩
  replace H : ((figureheadlaw01_good.f k y495).bind fun t498 => (if t498 = true then ((some (([] : List Int) : List Int)).bind fun y500 => (if y500.length + l0.length < 35184372088832 then ((some (y500 ++ l0 : List Int)).bind fun y503 => ((some (([7, 7] : List Int) : List Int)).bind fun y506 => (if y503.length + y506.length < 35184372088832 then ((some (y503 ++ y506 : List Int)).bind fun y509 => ((some (([] : List Int) : List Int)).bind fun y512 => (if y512.length + l1.length < 35184372088832 then ((some (y512 ++ l1 : List Int)).bind fun y515 => ((some (([8, 8] : List Int) : List Int)).bind fun y518 => (if y515.length + y518.length < 35184372088832 then ((some (y515 ++ y518 : List Int)).bind fun y521 => (if 0 ≤ (l0.length : Int) then (if (l0.length : Int) ≤ (y509.length : Int) then (if 0 ≤ (l1.length : Int) then (if (l1.length : Int) ≤ (y521.length : Int) then ((nat_Add.f (y509.take ((l0.length : Int) : Int).toNat) (y521.take ((l1.length : Int) : Int).toNat)).bind fun t534 => ((nat_Trim.f (y509.take ((l0.length : Int) : Int).toNat)).bind fun t542 => ((nat_Sub.f (y509.take ((l0.length : Int) : Int).toNat) (y521.take ((l1.length : Int) : Int).toNat)).bind fun bt555 => (figureheadlaw01_NatOwn.l0 k l0 l1 y509 y521 t534 t542 0)))) else (none)) else (none)) else (none)) else (none))) else (none)))) else (none)))) else (none)))) else (none))) else ((figureheadlaw01_answers.f).bind fun t499 => (some t499)))) = some r := by first | (rw [hy495]; with_reducible exact H) | (have H2_ := (Option.bind_some _ _).symm.trans H; rw [hy495]; with_reducible exact H2_) | (have H2_ := (Option.bind_some _ _).symm.trans H; with_reducible exact H2_) | with_reducible exact H | (rw [hy495]; exact H) | exact H
  have Ny495 := Aside0.mk hy495
  clear hy495
  replace H := Option.bind_eq_some_iff.mp H
  obtain ⟨t498, A30, H⟩ := H
  replace H : (if t498 = true then ((some (([] : List Int) : List Int)).bind fun y500 => (if y500.length + l0.length < 35184372088832 then ((some (y500 ++ l0 : List Int)).bind fun y503 => ((some (([7, 7] : List Int) : List Int)).bind fun y506 => (if y503.length + y506.length < 35184372088832 then ((some (y503 ++ y506 : List Int)).bind fun y509 => ((some (([] : List Int) : List Int)).bind fun y512 => (if y512.length + l1.length < 35184372088832 then ((some (y512 ++ l1 : List Int)).bind fun y515 => ((some (([8, 8] : List Int) : List Int)).bind fun y518 => (if y515.length + y518.length < 35184372088832 then ((some (y515 ++ y518 : List Int)).bind fun y521 => (if 0 ≤ (l0.length : Int) then (if (l0.length : Int) ≤ (y509.length : Int) then (if 0 ≤ (l1.length : Int) then (if (l1.length : Int) ≤ (y521.length : Int) then ((nat_Add.f (y509.take ((l0.length : Int) : Int).toNat) (y521.take ((l1.length : Int) : Int).toNat)).bind fun t534 => ((nat_Trim.f (y509.take ((l0.length : Int) : Int).toNat)).bind fun t542 => ((nat_Sub.f (y509.take ((l0.length : Int) : Int).toNat) (y521.take ((l1.length : Int) : Int).toNat)).bind fun bt555 => (figureheadlaw01_NatOwn.l0 k l0 l1 y509 y521 t534 t542 0)))) else (none)) else (none)) else (none)) else (none))) else (none)))) else (none)))) else (none)))) else (none))) else ((figureheadlaw01_answers.f).bind fun t499 => (some t499))) = some r := H
  have A3 := Aside0.mk A30
  clear A30
  by_cases c4 : t498 = true
  · subst c4
    have H1 : ((some (([] : List Int) : List Int)).bind fun y500 => (if y500.length + l0.length < 35184372088832 then ((some (y500 ++ l0 : List Int)).bind fun y503 => ((some (([7, 7] : List Int) : List Int)).bind fun y506 => (if y503.length + y506.length < 35184372088832 then ((some (y503 ++ y506 : List Int)).bind fun y509 => ((some (([] : List Int) : List Int)).bind fun y512 => (if y512.length + l1.length < 35184372088832 then ((some (y512 ++ l1 : List Int)).bind fun y515 => ((some (([8, 8] : List Int) : List Int)).bind fun y518 => (if y515.length + y518.length < 35184372088832 then ((some (y515 ++ y518 : List Int)).bind fun y521 => (if 0 ≤ (l0.length : Int) then (if (l0.length : Int) ≤ (y509.length : Int) then (if 0 ≤ (l1.length : Int) then (if (l1.length : Int) ≤ (y521.length : Int) then ((nat_Add.f (y509.take ((l0.length : Int) : Int).toNat) (y521.take ((l1.length : Int) : Int).toNat)).bind fun t534 => ((nat_Trim.f (y509.take ((l0.length : Int) : Int).toNat)).bind fun t542 => ((nat_Sub.f (y509.take ((l0.length : Int) : Int).toNat) (y521.take ((l1.length : Int) : Int).toNat)).bind fun bt555 => (figureheadlaw01_NatOwn.l0 k l0 l1 y509 y521 t534 t542 0)))) else (none)) else (none)) else (none)) else (none))) else (none)))) else (none)))) else (none)))) else (none))) = some r := by rw [if_pos rfl] at H; exact H
    clear H
    have H := H1
    clear H1
    obtain ⟨y500, hy500⟩ : ∃ y_ : List Int, y_ = (([] : List Int)) := ⟨_, rfl⟩
    replace H : (if y500.length + l0.length < 35184372088832 then ((some (y500 ++ l0 : List Int)).bind fun y503 => ((some (([7, 7] : List Int) : List Int)).bind fun y506 => (if y503.length + y506.length < 35184372088832 then ((some (y503 ++ y506 : List Int)).bind fun y509 => ((some (([] : List Int) : List Int)).bind fun y512 => (if y512.length + l1.length < 35184372088832 then ((some (y512 ++ l1 : List Int)).bind fun y515 => ((some (([8, 8] : List Int) : List Int)).bind fun y518 => (if y515.length + y518.length < 35184372088832 then ((some (y515 ++ y518 : List Int)).bind fun y521 => (if 0 ≤ (l0.length : Int) then (if (l0.length : Int) ≤ (y509.length : Int) then (if 0 ≤ (l1.length : Int) then (if (l1.length : Int) ≤ (y521.length : Int) then ((nat_Add.f (y509.take ((l0.length : Int) : Int).toNat) (y521.take ((l1.length : Int) : Int).toNat)).bind fun t534 => ((nat_Trim.f (y509.take ((l0.length : Int) : Int).toNat)).bind fun t542 => ((nat_Sub.f (y509.take ((l0.length : Int) : Int).toNat) (y521.take ((l1.length : Int) : Int).toNat)).bind fun bt555 => (figureheadlaw01_NatOwn.l0 k l0 l1 y509 y521 t534 t542 0)))) else (none)) else (none)) else (none)) else (none))) else (none)))) else (none)))) else (none)))) else (none)) = some r := by first | (rw [hy500]; with_reducible exact H) | (have H2_ := (Option.bind_some _ _).symm.trans H; rw [hy500]; with_reducible exact H2_) | (have H2_ := (Option.bind_some _ _).symm.trans H; with_reducible exact H2_) | with_reducible exact H | (rw [hy500]; exact H) | exact H
    have Ny500 := Aside0.mk hy500
    clear hy500
    by_cases c5 : y500.length + l0.length < 35184372088832
    · rw [if_pos c5] at H
      have LMc5 := Aside0.mk c5
      clear c5
      obtain ⟨y503, hy503⟩ : ∃ y_ : List Int, y_ = (y500 ++ l0) := ⟨_, rfl⟩
      replace H : ((some (([7, 7] : List Int) : List Int)).bind fun y506 => (if y503.length + y506.length < 35184372088832 then ((some (y503 ++ y506 : List Int)).bind fun y509 => ((some (([] : List Int) : List Int)).bind fun y512 => (if y512.length + l1.length < 35184372088832 then ((some (y512 ++ l1 : List Int)).bind fun y515 => ((some (([8, 8] : List Int) : List Int)).bind fun y518 => (if y515.length + y518.length < 35184372088832 then ((some (y515 ++ y518 : List Int)).bind fun y521 => (if 0 ≤ (l0.length : Int) then (if (l0.length : Int) ≤ (y509.length : Int) then (if 0 ≤ (l1.length : Int) then (if (l1.length : Int) ≤ (y521.length : Int) then ((nat_Add.f (y509.take ((l0.length : Int) : Int).toNat) (y521.take ((l1.length : Int) : Int).toNat)).bind fun t534 => ((nat_Trim.f (y509.take ((l0.length : Int) : Int).toNat)).bind fun t542 => ((nat_Sub.f (y509.take ((l0.length : Int) : Int).toNat) (y521.take ((l1.length : Int) : Int).toNat)).bind fun bt555 => (figureheadlaw01_NatOwn.l0 k l0 l1 y509 y521 t534 t542 0)))) else (none)) else (none)) else (none)) else (none))) else (none)))) else (none)))) else (none))) = some r := by first | (rw [hy503]; with_reducible exact H) | (have H2_ := (Option.bind_some _ _).symm.trans H; rw [hy503]; with_reducible exact H2_) | (have H2_ := (Option.bind_some _ _).symm.trans H; with_reducible exact H2_) | with_reducible exact H | (rw [hy503]; exact H) | exact H
      have Ny503 := Aside0.mk hy503
      clear hy503
      obtain ⟨y506, hy506⟩ : ∃ y_ : List Int, y_ = (([7, 7] : List Int)) := ⟨_, rfl⟩
      replace H : (if y503.length + y506.length < 35184372088832 then ((some (y503 ++ y506 : List Int)).bind fun y509 => ((some (([] : List Int) : List Int)).bind fun y512 => (if y512.length + l1.length < 35184372088832 then ((some (y512 ++ l1 : List Int)).bind fun y515 => ((some (([8, 8] : List Int) : List Int)).bind fun y518 => (if y515.length + y518.length < 35184372088832 then ((some (y515 ++ y518 : List Int)).bind fun y521 => (if 0 ≤ (l0.length : Int) then (if (l0.length : Int) ≤ (y509.length : Int) then (if 0 ≤ (l1.length : Int) then (if (l1.length : Int) ≤ (y521.length : Int) then ((nat_Add.f (y509.take ((l0.length : Int) : Int).toNat) (y521.take ((l1.length : Int) : Int).toNat)).bind fun t534 => ((nat_Trim.f (y509.take ((l0.length : Int) : Int).toNat)).bind fun t542 => ((nat_Sub.f (y509.take ((l0.length : Int) : Int).toNat) (y521.take ((l1.length : Int) : Int).toNat)).bind fun bt555 => (figureheadlaw01_NatOwn.l0 k l0 l1 y509 y521 t534 t542 0)))) else (none)) else (none)) else (none)) else (none))) else (none)))) else (none)))) else (none)) = some r := by first | (rw [hy506]; with_reducible exact H) | (have H2_ := (Option.bind_some _ _).symm.trans H; rw [hy506]; with_reducible exact H2_) | (have H2_ := (Option.bind_some _ _).symm.trans H; with_reducible exact H2_) | with_reducible exact H | (rw [hy506]; exact H) | exact H
      have Ny506 := Aside0.mk hy506
      clear hy506
      by_cases c6 : y503.length + y506.length < 35184372088832
      · rw [if_pos c6] at H
        have LMc6 := Aside0.mk c6
        clear c6
        obtain ⟨y509, hy509⟩ : ∃ y_ : List Int, y_ = (y503 ++ y506) := ⟨_, rfl⟩
        replace H : ((some (([] : List Int) : List Int)).bind fun y512 => (if y512.length + l1.length < 35184372088832 then ((some (y512 ++ l1 : List Int)).bind fun y515 => ((some (([8, 8] : List Int) : List Int)).bind fun y518 => (if y515.length + y518.length < 35184372088832 then ((some (y515 ++ y518 : List Int)).bind fun y521 => (if 0 ≤ (l0.length : Int) then (if (l0.length : Int) ≤ (y509.length : Int) then (if 0 ≤ (l1.length : Int) then (if (l1.length : Int) ≤ (y521.length : Int) then ((nat_Add.f (y509.take ((l0.length : Int) : Int).toNat) (y521.take ((l1.length : Int) : Int).toNat)).bind fun t534 => ((nat_Trim.f (y509.take ((l0.length : Int) : Int).toNat)).bind fun t542 => ((nat_Sub.f (y509.take ((l0.length : Int) : Int).toNat) (y521.take ((l1.length : Int) : Int).toNat)).bind fun bt555 => (figureheadlaw01_NatOwn.l0 k l0 l1 y509 y521 t534 t542 0)))) else (none)) else (none)) else (none)) else (none))) else (none)))) else (none))) = some r := by first | (rw [hy509]; with_reducible exact H) | (have H2_ := (Option.bind_some _ _).symm.trans H; rw [hy509]; with_reducible exact H2_) | (have H2_ := (Option.bind_some _ _).symm.trans H; with_reducible exact H2_) | with_reducible exact H | (rw [hy509]; exact H) | exact H
        have Ny509 := Aside0.mk hy509
        clear hy509
        obtain ⟨y512, hy512⟩ : ∃ y_ : List Int, y_ = (([] : List Int)) := ⟨_, rfl⟩
        replace H : (if y512.length + l1.length < 35184372088832 then ((some (y512 ++ l1 : List Int)).bind fun y515 => ((some (([8, 8] : List Int) : List Int)).bind fun y518 => (if y515.length + y518.length < 35184372088832 then ((some (y515 ++ y518 : List Int)).bind fun y521 => (if 0 ≤ (l0.length : Int) then (if (l0.length : Int) ≤ (y509.length : Int) then (if 0 ≤ (l1.length : Int) then (if (l1.length : Int) ≤ (y521.length : Int) then ((nat_Add.f (y509.take ((l0.length : Int) : Int).toNat) (y521.take ((l1.length : Int) : Int).toNat)).bind fun t534 => ((nat_Trim.f (y509.take ((l0.length : Int) : Int).toNat)).bind fun t542 => ((nat_Sub.f (y509.take ((l0.length : Int) : Int).toNat) (y521.take ((l1.length : Int) : Int).toNat)).bind fun bt555 => (figureheadlaw01_NatOwn.l0 k l0 l1 y509 y521 t534 t542 0)))) else (none)) else (none)) else (none)) else (none))) else (none)))) else (none)) = some r := by first | (rw [hy512]; with_reducible exact H) | (have H2_ := (Option.bind_some _ _).symm.trans H; rw [hy512]; with_reducible exact H2_) | (have H2_ := (Option.bind_some _ _).symm.trans H; with_reducible exact H2_) | with_reducible exact H | (rw [hy512]; exact H) | exact H
        have Ny512 := Aside0.mk hy512
        clear hy512
        by_cases c7 : y512.length + l1.length < 35184372088832
        · rw [if_pos c7] at H
          have LMc7 := Aside0.mk c7
          clear c7
          obtain ⟨y515, hy515⟩ : ∃ y_ : List Int, y_ = (y512 ++ l1) := ⟨_, rfl⟩
          replace H : ((some (([8, 8] : List Int) : List Int)).bind fun y518 => (if y515.length + y518.length < 35184372088832 then ((some (y515 ++ y518 : List Int)).bind fun y521 => (if 0 ≤ (l0.length : Int) then (if (l0.length : Int) ≤ (y509.length : Int) then (if 0 ≤ (l1.length : Int) then (if (l1.length : Int) ≤ (y521.length : Int) then ((nat_Add.f (y509.take ((l0.length : Int) : Int).toNat) (y521.take ((l1.length : Int) : Int).toNat)).bind fun t534 => ((nat_Trim.f (y509.take ((l0.length : Int) : Int).toNat)).bind fun t542 => ((nat_Sub.f (y509.take ((l0.length : Int) : Int).toNat) (y521.take ((l1.length : Int) : Int).toNat)).bind fun bt555 => (figureheadlaw01_NatOwn.l0 k l0 l1 y509 y521 t534 t542 0)))) else (none)) else (none)) else (none)) else (none))) else (none))) = some r := by first | (rw [hy515]; with_reducible exact H) | (have H2_ := (Option.bind_some _ _).symm.trans H; rw [hy515]; with_reducible exact H2_) | (have H2_ := (Option.bind_some _ _).symm.trans H; with_reducible exact H2_) | with_reducible exact H | (rw [hy515]; exact H) | exact H
          have Ny515 := Aside0.mk hy515
          clear hy515
          obtain ⟨y518, hy518⟩ : ∃ y_ : List Int, y_ = (([8, 8] : List Int)) := ⟨_, rfl⟩
          replace H : (if y515.length + y518.length < 35184372088832 then ((some (y515 ++ y518 : List Int)).bind fun y521 => (if 0 ≤ (l0.length : Int) then (if (l0.length : Int) ≤ (y509.length : Int) then (if 0 ≤ (l1.length : Int) then (if (l1.length : Int) ≤ (y521.length : Int) then ((nat_Add.f (y509.take ((l0.length : Int) : Int).toNat) (y521.take ((l1.length : Int) : Int).toNat)).bind fun t534 => ((nat_Trim.f (y509.take ((l0.length : Int) : Int).toNat)).bind fun t542 => ((nat_Sub.f (y509.take ((l0.length : Int) : Int).toNat) (y521.take ((l1.length : Int) : Int).toNat)).bind fun bt555 => (figureheadlaw01_NatOwn.l0 k l0 l1 y509 y521 t534 t542 0)))) else (none)) else (none)) else (none)) else (none))) else (none)) = some r := by first | (rw [hy518]; with_reducible exact H) | (have H2_ := (Option.bind_some _ _).symm.trans H; rw [hy518]; with_reducible exact H2_) | (have H2_ := (Option.bind_some _ _).symm.trans H; with_reducible exact H2_) | with_reducible exact H | (rw [hy518]; exact H) | exact H
          have Ny518 := Aside0.mk hy518
          clear hy518
          by_cases c8 : y515.length + y518.length < 35184372088832
          · rw [if_pos c8] at H
            have LMc8 := Aside0.mk c8
            clear c8
            obtain ⟨y521, hy521⟩ : ∃ y_ : List Int, y_ = (y515 ++ y518) := ⟨_, rfl⟩
            replace H : (if 0 ≤ (l0.length : Int) then (if (l0.length : Int) ≤ (y509.length : Int) then (if 0 ≤ (l1.length : Int) then (if (l1.length : Int) ≤ (y521.length : Int) then ((nat_Add.f (y509.take ((l0.length : Int) : Int).toNat) (y521.take ((l1.length : Int) : Int).toNat)).bind fun t534 => ((nat_Trim.f (y509.take ((l0.length : Int) : Int).toNat)).bind fun t542 => ((nat_Sub.f (y509.take ((l0.length : Int) : Int).toNat) (y521.take ((l1.length : Int) : Int).toNat)).bind fun bt555 => (figureheadlaw01_NatOwn.l0 k l0 l1 y509 y521 t534 t542 0)))) else (none)) else (none)) else (none)) else (none)) = some r := by first | (rw [hy521]; with_reducible exact H) | (have H2_ := (Option.bind_some _ _).symm.trans H; rw [hy521]; with_reducible exact H2_) | (have H2_ := (Option.bind_some _ _).symm.trans H; with_reducible exact H2_) | with_reducible exact H | (rw [hy521]; exact H) | exact H
            have Ny521 := Aside0.mk hy521
            clear hy521
            by_cases c9 : 0 ≤ (l0.length : Int)
            · rw [if_pos c9] at H
              have c9b0 := eq_true c9
              have c9b1 : decide (0 ≤ (l0.length : Int)) = true := decide_eq_true c9
              clear c9
              by_cases c10 : (l0.length : Int) ≤ (y509.length : Int)
              · rw [if_pos c10] at H
                have c10b0 := eq_true c10
                have c10b1 : decide ((l0.length : Int) ≤ (y509.length : Int)) = true := decide_eq_true c10
                clear c10
                obtain ⟨y524, hy524⟩ : ∃ y_ : List Int, y_ = (y509.take ((l0.length : Int) : Int).toNat) := ⟨_, rfl⟩
                replace H : (if 0 ≤ (l1.length : Int) then (if (l1.length : Int) ≤ (y521.length : Int) then ((nat_Add.f y524 (y521.take ((l1.length : Int) : Int).toNat)).bind fun t534 => ((nat_Trim.f (y509.take ((l0.length : Int) : Int).toNat)).bind fun t542 => ((nat_Sub.f (y509.take ((l0.length : Int) : Int).toNat) (y521.take ((l1.length : Int) : Int).toNat)).bind fun bt555 => (figureheadlaw01_NatOwn.l0 k l0 l1 y509 y521 t534 t542 0)))) else (none)) else (none)) = some r := by first | (rw [hy524]; with_reducible exact H) | (have H2_ := (Option.bind_some _ _).symm.trans H; rw [hy524]; with_reducible exact H2_) | (have H2_ := (Option.bind_some _ _).symm.trans H; with_reducible exact H2_) | with_reducible exact H | (rw [hy524]; exact H) | exact H
                have Ny524 := Aside0.mk hy524
                clear hy524
                by_cases c11 : 0 ≤ (l1.length : Int)
                · rw [if_pos c11] at H
                  have c11b0 := eq_true c11
                  have c11b1 : decide (0 ≤ (l1.length : Int)) = true := decide_eq_true c11
                  clear c11
                  by_cases c12 : (l1.length : Int) ≤ (y521.length : Int)
                  · rw [if_pos c12] at H
                    have c12b0 := eq_true c12
                    have c12b1 : decide ((l1.length : Int) ≤ (y521.length : Int)) = true := decide_eq_true c12
                    clear c12
                    obtain ⟨y529, hy529⟩ : ∃ y_ : List Int, y_ = (y521.take ((l1.length : Int) : Int).toNat) := ⟨_, rfl⟩
                    replace H : ((nat_Add.f y524 y529).bind fun t534 => ((nat_Trim.f (y509.take ((l0.length : Int) : Int).toNat)).bind fun t542 => ((nat_Sub.f (y509.take ((l0.length : Int) : Int).toNat) (y521.take ((l1.length : Int) : Int).toNat)).bind fun bt555 => (figureheadlaw01_NatOwn.l0 k l0 l1 y509 y521 t534 t542 0)))) = some r := by first | (rw [hy529]; with_reducible exact H) | (have H2_ := (Option.bind_some _ _).symm.trans H; rw [hy529]; with_reducible exact H2_) | (have H2_ := (Option.bind_some _ _).symm.trans H; with_reducible exact H2_) | with_reducible exact H | (rw [hy529]; exact H) | exact H
                    have Ny529 := Aside0.mk hy529
                    clear hy529
                    replace H := Option.bind_eq_some_iff.mp H
                    obtain ⟨t534, A130, H⟩ := H
                    replace H : ((nat_Trim.f (y509.take ((l0.length : Int) : Int).toNat)).bind fun t542 => ((nat_Sub.f (y509.take ((l0.length : Int) : Int).toNat) (y521.take ((l1.length : Int) : Int).toNat)).bind fun bt555 => (figureheadlaw01_NatOwn.l0 k l0 l1 y509 y521 t534 t542 0))) = some r := H
                    have A13 := Aside0.mk A130
                    clear A130
                    have c14b0 := eq_true (of_decide_eq_true (by first | (with_reducible assumption) | assumption) : 0 ≤ (l0.length : Int))
                    have c15b0 := eq_true (of_decide_eq_true (by first | (with_reducible assumption) | assumption) : (l0.length : Int) ≤ (y509.length : Int))
                    obtain ⟨y537, hy537⟩ : ∃ y_ : List Int, y_ = (y509.take ((l0.length : Int) : Int).toNat) := ⟨_, rfl⟩
                    replace H : ((nat_Trim.f y537).bind fun t542 => ((nat_Sub.f (y509.take ((l0.length : Int) : Int).toNat) (y521.take ((l1.length : Int) : Int).toNat)).bind fun bt555 => (figureheadlaw01_NatOwn.l0 k l0 l1 y509 y521 t534 t542 0))) = some r := by first | (rw [hy537]; with_reducible exact H) | (have H2_ := (Option.bind_some _ _).symm.trans H; rw [hy537]; with_reducible exact H2_) | (have H2_ := (Option.bind_some _ _).symm.trans H; with_reducible exact H2_) | with_reducible exact H | (rw [hy537]; exact H) | exact H
                    have Ny537 := Aside0.mk hy537
                    clear hy537
                    replace H := Option.bind_eq_some_iff.mp H
                    obtain ⟨t542, A160, H⟩ := H
                    replace H : ((nat_Sub.f (y509.take ((l0.length : Int) : Int).toNat) (y521.take ((l1.length : Int) : Int).toNat)).bind fun bt555 => (figureheadlaw01_NatOwn.l0 k l0 l1 y509 y521 t534 t542 0)) = some r := H
                    have A16 := Aside0.mk A160
                    clear A160
                    have c17b0 := eq_true (of_decide_eq_true (by first | (with_reducible assumption) | assumption) : 0 ≤ (l0.length : Int))
                    have c18b0 := eq_true (of_decide_eq_true (by first | (with_reducible assumption) | assumption) : (l0.length : Int) ≤ (y509.length : Int))
                    obtain ⟨y545, hy545⟩ : ∃ y_ : List Int, y_ = (y509.take ((l0.length : Int) : Int).toNat) := ⟨_, rfl⟩
                    replace H : ((nat_Sub.f y545 (y521.take ((l1.length : Int) : Int).toNat)).bind fun bt555 => (figureheadlaw01_NatOwn.l0 k l0 l1 y509 y521 t534 t542 0)) = some r := by first | (rw [hy545]; with_reducible exact H) | (have H2_ := (Option.bind_some _ _).symm.trans H; rw [hy545]; with_reducible exact H2_) | (have H2_ := (Option.bind_some _ _).symm.trans H; with_reducible exact H2_) | with_reducible exact H | (rw [hy545]; exact H) | exact H
                    have Ny545 := Aside0.mk hy545
                    clear hy545
                    have c19b0 := eq_true (of_decide_eq_true (by first | (with_reducible assumption) | assumption) : 0 ≤ (l1.length : Int))
                    have c20b0 := eq_true (of_decide_eq_true (by first | (with_reducible assumption) | assumption) : (l1.length : Int) ≤ (y521.length : Int))
                    obtain ⟨y550, hy550⟩ : ∃ y_ : List Int, y_ = (y521.take ((l1.length : Int) : Int).toNat) := ⟨_, rfl⟩
                    replace H : ((nat_Sub.f y545 y550).bind fun bt555 => (figureheadlaw01_NatOwn.l0 k l0 l1 y509 y521 t534 t542 0)) = some r := by first | (rw [hy550]; with_reducible exact H) | (have H2_ := (Option.bind_some _ _).symm.trans H; rw [hy550]; with_reducible exact H2_) | (have H2_ := (Option.bind_some _ _).symm.trans H; with_reducible exact H2_) | with_reducible exact H | (rw [hy550]; exact H) | exact H
                    have Ny550 := Aside0.mk hy550
                    clear hy550
                    replace H := Option.bind_eq_some_iff.mp H
                    obtain ⟨⟨t555, t556⟩, A210, H⟩ := H
                    replace H : (figureheadlaw01_NatOwn.l0 k l0 l1 y509 y521 t534 t542 0) = some r := H
                    have A21 := Aside0.mk A210
                    clear A210
                    have H' := Aside0.mk H
                    clear H
                    go_enter Try.func12, Try.ntmps12
                    try go_wp2_with (first | ((with_reducible refine gate_dst (N := 13) rfl ?_); (try (refine gate_guard (by rfl) ?_; dsimp only)); refine Kd.N_lit (Kd.slice 30 (Kd.int .u32)) _ 22 ?hg (N' := 13) ?hd (xs := ([l0, l1] : List (List Int))) (inner := [.slice A0 l0.length c0, .slice A1 l1.length c1]) (ok := (fun k_ => ((P0_ k_ ∨ P1_ k_) ∨ w.heap.size ≤ k_))) (okp := (fun k_ => ((P0_ k_ ∨ P1_ k_) ∨ w.heap.size ≤ k_))) ?hr ?hp (fun _ hk => hk) ((show ∀ k_, w.heap.size ≤ k_ → (fun k_ => ((P0_ k_ ∨ P1_ k_) ∨ w.heap.size ≤ k_)) k_ from fun k_ hk => (.inr (Nat.le_trans (below_size (by repeat (first | (with_reducible first | exact HB.out | apply below_alloc | apply pw_below_drewN | apply below_drew1) | exact HB.out))) hk))) _ (Nat.le_refl _)) (Below.refl _ _) (Nat.le_refl _) (by simp) ?_; (case hd => rfl); (case hg => rfl); (case hr => first | (go_simp; done) | (go_simp; rfl)); (case hp => exact (Reps.one (show Kd.FK (Kd.slice 30 (Kd.int .u32)) _ _ l0 [.slice A0 l0.length c0] from (Kd.FK_slice_mk (Kd.V_reads' (Kd.V_mono (ok' := (fun k_ => ((P0_ k_ ∨ P1_ k_) ∨ w.heap.size ≤ k_))) (HO0.out) (fun k_ hk => hk))).2.1 (Kd.V_F (Kd.V_mono (ok' := (fun k_ => ((P0_ k_ ∨ P1_ k_) ∨ w.heap.size ≤ k_))) (HO0.out) (fun k_ hk => hk))))) (Reps.one (show Kd.FK (Kd.slice 30 (Kd.int .u32)) _ _ l1 [.slice A1 l1.length c1] from (Kd.FK_slice_mk (Kd.V_reads' (Kd.V_mono (ok' := (fun k_ => ((P0_ k_ ∨ P1_ k_) ∨ w.heap.size ≤ k_))) (HO1.out) (fun k_ hk => hk))).2.1 (Kd.V_F (Kd.V_mono (ok' := (fun k_ => ((P0_ k_ ∨ P1_ k_) ∨ w.heap.size ≤ k_))) (HO1.out) (fun k_ hk => hk))))) (Reps.none _ _)))); intro v496 w22 ho23 hb hg_ hnew_; clear hg_ hnew_; (first | rw [← Ny495.out] at ho23 | (simp only [Int.reduceToNat] at ho23; rw [← Ny495.out] at ho23)); have n0_ := Aside0.mk (Kd.V_elder' (by (with_reducible repeat (first | apply Kd.V_alloc | apply Kd.V_drewN | apply Kd.V_drew)); exact HO0.out) (Kd.N_base ho23) hb); have n1_ := Aside0.mk (Kd.V_elder' (by (with_reducible repeat (first | apply Kd.V_alloc | apply Kd.V_drewN | apply Kd.V_drew)); exact HO1.out) (Kd.N_base ho23) hb); have n2_ := Aside0.mk (Kd.N_lower ho23 (below_size (by repeat (first | (with_reducible first | exact HB.out | apply below_alloc | apply pw_below_drewN | apply below_drew1) | exact HB.out)))); have n3_ := Aside0.mk (below_step (by repeat (first | (with_reducible first | exact HB.out | apply below_alloc | apply pw_below_drewN | apply below_drew1) | exact HB.out)) hb); clear HO0; clear HO1; clear HB; have HO0 := n0_; have HO1 := n1_; have HO497 := n2_; have HB := n3_; clear n0_ n1_ n2_ n3_; clear hb ho23; obtain ⟨Ao24, co24, eo24⟩ := Kd.N_slice HO497.out; subst eo24) | ((with_reducible refine gate_callee (f := 24) rfl ?_); refine goesL_ (some 14) rfl rfl Try.func24 (by kernel_rfl) rfl #[.slice Ao24 y495.length co24] rfl (by (try simp only [List.map_toArray, List.map_cons, List.map_nil]); first | done | rfl | (simp only [List.length_drop, List.length_take]; rfl)) ?_; (with_reducible refine (figureheadlaw01_good.calls k _ _ y495 true _ ?side1 ?side2 A3.out).mono ?_); (case side1 => repeat (first | exact (Kd.N_reads' HO497.out).2.2 | (with_reducible refine Kd.C_alloc ?_ _) | (with_reducible refine Kd.C_drewN ?_ _) | (with_reducible refine Kd.C_drew ?_))); (case side2 => exact (Kd.N_reads' HO497.out).2.1); rintro e w' ⟨rfl, ⟨nd, rfl⟩⟩; refine ⟨_, rfl, ?_⟩) | ((with_reducible refine gate_dst (N := 17) rfl ?_); (try (refine gate_guard (by rfl) ?_; dsimp only)); refine Kd.R_lit (Kd.int .u32) _ 30 ?hg (N := 17) ?hd (xs := ([] : List Int)) (inner := []) (ok := fun _ => True) (okp := fun _ => True) ?hr ?hp (fun _ hk => hk) trivial (Below.refl _ _) (Nat.le_refl _) (by simp) ?_; (case hd => rfl); (case hg => rfl); (case hr => first | (go_simp; done) | (go_simp; rfl)); (case hp => exact (Reps.none _ _)); intro v501 w25 ho26 hb hg_ hnew_; clear hg_ hnew_; (first | rw [← Ny500.out] at ho26 | (simp only [Int.reduceToNat] at ho26; rw [← Ny500.out] at ho26)); have n0_ := Aside0.mk (Kd.V_elder' (by (with_reducible repeat (first | apply Kd.V_alloc | apply Kd.V_drewN | apply Kd.V_drew)); exact HO0.out) (Kd.R_base ho26) hb); have n1_ := Aside0.mk (Kd.V_elder' (by (with_reducible repeat (first | apply Kd.V_alloc | apply Kd.V_drewN | apply Kd.V_drew)); exact HO1.out) (Kd.R_base ho26) hb); have n2_ := Aside0.mk (Kd.N_elder' (by (with_reducible repeat (first | apply Kd.N_alloc | apply Kd.N_drewN | apply Kd.N_drew)); exact HO497.out) (Kd.R_base ho26) hb); have n3_ := Aside0.mk (Kd.R_lower (Kd.R_newM (M := fun k_ => (w.heap.size ≤ k_)) ho26 (below_size (by repeat (first | (with_reducible first | exact HB.out | apply below_alloc | apply pw_below_drewN | apply below_drew1) | exact HB.out))) (fun k_ h_ => h_)) (below_size (by repeat (first | (with_reducible first | exact HB.out | apply below_alloc | apply pw_below_drewN | apply below_drew1) | exact HB.out)))); have n4_ := Aside0.mk (below_step (by repeat (first | (with_reducible first | exact HB.out | apply below_alloc | apply pw_below_drewN | apply below_drew1) | exact HB.out)) hb); clear HO0; clear HO1; clear HO497; clear HB; have HO0 := n0_; have HO1 := n1_; have HO497 := n2_; have HO502 := n3_; have HB := n4_; clear n0_ n1_ n2_ n3_ n4_; clear hb ho26) | ((with_reducible refine gate_builtin (b := .append) (xs := #[.tmp 17, .tmp 18]) rfl ?_); (try (refine gate_guard (by rfl) ?_; dsimp only)); at_builtin; refine Kd.R_append_rows (Kd.int .u32) (w0 := w) w.heap.size rfl (.tmp 17) (.tmp 18) 22 30 (.int .u32 0) 4 rfl Try.underlying22 info30 rfl (by decide) (by omega) v501 y500 l0 _ _ _ (fun k_ => (w.heap.size ≤ k_)) (fun _ => False) rfl rfl ?aO ?aR (fun _ _ h => h) (fun _ h => h.elim) ?aF ?aB ?aS ?aL ?_; (case aR => repeat (first | exact (Kd.V_reads' HO0.out).2.2 | (with_reducible refine Kd.C_alloc ?_ _) | (with_reducible refine Kd.C_drewN ?_ _) | (with_reducible refine Kd.C_drew ?_))); (case aB => exact (by repeat (first | (with_reducible first | exact HB.out | apply below_alloc | apply pw_below_drewN | apply below_drew1) | exact HB.out))); (case aF => exact (fun k_ hk => (Nat.le_trans (below_size (by repeat (first | (with_reducible first | exact HB.out | apply below_alloc | apply pw_below_drewN | apply below_drew1) | exact HB.out))) hk))); (case aO => exact (by (with_reducible repeat (first | apply Kd.R_alloc | apply Kd.R_drewN | apply Kd.R_drew)); exact Kd.R_mono HO502.out (fun _ hk => hk.1))); (case aS => exact (below_size (by repeat (first | (with_reducible first | exact HB.out | apply below_alloc | apply pw_below_drewN | apply below_drew1) | exact HB.out)))); (case aL => have := LMc5.out; omega); intro v504 w27 ho hb hg hat; rw [← Ny503.out] at ho; have n0_ := Aside0.mk (Kd.V_afterv (ok := (fun k_ => ((P0_ k_ ∨ P1_ k_) ∨ w.heap.size ≤ k_) ∧ some k_ ≠ (.slice Ao24 y495.length co24 : Value).ownBlock)) (by (with_reducible repeat (first | apply Kd.V_alloc | apply Kd.V_drewN | apply Kd.V_drew)); exact HO0.out) hg hat); have n1_ := Aside0.mk (Kd.V_afterv (ok := (fun k_ => ((P0_ k_ ∨ P1_ k_) ∨ w.heap.size ≤ k_) ∧ some k_ ≠ (.slice Ao24 y495.length co24 : Value).ownBlock)) (by (with_reducible repeat (first | apply Kd.V_alloc | apply Kd.V_drewN | apply Kd.V_drew)); exact HO1.out) hg hat); have n2_ := Aside0.mk (Kd.N_afterv (ok := (fun k_ => ((P0_ k_ ∨ P1_ k_) ∨ w.heap.size ≤ k_))) (by (with_reducible repeat (first | apply Kd.N_alloc | apply Kd.N_drewN | apply Kd.N_drew)); exact HO497.out) hg hat); have n3_ := Aside0.mk (hb); have n4_ := Aside0.mk (ho); clear HO0; clear HO1; clear HO497; clear HB; clear HO502; have HO0 := n0_; have HO1 := n1_; have HO497 := n2_; have HB := n3_; have HO505 := n4_; clear n0_ n1_ n2_ n3_ n4_; clear ho hb hg hat) | ((with_reducible refine gate_dst (N := 20) rfl ?_); (try (refine gate_guard (by rfl) ?_; dsimp only)); refine Kd.R_lit (Kd.int .u32) _ 30 ?hg (N := 20) ?hd (xs := ([7, 7] : List Int)) (inner := [.int .u32 7, .int .u32 7]) (ok := fun _ => True) (okp := fun _ => True) ?hr ?hp (fun _ hk => hk) trivial (Below.refl _ _) (Nat.le_refl _) (by simp) ?_; (case hd => rfl); (case hg => rfl); (case hr => first | (go_simp; done) | (go_simp; rfl)); (case hp => exact (Reps.one (show Kd.M (Kd.int .u32) _ _ _ 7 [.int .u32 7] from rfl) (Reps.one (show Kd.M (Kd.int .u32) _ _ _ 7 [.int .u32 7] from rfl) (Reps.none _ _)))); intro v507 w28 ho29 hb hg_ hnew_; clear hg_ hnew_; (first | rw [← Ny506.out] at ho29 | (simp only [Int.reduceToNat] at ho29; rw [← Ny506.out] at ho29)); have n0_ := Aside0.mk (Kd.V_elder' (by (with_reducible repeat (first | apply Kd.V_alloc | apply Kd.V_drewN | apply Kd.V_drew)); exact HO0.out) (Kd.R_base ho29) hb); have n1_ := Aside0.mk (Kd.V_elder' (by (with_reducible repeat (first | apply Kd.V_alloc | apply Kd.V_drewN | apply Kd.V_drew)); exact HO1.out) (Kd.R_base ho29) hb); have n2_ := Aside0.mk (Kd.N_elder' (by (with_reducible repeat (first | apply Kd.N_alloc | apply Kd.N_drewN | apply Kd.N_drew)); exact HO497.out) (Kd.R_base ho29) hb); have n3_ := Aside0.mk (Kd.R_elder' (by (with_reducible repeat (first | apply Kd.R_alloc | apply Kd.R_drewN | apply Kd.R_drew)); exact HO505.out) (Kd.R_base ho29) hb); have n4_ := Aside0.mk (Kd.R_lower (Kd.R_new' (Kd.R_newM (M := fun k_ => (w.heap.size ≤ k_)) ho29 (below_size (by repeat (first | (with_reducible first | exact HB.out | apply below_alloc | apply pw_below_drewN | apply below_drew1) | exact HB.out))) (fun k_ h_ => h_)) (Kd.R_lt (by (with_reducible repeat (first | apply Kd.R_alloc | apply Kd.R_drewN | apply Kd.R_drew)); exact HO505.out))) (below_size (by repeat (first | (with_reducible first | exact HB.out | apply below_alloc | apply pw_below_drewN | apply below_drew1) | exact HB.out)))); have n5_ := Aside0.mk (below_step (by repeat (first | (with_reducible first | exact HB.out | apply below_alloc | apply pw_below_drewN | apply below_drew1) | exact HB.out)) hb); clear HO0; clear HO1; clear HO497; clear HO505; clear HB; have HO0 := n0_; have HO1 := n1_; have HO497 := n2_; have HO505 := n3_; have HO508 := n4_; have HB := n5_; clear n0_ n1_ n2_ n3_ n4_ n5_; clear hb ho29; obtain ⟨Ao31, co31, eo31⟩ := Kd.R_slice HO508.out; subst eo31) | ((with_reducible refine gate_builtin (b := .append) (xs := #[.tmp 19, .tmp 20]) rfl ?_); (try (refine gate_guard (by rfl) ?_; dsimp only)); at_builtin; refine Kd.R_append_rows (Kd.int .u32) (w0 := w) w.heap.size rfl (.tmp 19) (.tmp 20) 22 30 (.int .u32 0) 4 rfl Try.underlying22 info30 rfl (by decide) (by omega) v504 y503 y506 _ _ _ (fun k_ => (w.heap.size ≤ k_) ∧ some k_ ≠ (.slice Ao31 y506.length co31 : Value).ownBlock) (fun _ => False) rfl rfl ?aO ?aR (fun _ _ h => h) (fun _ h => h.elim) ?aF ?aB ?aS ?aL ?_; (case aR => repeat (first | exact (Kd.R_reads' HO508.out).2.2 | (with_reducible refine Kd.C_alloc ?_ _) | (with_reducible refine Kd.C_drewN ?_ _) | (with_reducible refine Kd.C_drew ?_))); (case aB => exact (by repeat (first | (with_reducible first | exact HB.out | apply below_alloc | apply pw_below_drewN | apply below_drew1) | exact HB.out))); (case aF => exact (fun k_ hk => ⟨(Nat.le_trans (below_size (by repeat (first | (with_reducible first | exact HB.out | apply below_alloc | apply pw_below_drewN | apply below_drew1) | exact HB.out))) hk), Kd.fresh' (Kd.R_lt (by (with_reducible repeat (first | apply Kd.R_alloc | apply Kd.R_drewN | apply Kd.R_drew)); exact HO508.out)) k_ hk⟩)); (case aO => exact (by (with_reducible repeat (first | apply Kd.R_alloc | apply Kd.R_drewN | apply Kd.R_drew)); exact HO505.out)); (case aS => exact (below_size (by repeat (first | (with_reducible first | exact HB.out | apply below_alloc | apply pw_below_drewN | apply below_drew1) | exact HB.out)))); (case aL => have := LMc6.out; omega); intro v510 w30 ho hb hg hat; rw [← Ny509.out] at ho; have n0_ := Aside0.mk (Kd.V_afterv (ok := (fun k_ => ((P0_ k_ ∨ P1_ k_) ∨ w.heap.size ≤ k_) ∧ some k_ ≠ (.slice Ao24 y495.length co24 : Value).ownBlock ∧ some k_ ≠ (.slice Ao31 y506.length co31 : Value).ownBlock)) (by (with_reducible repeat (first | apply Kd.V_alloc | apply Kd.V_drewN | apply Kd.V_drew)); exact Kd.V_mono HO0.out (fun _ hk => ⟨⟨hk.1.1.1, ⟨hk.1.1.2, hk.2⟩⟩, hk.1.2⟩)) hg hat); have n1_ := Aside0.mk (Kd.V_afterv (ok := (fun k_ => ((P0_ k_ ∨ P1_ k_) ∨ w.heap.size ≤ k_) ∧ some k_ ≠ (.slice Ao24 y495.length co24 : Value).ownBlock ∧ some k_ ≠ (.slice Ao31 y506.length co31 : Value).ownBlock)) (by (with_reducible repeat (first | apply Kd.V_alloc | apply Kd.V_drewN | apply Kd.V_drew)); exact Kd.V_mono HO1.out (fun _ hk => ⟨⟨hk.1.1.1, ⟨hk.1.1.2, hk.2⟩⟩, hk.1.2⟩)) hg hat); have n2_ := Aside0.mk (Kd.N_afterv (ok := (fun k_ => ((P0_ k_ ∨ P1_ k_) ∨ w.heap.size ≤ k_) ∧ some k_ ≠ (.slice Ao31 y506.length co31 : Value).ownBlock)) (by (with_reducible repeat (first | apply Kd.N_alloc | apply Kd.N_drewN | apply Kd.N_drew)); exact Kd.N_mono HO497.out (fun _ hk => ⟨⟨hk.1.1, hk.2⟩, hk.1.2⟩)) hg hat); have n3_ := Aside0.mk (Kd.R_after (ok := (fun k_ => (w.heap.size ≤ k_))) (by (with_reducible repeat (first | apply Kd.R_alloc | apply Kd.R_drewN | apply Kd.R_drew)); exact Kd.R_mono HO508.out (fun _ hk => ⟨hk.1.1, hk.2⟩)) hg hat); have n4_ := Aside0.mk (hb); have n5_ := Aside0.mk (ho); clear HO0; clear HO1; clear HO497; clear HO508; clear HB; clear HO505; have HO0 := n0_; have HO1 := n1_; have HO497 := n2_; have HO508 := n3_; have HB := n4_; have HO511 := n5_; clear n0_ n1_ n2_ n3_ n4_ n5_; clear ho hb hg hat) | ((with_reducible refine gate_dst (N := 22) rfl ?_); (try (refine gate_guard (by rfl) ?_; dsimp only)); refine Kd.R_lit (Kd.int .u32) _ 30 ?hg (N := 22) ?hd (xs := ([] : List Int)) (inner := []) (ok := fun _ => True) (okp := fun _ => True) ?hr ?hp (fun _ hk => hk) trivial (Below.refl _ _) (Nat.le_refl _) (by simp) ?_; (case hd => rfl); (case hg => rfl); (case hr => first | (go_simp; done) | (go_simp; rfl)); (case hp => exact (Reps.none _ _)); intro v513 w32 ho33 hb hg_ hnew_; clear hg_ hnew_; (first | rw [← Ny512.out] at ho33 | (simp only [Int.reduceToNat] at ho33; rw [← Ny512.out] at ho33)); have n0_ := Aside0.mk (Kd.V_elder' (by (with_reducible repeat (first | apply Kd.V_alloc | apply Kd.V_drewN | apply Kd.V_drew)); exact HO0.out) (Kd.R_base ho33) hb); have n1_ := Aside0.mk (Kd.V_elder' (by (with_reducible repeat (first | apply Kd.V_alloc | apply Kd.V_drewN | apply Kd.V_drew)); exact HO1.out) (Kd.R_base ho33) hb); have n2_ := Aside0.mk (Kd.N_elder' (by (with_reducible repeat (first | apply Kd.N_alloc | apply Kd.N_drewN | apply Kd.N_drew)); exact HO497.out) (Kd.R_base ho33) hb); have n3_ := Aside0.mk (Kd.R_elder' (by (with_reducible repeat (first | apply Kd.R_alloc | apply Kd.R_drewN | apply Kd.R_drew)); exact HO508.out) (Kd.R_base ho33) hb); have n4_ := Aside0.mk (Kd.R_elder' (by (with_reducible repeat (first | apply Kd.R_alloc | apply Kd.R_drewN | apply Kd.R_drew)); exact HO511.out) (Kd.R_base ho33) hb); have n5_ := Aside0.mk (Kd.R_lower (Kd.R_new' (Kd.R_new' (Kd.R_newM (M := fun k_ => (w.heap.size ≤ k_)) ho33 (below_size (by repeat (first | (with_reducible first | exact HB.out | apply below_alloc | apply pw_below_drewN | apply below_drew1) | exact HB.out))) (fun k_ h_ => h_)) (Kd.R_lt (by (with_reducible repeat (first | apply Kd.R_alloc | apply Kd.R_drewN | apply Kd.R_drew)); exact HO508.out))) (Kd.R_lt (by (with_reducible repeat (first | apply Kd.R_alloc | apply Kd.R_drewN | apply Kd.R_drew)); exact HO511.out))) (below_size (by repeat (first | (with_reducible first | exact HB.out | apply below_alloc | apply pw_below_drewN | apply below_drew1) | exact HB.out)))); have n6_ := Aside0.mk (below_step (by repeat (first | (with_reducible first | exact HB.out | apply below_alloc | apply pw_below_drewN | apply below_drew1) | exact HB.out)) hb); clear HO0; clear HO1; clear HO497; clear HO508; clear HO511; clear HB; have HO0 := n0_; have HO1 := n1_; have HO497 := n2_; have HO508 := n3_; have HO511 := n4_; have HO514 := n5_; have HB := n6_; clear n0_ n1_ n2_ n3_ n4_ n5_ n6_; clear hb ho33) | ((with_reducible refine gate_builtin (b := .append) (xs := #[.tmp 22, .tmp 23]) rfl ?_); (try (refine gate_guard (by rfl) ?_; dsimp only)); at_builtin; refine Kd.R_append_rows (Kd.int .u32) (w0 := w) w.heap.size rfl (.tmp 22) (.tmp 23) 22 30 (.int .u32 0) 4 rfl Try.underlying22 info30 rfl (by decide) (by omega) v513 y512 l1 _ _ _ (fun k_ => (w.heap.size ≤ k_) ∧ some k_ ≠ (.slice Ao31 y506.length co31 : Value).ownBlock ∧ some k_ ≠ (v510 : Value).ownBlock) (fun _ => False) rfl rfl ?aO ?aR (fun _ _ h => h) (fun _ h => h.elim) ?aF ?aB ?aS ?aL ?_; (case aR => repeat (first | exact (Kd.V_reads' HO1.out).2.2 | (with_reducible refine Kd.C_alloc ?_ _) | (with_reducible refine Kd.C_drewN ?_ _) | (with_reducible refine Kd.C_drew ?_))); (case aB => exact (by repeat (first | (with_reducible first | exact HB.out | apply below_alloc | apply pw_below_drewN | apply below_drew1) | exact HB.out))); (case aF => exact (fun k_ hk => ⟨(Nat.le_trans (below_size (by repeat (first | (with_reducible first | exact HB.out | apply below_alloc | apply pw_below_drewN | apply below_drew1) | exact HB.out))) hk), Kd.fresh' (Kd.R_lt (by (with_reducible repeat (first | apply Kd.R_alloc | apply Kd.R_drewN | apply Kd.R_drew)); exact HO508.out)) k_ hk, Kd.fresh' (Kd.R_lt (by (with_reducible repeat (first | apply Kd.R_alloc | apply Kd.R_drewN | apply Kd.R_drew)); exact HO511.out)) k_ hk⟩)); (case aO => exact (by (with_reducible repeat (first | apply Kd.R_alloc | apply Kd.R_drewN | apply Kd.R_drew)); exact Kd.R_mono HO514.out (fun _ hk => ⟨hk.1.1.1, ⟨hk.1.2, hk.2⟩⟩))); (case aS => exact (below_size (by repeat (first | (with_reducible first | exact HB.out | apply below_alloc | apply pw_below_drewN | apply below_drew1) | exact HB.out)))); (case aL => have := LMc7.out; omega); intro v516 w34 ho hb hg hat; rw [← Ny515.out] at ho; have n0_ := Aside0.mk (Kd.V_afterv (ok := (fun k_ => ((P0_ k_ ∨ P1_ k_) ∨ w.heap.size ≤ k_) ∧ some k_ ≠ (.slice Ao24 y495.length co24 : Value).ownBlock ∧ some k_ ≠ (.slice Ao31 y506.length co31 : Value).ownBlock ∧ some k_ ≠ (v510 : Value).ownBlock)) (by (with_reducible repeat (first | apply Kd.V_alloc | apply Kd.V_drewN | apply Kd.V_drew)); exact Kd.V_mono HO0.out (fun _ hk => ⟨⟨hk.1.1.1, ⟨hk.1.1.2.1, ⟨hk.1.1.2.2, hk.1.2⟩⟩⟩, hk.2⟩)) hg hat); have n1_ := Aside0.mk (Kd.V_afterv (ok := (fun k_ => ((P0_ k_ ∨ P1_ k_) ∨ w.heap.size ≤ k_) ∧ some k_ ≠ (.slice Ao24 y495.length co24 : Value).ownBlock ∧ some k_ ≠ (.slice Ao31 y506.length co31 : Value).ownBlock ∧ some k_ ≠ (v510 : Value).ownBlock)) (by (with_reducible repeat (first | apply Kd.V_alloc | apply Kd.V_drewN | apply Kd.V_drew)); exact Kd.V_mono HO1.out (fun _ hk => ⟨⟨hk.1.1.1, ⟨hk.1.1.2.1, ⟨hk.1.1.2.2, hk.1.2⟩⟩⟩, hk.2⟩)) hg hat); have n2_ := Aside0.mk (Kd.N_afterv (ok := (fun k_ => ((P0_ k_ ∨ P1_ k_) ∨ w.heap.size ≤ k_) ∧ some k_ ≠ (.slice Ao31 y506.length co31 : Value).ownBlock ∧ some k_ ≠ (v510 : Value).ownBlock)) (by (with_reducible repeat (first | apply Kd.N_alloc | apply Kd.N_drewN | apply Kd.N_drew)); exact Kd.N_mono HO497.out (fun _ hk => ⟨⟨hk.1.1.1, ⟨hk.1.1.2, hk.1.2⟩⟩, hk.2⟩)) hg hat); have n3_ := Aside0.mk (Kd.R_after (ok := (fun k_ => (w.heap.size ≤ k_) ∧ some k_ ≠ (v510 : Value).ownBlock)) (by (with_reducible repeat (first | apply Kd.R_alloc | apply Kd.R_drewN | apply Kd.R_drew)); exact HO508.out) hg hat); have n4_ := Aside0.mk (Kd.R_after (ok := (fun k_ => (w.heap.size ≤ k_) ∧ some k_ ≠ (.slice Ao31 y506.length co31 : Value).ownBlock)) (by (with_reducible repeat (first | apply Kd.R_alloc | apply Kd.R_drewN | apply Kd.R_drew)); exact HO511.out) hg hat); have n5_ := Aside0.mk (hb); have n6_ := Aside0.mk (ho); clear HO0; clear HO1; clear HO497; clear HO508; clear HO511; clear HB; clear HO514; have HO0 := n0_; have HO1 := n1_; have HO497 := n2_; have HO508 := n3_; have HO511 := n4_; have HB := n5_; have HO517 := n6_; clear n0_ n1_ n2_ n3_ n4_ n5_ n6_; clear ho hb hg hat) | ((with_reducible refine gate_dst (N := 25) rfl ?_); (try (refine gate_guard (by rfl) ?_; dsimp only)); refine Kd.R_lit (Kd.int .u32) _ 30 ?hg (N := 25) ?hd (xs := ([8, 8] : List Int)) (inner := [.int .u32 8, .int .u32 8]) (ok := fun _ => True) (okp := fun _ => True) ?hr ?hp (fun _ hk => hk) trivial (Below.refl _ _) (Nat.le_refl _) (by simp) ?_; (case hd => rfl); (case hg => rfl); (case hr => first | (go_simp; done) | (go_simp; rfl)); (case hp => exact (Reps.one (show Kd.M (Kd.int .u32) _ _ _ 8 [.int .u32 8] from rfl) (Reps.one (show Kd.M (Kd.int .u32) _ _ _ 8 [.int .u32 8] from rfl) (Reps.none _ _)))); intro v519 w35 ho36 hb hg_ hnew_; clear hg_ hnew_; (first | rw [← Ny518.out] at ho36 | (simp only [Int.reduceToNat] at ho36; rw [← Ny518.out] at ho36)); have n0_ := Aside0.mk (Kd.V_elder' (by (with_reducible repeat (first | apply Kd.V_alloc | apply Kd.V_drewN | apply Kd.V_drew)); exact HO0.out) (Kd.R_base ho36) hb); have n1_ := Aside0.mk (Kd.V_elder' (by (with_reducible repeat (first | apply Kd.V_alloc | apply Kd.V_drewN | apply Kd.V_drew)); exact HO1.out) (Kd.R_base ho36) hb); have n2_ := Aside0.mk (Kd.N_elder' (by (with_reducible repeat (first | apply Kd.N_alloc | apply Kd.N_drewN | apply Kd.N_drew)); exact HO497.out) (Kd.R_base ho36) hb); have n3_ := Aside0.mk (Kd.R_elder' (by (with_reducible repeat (first | apply Kd.R_alloc | apply Kd.R_drewN | apply Kd.R_drew)); exact HO508.out) (Kd.R_base ho36) hb); have n4_ := Aside0.mk (Kd.R_elder' (by (with_reducible repeat (first | apply Kd.R_alloc | apply Kd.R_drewN | apply Kd.R_drew)); exact HO511.out) (Kd.R_base ho36) hb); have n5_ := Aside0.mk (Kd.R_elder' (by (with_reducible repeat (first | apply Kd.R_alloc | apply Kd.R_drewN | apply Kd.R_drew)); exact HO517.out) (Kd.R_base ho36) hb); have n6_ := Aside0.mk (Kd.R_lower (Kd.R_new' (Kd.R_new' (Kd.R_new' (Kd.R_newM (M := fun k_ => (w.heap.size ≤ k_)) ho36 (below_size (by repeat (first | (with_reducible first | exact HB.out | apply below_alloc | apply pw_below_drewN | apply below_drew1) | exact HB.out))) (fun k_ h_ => h_)) (Kd.R_lt (by (with_reducible repeat (first | apply Kd.R_alloc | apply Kd.R_drewN | apply Kd.R_drew)); exact HO508.out))) (Kd.R_lt (by (with_reducible repeat (first | apply Kd.R_alloc | apply Kd.R_drewN | apply Kd.R_drew)); exact HO511.out))) (Kd.R_lt (by (with_reducible repeat (first | apply Kd.R_alloc | apply Kd.R_drewN | apply Kd.R_drew)); exact HO517.out))) (below_size (by repeat (first | (with_reducible first | exact HB.out | apply below_alloc | apply pw_below_drewN | apply below_drew1) | exact HB.out)))); have n7_ := Aside0.mk (below_step (by repeat (first | (with_reducible first | exact HB.out | apply below_alloc | apply pw_below_drewN | apply below_drew1) | exact HB.out)) hb); clear HO0; clear HO1; clear HO497; clear HO508; clear HO511; clear HO517; clear HB; have HO0 := n0_; have HO1 := n1_; have HO497 := n2_; have HO508 := n3_; have HO511 := n4_; have HO517 := n5_; have HO520 := n6_; have HB := n7_; clear n0_ n1_ n2_ n3_ n4_ n5_ n6_ n7_; clear hb ho36; obtain ⟨Ao38, co38, eo38⟩ := Kd.R_slice HO520.out; subst eo38) | ((with_reducible refine gate_builtin (b := .append) (xs := #[.tmp 24, .tmp 25]) rfl ?_); (try (refine gate_guard (by rfl) ?_; dsimp only)); at_builtin; refine Kd.R_append_rows (Kd.int .u32) (w0 := w) w.heap.size rfl (.tmp 24) (.tmp 25) 22 30 (.int .u32 0) 4 rfl Try.underlying22 info30 rfl (by decide) (by omega) v516 y515 y518 _ _ _ (fun k_ => (w.heap.size ≤ k_) ∧ some k_ ≠ (.slice Ao31 y506.length co31 : Value).ownBlock ∧ some k_ ≠ (v510 : Value).ownBlock ∧ some k_ ≠ (.slice Ao38 y518.length co38 : Value).ownBlock) (fun _ => False) rfl rfl ?aO ?aR (fun _ _ h => h) (fun _ h => h.elim) ?aF ?aB ?aS ?aL ?_; (case aR => repeat (first | exact (Kd.R_reads' HO520.out).2.2 | (with_reducible refine Kd.C_alloc ?_ _) | (with_reducible refine Kd.C_drewN ?_ _) | (with_reducible refine Kd.C_drew ?_))); (case aB => exact (by repeat (first | (with_reducible first | exact HB.out | apply below_alloc | apply pw_below_drewN | apply below_drew1) | exact HB.out))); (case aF => exact (fun k_ hk => ⟨(Nat.le_trans (below_size (by repeat (first | (with_reducible first | exact HB.out | apply below_alloc | apply pw_below_drewN | apply below_drew1) | exact HB.out))) hk), Kd.fresh' (Kd.R_lt (by (with_reducible repeat (first | apply Kd.R_alloc | apply Kd.R_drewN | apply Kd.R_drew)); exact HO508.out)) k_ hk, Kd.fresh' (Kd.R_lt (by (with_reducible repeat (first | apply Kd.R_alloc | apply Kd.R_drewN | apply Kd.R_drew)); exact HO511.out)) k_ hk, Kd.fresh' (Kd.R_lt (by (with_reducible repeat (first | apply Kd.R_alloc | apply Kd.R_drewN | apply Kd.R_drew)); exact HO520.out)) k_ hk⟩)); (case aO => exact (by (with_reducible repeat (first | apply Kd.R_alloc | apply Kd.R_drewN | apply Kd.R_drew)); exact Kd.R_mono HO517.out (fun _ hk => ⟨hk.1.1, ⟨hk.1.2.1, ⟨hk.1.2.2, hk.2⟩⟩⟩))); (case aS => exact (below_size (by repeat (first | (with_reducible first | exact HB.out | apply below_alloc | apply pw_below_drewN | apply below_drew1) | exact HB.out)))); (case aL => have := LMc8.out; omega); intro v522 w37 ho hb hg hat; rw [← Ny521.out] at ho; have n0_ := Aside0.mk (Kd.V_afterv (ok := (fun k_ => ((P0_ k_ ∨ P1_ k_) ∨ w.heap.size ≤ k_) ∧ some k_ ≠ (.slice Ao24 y495.length co24 : Value).ownBlock ∧ some k_ ≠ (.slice Ao31 y506.length co31 : Value).ownBlock ∧ some k_ ≠ (v510 : Value).ownBlock ∧ some k_ ≠ (.slice Ao38 y518.length co38 : Value).ownBlock)) (by (with_reducible repeat (first | apply Kd.V_alloc | apply Kd.V_drewN | apply Kd.V_drew)); exact Kd.V_mono HO0.out (fun _ hk => ⟨⟨hk.1.1.1, ⟨hk.1.1.2.1, ⟨hk.1.1.2.2.1, ⟨hk.1.1.2.2.2, hk.2⟩⟩⟩⟩, hk.1.2⟩)) hg hat); have n1_ := Aside0.mk (Kd.V_afterv (ok := (fun k_ => ((P0_ k_ ∨ P1_ k_) ∨ w.heap.size ≤ k_) ∧ some k_ ≠ (.slice Ao24 y495.length co24 : Value).ownBlock ∧ some k_ ≠ (.slice Ao31 y506.length co31 : Value).ownBlock ∧ some k_ ≠ (v510 : Value).ownBlock ∧ some k_ ≠ (.slice Ao38 y518.length co38 : Value).ownBlock)) (by (with_reducible repeat (first | apply Kd.V_alloc | apply Kd.V_drewN | apply Kd.V_drew)); exact Kd.V_mono HO1.out (fun _ hk => ⟨⟨hk.1.1.1, ⟨hk.1.1.2.1, ⟨hk.1.1.2.2.1, ⟨hk.1.1.2.2.2, hk.2⟩⟩⟩⟩, hk.1.2⟩)) hg hat); have n2_ := Aside0.mk (Kd.N_afterv (ok := (fun k_ => ((P0_ k_ ∨ P1_ k_) ∨ w.heap.size ≤ k_) ∧ some k_ ≠ (.slice Ao31 y506.length co31 : Value).ownBlock ∧ some k_ ≠ (v510 : Value).ownBlock ∧ some k_ ≠ (.slice Ao38 y518.length co38 : Value).ownBlock)) (by (with_reducible repeat (first | apply Kd.N_alloc | apply Kd.N_drewN | apply Kd.N_drew)); exact Kd.N_mono HO497.out (fun _ hk => ⟨⟨hk.1.1.1, ⟨hk.1.1.2.1, ⟨hk.1.1.2.2, hk.2⟩⟩⟩, hk.1.2⟩)) hg hat); have n3_ := Aside0.mk (Kd.R_after (ok := (fun k_ => (w.heap.size ≤ k_) ∧ some k_ ≠ (v510 : Value).ownBlock ∧ some k_ ≠ (.slice Ao38 y518.length co38 : Value).ownBlock)) (by (with_reducible repeat (first | apply Kd.R_alloc | apply Kd.R_drewN | apply Kd.R_drew)); exact Kd.R_mono HO508.out (fun _ hk => ⟨⟨hk.1.1.1, ⟨hk.1.1.2, hk.2⟩⟩, hk.1.2⟩)) hg hat); have n4_ := Aside0.mk (Kd.R_after (ok := (fun k_ => (w.heap.size ≤ k_) ∧ some k_ ≠ (.slice Ao31 y506.length co31 : Value).ownBlock ∧ some k_ ≠ (.slice Ao38 y518.length co38 : Value).ownBlock)) (by (with_reducible repeat (first | apply Kd.R_alloc | apply Kd.R_drewN | apply Kd.R_drew)); exact Kd.R_mono HO511.out (fun _ hk => ⟨⟨hk.1.1.1, ⟨hk.1.1.2, hk.2⟩⟩, hk.1.2⟩)) hg hat); have n5_ := Aside0.mk (Kd.R_after (ok := (fun k_ => (w.heap.size ≤ k_) ∧ some k_ ≠ (.slice Ao31 y506.length co31 : Value).ownBlock ∧ some k_ ≠ (v510 : Value).ownBlock)) (by (with_reducible repeat (first | apply Kd.R_alloc | apply Kd.R_drewN | apply Kd.R_drew)); exact Kd.R_mono HO520.out (fun _ hk => ⟨⟨hk.1.1.1.1, ⟨hk.1.1.2, hk.1.2⟩⟩, hk.2⟩)) hg hat); have n6_ := Aside0.mk (hb); have n7_ := Aside0.mk (ho); clear HO0; clear HO1; clear HO497; clear HO508; clear HO511; clear HO520; clear HB; clear HO517; have HO0 := n0_; have HO1 := n1_; have HO497 := n2_; have HO508 := n3_; have HO511 := n4_; have HO520 := n5_; have HB := n6_; have HO523 := n7_; clear n0_ n1_ n2_ n3_ n4_ n5_ n6_ n7_; clear ho hb hg hat))
                    have n0_ := Aside0.mk (Kd.V_drew HO0.out)
                    have n1_ := Aside0.mk (Kd.V_drew HO1.out)
                    have n2_ := Aside0.mk (Kd.N_drew HO497.out)
                    have n3_ := Aside0.mk (Kd.R_drew HO508.out)
                    have n4_ := Aside0.mk (Kd.R_drew HO511.out)
                    have n5_ := Aside0.mk (Kd.R_drew HO520.out)
                    have n6_ := Aside0.mk (Kd.R_drew HO523.out)
                    have n7_ := Aside0.mk (below_drew1 HB.out)
                    clear HO0
                    clear HO1
                    clear HO497
                    clear HO508
                    clear HO511
                    clear HO520
                    clear HO523
                    clear HB
                    have HO0 := n0_
                    have HO1 := n1_
                    have HO497 := n2_
                    have HO508 := n3_
                    have HO511 := n4_
                    have HO520 := n5_
                    have HO523 := n6_
                    have HB := n7_
                    clear n0_ n1_ n2_ n3_ n4_ n5_ n6_ n7_
                    obtain ⟨Ao41, co41, eo41⟩ := Kd.R_slice HO511.out
                    (first | subst eo41 | (injection eo41 with f1_ f2_ f3_; have f4_ := f1_.symm; have f5_ := f3_.symm; clear f1_ f2_ f3_; subst f4_; subst f5_))
                    have q40 : ((l0.length : Int) : Int) ≤ ((y509.length : Int) : Int) := of_decide_eq_true (by first | (with_reducible assumption) | assumption)
                    obtain ⟨i040, hi040, _, hsz40, _⟩ := info_parts info30
                    have hroom40 : y509.length ≤ co41 := (Kd.R_reads' HO511.out).2.1
                    have hC40 : Kd.F (Kd.int .u32) _ _ Ao41 y509.length y509 := (Kd.V_at (base := w.heap.size) (Kd.V_mono (ok' := (fun k_ => (((((P0_ k_ ∨ P1_ k_) ∨ w.heap.size ≤ k_) ∧ (some k_ ≠ (.slice Ao31 y506.length co31 : Value).ownBlock ∧ some k_ ≠ (.slice Ao38 y518.length co38 : Value).ownBlock)) ∧ some k_ ≠ (v522 : Value).ownBlock) ∧ some k_ ≠ (.slice Ao24 y495.length co24 : Value).ownBlock))) (Kd.R_V (Kd.R_apart' (HO511.out) (Kd.N_typed HO497.out) (by decide))) (fun k_ hk => ⟨⟨⟨(.inr (hk.1.1.1)), ⟨hk.1.1.2.1, hk.1.1.2.2⟩⟩, hk.1.2⟩, hk.2⟩))).2.2
                    have hcut40 := cut_to (P := Try.prog) 22 30 .i64 Try.underlying22 hi040 Ao41 y509.length co41 (l0.length : Int) (of_decide_eq_true (by first | (with_reducible assumption) | assumption)) q40 hroom40
                    have hr40 := Kd.F_take (m := ((l0.length : Int) : Int).toNat) hC40 (by omega)
                    have hy40 : y524.length = ((l0.length : Int) : Int).toNat := (by rw [Ny524.out, List.length_take]; omega)
                    rw [← Ny524.out] at hr40
                    rw [← hy40] at hcut40
                    have HO528 := Aside0.mk (show Kd.V (Kd.int .u32) 30 _ w.heap.size _ (.slice Ao41 y524.length co41) y524 from Kd.V_mk (by omega) hr40)
                    have HC528 := Aside0.mk (show y524.length ≤ co41 from by omega)
                    clear hr40 hC40 hroom40 hi040 hsz40
                    have KY40 := Aside0.mk hy40
                    clear hy40
                    replace q40 := eq_true q40
                    obtain ⟨Ao43, co43, eo43⟩ := Kd.R_slice HO523.out
                    (first | subst eo43 | (injection eo43 with f1_ f2_ f3_; have f4_ := f1_.symm; have f5_ := f3_.symm; clear f1_ f2_ f3_; subst f4_; subst f5_))
                    have q42 : ((l1.length : Int) : Int) ≤ ((y521.length : Int) : Int) := of_decide_eq_true (by first | (with_reducible assumption) | assumption)
                    obtain ⟨i042, hi042, _, hsz42, _⟩ := info_parts info30
                    have hroom42 : y521.length ≤ co43 := (Kd.R_reads' HO523.out).2.1
                    have hC42 : Kd.F (Kd.int .u32) _ _ Ao43 y521.length y521 := (Kd.V_at (base := w.heap.size) (Kd.V_mono (ok' := (fun k_ => ((((P0_ k_ ∨ P1_ k_) ∨ w.heap.size ≤ k_) ∧ (some k_ ≠ (.slice Ao31 y506.length co31 : Value).ownBlock ∧ (some k_ ≠ (.slice Ao41 y509.length co41 : Value).ownBlock ∧ some k_ ≠ (.slice Ao38 y518.length co38 : Value).ownBlock))) ∧ some k_ ≠ (.slice Ao24 y495.length co24 : Value).ownBlock))) (Kd.R_V (Kd.R_apart' (HO523.out) (Kd.N_typed HO497.out) (by decide))) (fun k_ hk => ⟨⟨(.inr (hk.1.1)), ⟨hk.1.2.1, ⟨hk.1.2.2.1, hk.1.2.2.2⟩⟩⟩, hk.2⟩))).2.2
                    have hcut42 := cut_to (P := Try.prog) 22 30 .i64 Try.underlying22 hi042 Ao43 y521.length co43 (l1.length : Int) (of_decide_eq_true (by first | (with_reducible assumption) | assumption)) q42 hroom42
                    have hr42 := Kd.F_take (m := ((l1.length : Int) : Int).toNat) hC42 (by omega)
                    have hy42 : y529.length = ((l1.length : Int) : Int).toNat := (by rw [Ny529.out, List.length_take]; omega)
                    rw [← Ny529.out] at hr42
                    rw [← hy42] at hcut42
                    have HO533 := Aside0.mk (show Kd.V (Kd.int .u32) 30 _ w.heap.size _ (.slice Ao43 y529.length co43) y529 from Kd.V_mk (by omega) hr42)
                    have HC533 := Aside0.mk (show y529.length ≤ co43 from by omega)
                    clear hr42 hC42 hroom42 hi042 hsz42
                    have KY42 := Aside0.mk hy42
                    clear hy42
                    replace q42 := eq_true q42
                    refine start_ (n := 10) (S := fun w' => True) (ds := []) #[false, false, false, false, false, false, false, false, false, false] (by kernel_rfl) rfl rfl trivial (fun hHeld => ?_); refine with_tabW figureheadlaw01_NatOwn.tab5 figureheadlaw01_NatOwn.bits5 (fun HT_ HW_ => ?_)
                    generalize w37.drew = w39 at HO0 HO1 HO497 HO508 HO511 HO520 HO523 HB HO528 HO533 hHeld ⊢
                    refine pure_ (i := 0) (N := some 27) (v := ?_) (a' := ?_) #[true, false, false, false, false, false, false, false, false, false] rfl rfl (any_of HT_.out (by kernel_rfl)) (fun _ _ _ h => h) (Or.inl ⟨by rfl, ?_⟩) ?_ ?_
                    rotate_left
                    · intro w'
                      go_simp
                      with_reducible rfl
                    rotate_left
                    · simp only [Act.put, List.setIfInBounds_toArray, List.set_cons_zero, List.set_cons_succ, i64_w, i32_w]
                      rfl
                    refine pure_ (i := 1) (N := some 28) (v := ?_) (a' := ?_) #[true, true, false, false, false, false, false, false, false, false] rfl rfl (any_of HT_.out (by kernel_rfl)) (fun _ _ _ h => h) (Or.inl ⟨by rfl, ?_⟩) ?_ ?_
                    rotate_left
                    · intro w'
                      go_simp
                      with_reducible rfl
                    rotate_left
                    · simp only [Act.put, List.setIfInBounds_toArray, List.set_cons_zero, List.set_cons_succ, i64_w, i32_w]
                      rfl
                    refine pure_ (i := 2) (N := some 29) (v := ?_) (a' := ?_) #[true, true, true, false, false, false, false, false, false, false] rfl rfl (any_of HT_.out (by kernel_rfl)) (fun _ _ _ h => h) (Or.inl ⟨by rfl, ?_⟩) ?_ ?_
                    rotate_left
                    · intro w'
                      go_simp
                      with_reducible rfl
                    rotate_left
                    · simp only [Act.put, List.setIfInBounds_toArray, List.set_cons_zero, List.set_cons_succ, i64_w, i32_w]
                      rfl
                    refine pure_ (i := 3) (N := some 30) (v := ?_) (a' := ?_) #[true, true, true, true, false, false, false, false, false, false] rfl rfl (any_of HT_.out (by kernel_rfl)) (fun _ _ _ h => h) (Or.inl ⟨by rfl, ?_⟩) ?_ ?_
                    rotate_left
                    · intro w'
                      go_simp
                      with_reducible rfl
                    rotate_left
                    · simp only [Act.put, List.setIfInBounds_toArray, List.set_cons_zero, List.set_cons_succ, i64_w, i32_w]
                      rfl
                    refine pure_ (i := 4) (N := some 31) (v := ?_) (a' := ?_) #[true, true, true, true, true, false, false, false, false, false] rfl rfl (any_of HT_.out (by kernel_rfl)) (fun _ _ _ h => h) (Or.inl ⟨by rfl, ?_⟩) ?_ ?_
                    rotate_left
                    · intro w'
                      go_simp
                      with_reducible rfl
                    rotate_left
                    · simp only [Act.put, List.setIfInBounds_toArray, List.set_cons_zero, List.set_cons_succ, i64_w, i32_w]
                      rfl
                    refine pure_ (i := 5) (N := some 32) (v := ?_) (a' := ?_) #[true, true, true, true, true, true, false, false, false, false] rfl rfl (any_of HT_.out (by kernel_rfl)) (fun _ _ _ h => h) (Or.inl ⟨by rfl, ?_⟩) ?_ ?_
                    rotate_left
                    · intro w'
                      go_simp
                      with_reducible rfl
                    rotate_left
                    · simp only [Act.put, List.setIfInBounds_toArray, List.set_cons_zero, List.set_cons_succ, i64_w, i32_w]
                      rfl
                    refine pure_ (i := 6) (N := some 33) (v := ?_) (a' := ?_) #[true, true, true, true, true, true, true, false, false, false] rfl rfl (any_of HT_.out (by kernel_rfl)) (fun _ _ _ h => h) (Or.inl ⟨by rfl, ?_⟩) ?_ ?_
                    rotate_left
                    · intro w'
                      go_simp
                      with_reducible rfl
                    rotate_left
                    · simp only [Act.put, List.setIfInBounds_toArray, List.set_cons_zero, List.set_cons_succ, i64_w, i32_w]
                      rfl
                    refine pure_ (i := 7) (N := some 34) (v := ?_) (a' := ?_) #[true, true, true, true, true, true, true, true, false, false] rfl rfl (any_of HT_.out (by kernel_rfl)) (fun _ _ _ h => h) (Or.inl ⟨by rfl, ?_⟩) ?_ ?_
                    rotate_left
                    · intro w'
                      go_simp
                      with_reducible rfl
                    rotate_left
                    · simp only [Act.put, List.setIfInBounds_toArray, List.set_cons_zero, List.set_cons_succ, i64_w, i32_w]
                      rfl
                    refine one_ (i := 8) (N := some 35) #[true, true, true, true, true, true, true, true, true, false] rfl rfl (one_of HT_.out (by kernel_rfl)) (by decide) (fun K hK => ?_)
                    refine goes_ Try.func28 (by kernel_rfl) rfl #[.slice Ao41 y524.length co41, .slice Ao43 y529.length co43] (by rfl) rfl rfl (by (try simp only [List.map_toArray, List.map_cons, List.map_nil]); first | done | rfl | (simp only [List.length_drop, List.length_take]; rfl)) ?_
                    with_reducible refine (nat_Add.calls _ _ y524 _ _ y529 t534 _ ?side1 ?side2 ?side3 ?side4 A13.out).mono ?_
                    (case side1 => repeat (first | exact (Kd.V_reads' HO528.out).2.2 | (with_reducible refine Kd.C_alloc ?_ _) | (with_reducible refine Kd.C_drewN ?_ _) | (with_reducible refine Kd.C_drew ?_)))
                    (case side2 => exact (Kd.V_reads' HO528.out).2.1)
                    (case side3 => repeat (first | exact (Kd.V_reads' HO533.out).2.2 | (with_reducible refine Kd.C_alloc ?_ _) | (with_reducible refine Kd.C_drewN ?_ _) | (with_reducible refine Kd.C_drew ?_)))
                    (case side4 => exact (Kd.V_reads' HO533.out).2.1)
                    rintro e w44 ⟨v535, rfl, ho0, hb⟩
                    refine ⟨_, rfl, ?_⟩
                    have n0_ := Aside0.mk (Kd.V_elder' (by (with_reducible repeat (first | apply Kd.V_alloc | apply Kd.V_drewN | apply Kd.V_drew)); exact HO0.out) (Kd.R_base ho0) hb)
                    have n1_ := Aside0.mk (Kd.V_elder' (by (with_reducible repeat (first | apply Kd.V_alloc | apply Kd.V_drewN | apply Kd.V_drew)); exact HO1.out) (Kd.R_base ho0) hb)
                    have n2_ := Aside0.mk (Kd.N_elder' (by (with_reducible repeat (first | apply Kd.N_alloc | apply Kd.N_drewN | apply Kd.N_drew)); exact HO497.out) (Kd.R_base ho0) hb)
                    have n3_ := Aside0.mk (Kd.R_elder' (by (with_reducible repeat (first | apply Kd.R_alloc | apply Kd.R_drewN | apply Kd.R_drew)); exact HO508.out) (Kd.R_base ho0) hb)
                    have n4_ := Aside0.mk (Kd.R_elder' (by (with_reducible repeat (first | apply Kd.R_alloc | apply Kd.R_drewN | apply Kd.R_drew)); exact HO511.out) (Kd.R_base ho0) hb)
                    have n5_ := Aside0.mk (Kd.R_elder' (by (with_reducible repeat (first | apply Kd.R_alloc | apply Kd.R_drewN | apply Kd.R_drew)); exact HO520.out) (Kd.R_base ho0) hb)
                    have n6_ := Aside0.mk (Kd.R_elder' (by (with_reducible repeat (first | apply Kd.R_alloc | apply Kd.R_drewN | apply Kd.R_drew)); exact HO523.out) (Kd.R_base ho0) hb)
                    have n7_ := Aside0.mk (Kd.V_elder' (by (with_reducible repeat (first | apply Kd.V_alloc | apply Kd.V_drewN | apply Kd.V_drew)); exact HO528.out) (Kd.R_base ho0) hb)
                    have n8_ := Aside0.mk (Kd.V_elder' (by (with_reducible repeat (first | apply Kd.V_alloc | apply Kd.V_drewN | apply Kd.V_drew)); exact HO533.out) (Kd.R_base ho0) hb)
                    have n9_ := Aside0.mk (Kd.R_lower (Kd.R_new' (Kd.R_new' (Kd.R_new' (Kd.R_new' (Kd.R_newM (M := fun k_ => (w.heap.size ≤ k_)) ho0 (below_size (by repeat (first | (with_reducible first | exact HB.out | apply below_alloc | apply pw_below_drewN | apply below_drew1) | exact HB.out))) (fun k_ h_ => h_)) (Kd.R_lt (by (with_reducible repeat (first | apply Kd.R_alloc | apply Kd.R_drewN | apply Kd.R_drew)); exact HO508.out))) (Kd.R_lt (by (with_reducible repeat (first | apply Kd.R_alloc | apply Kd.R_drewN | apply Kd.R_drew)); exact HO511.out))) (Kd.R_lt (by (with_reducible repeat (first | apply Kd.R_alloc | apply Kd.R_drewN | apply Kd.R_drew)); exact HO520.out))) (Kd.R_lt (by (with_reducible repeat (first | apply Kd.R_alloc | apply Kd.R_drewN | apply Kd.R_drew)); exact HO523.out))) (below_size (by repeat (first | (with_reducible first | exact HB.out | apply below_alloc | apply pw_below_drewN | apply below_drew1) | exact HB.out))))
                    have n10_ := Aside0.mk (below_step (by repeat (first | (with_reducible first | exact HB.out | apply below_alloc | apply pw_below_drewN | apply below_drew1) | exact HB.out)) hb)
                    clear HO0
                    clear HO1
                    clear HO497
                    clear HO508
                    clear HO511
                    clear HO520
                    clear HO523
                    clear HO528
                    clear HO533
                    clear HB
                    have HO0 := n0_
                    have HO1 := n1_
                    have HO497 := n2_
                    have HO508 := n3_
                    have HO511 := n4_
                    have HO520 := n5_
                    have HO523 := n6_
                    have HO528 := n7_
                    have HO533 := n8_
                    have HO536 := n9_
                    have HB := n10_
                    clear n0_ n1_ n2_ n3_ n4_ n5_ n6_ n7_ n8_ n9_ n10_
                    (try clear hb)
                    (try clear hb2)
                    (try clear hk)
                    (try clear hi)
                    (try clear ho0)
                    refine hK.out _ _ trivial (fun hHeld => ?_)
                    clear hK K
                    refine norm_ (a' := ?_) ?_ ?_
                    rotate_left
                    · show Act.put _ (some 35) _ = _
                      simp only [Act.put, List.setIfInBounds_toArray, List.set_cons_zero, List.set_cons_succ, i64_w, i32_w]
                      rfl
                    refine pure_ (i := 9) (N := some 7) (v := ?_) (a' := ?_) #[true, true, true, true, true, true, true, true, true, true] rfl rfl (any_of HT_.out (by kernel_rfl)) (fun _ _ _ h => h) (Or.inl ⟨by rfl, ?_⟩) ?_ ?_
                    rotate_left
                    · intro w'
                      go_simp
                      with_reducible rfl
                    rotate_left
                    · simp only [Act.put, List.setIfInBounds_toArray, List.set_cons_zero, List.set_cons_succ, i64_w, i32_w]
                      rfl
                    refine done_ (done_of HT_.out (by kernel_rfl)) ?_
                    have q45 : ((l0.length : Int) : Int) ≤ ((y509.length : Int) : Int) := of_decide_eq_true (by first | (with_reducible assumption) | assumption)
                    obtain ⟨i045, hi045, _, hsz45, _⟩ := info_parts info30
                    have hroom45 : y509.length ≤ co41 := (Kd.R_reads' HO511.out).2.1
                    have hC45 : Kd.F (Kd.int .u32) _ _ Ao41 y509.length y509 := (Kd.V_at (base := w.heap.size) (Kd.V_mono (ok' := (fun k_ => ((((((P0_ k_ ∨ P1_ k_) ∨ w.heap.size ≤ k_) ∧ (some k_ ≠ (.slice Ao31 y506.length co31 : Value).ownBlock ∧ some k_ ≠ (.slice Ao38 y518.length co38 : Value).ownBlock)) ∧ some k_ ≠ (.slice Ao43 y521.length co43 : Value).ownBlock) ∧ some k_ ≠ (v535 : Value).ownBlock) ∧ some k_ ≠ (.slice Ao24 y495.length co24 : Value).ownBlock))) (Kd.R_V (Kd.R_apart' (HO511.out) (Kd.N_typed HO497.out) (by decide))) (fun k_ hk => ⟨⟨⟨⟨(.inr (hk.1.1.1.1)), ⟨hk.1.1.1.2.1, hk.1.1.1.2.2⟩⟩, hk.1.1.2⟩, hk.1.2⟩, hk.2⟩))).2.2
                    (try clear hcut40)
                    have hcut45 := cut_to (P := Try.prog) 22 30 .i64 Try.underlying22 hi045 Ao41 y509.length co41 (l0.length : Int) (of_decide_eq_true (by first | (with_reducible assumption) | assumption)) q45 hroom45
                    have hr45 := Kd.F_take (m := ((l0.length : Int) : Int).toNat) hC45 (by omega)
                    have hy45 : y537.length = ((l0.length : Int) : Int).toNat := (by rw [Ny537.out, List.length_take]; omega)
                    rw [← Ny537.out] at hr45
                    rw [← hy45] at hcut45
                    have HO541 := Aside0.mk (show Kd.V (Kd.int .u32) 30 _ w.heap.size _ (.slice Ao41 y537.length co41) y537 from Kd.V_mk (by omega) hr45)
                    have HC541 := Aside0.mk (show y537.length ≤ co41 from by omega)
                    clear hr45 hC45 hroom45 hi045 hsz45
                    have KY45 := Aside0.mk hy45
                    clear hy45
                    replace q45 := eq_true q45
                    try go_wp2_with (first | ((with_reducible refine gate_callee (f := 31) rfl ?_); refine goesL_ (some 40) rfl rfl Try.func31 (by kernel_rfl) rfl #[.slice Ao41 y537.length co41] rfl (by (try simp only [List.map_toArray, List.map_cons, List.map_nil]); first | done | rfl | (simp only [List.length_drop, List.length_take]; rfl)) ?_; (with_reducible refine (nat_Trim.calls _ _ y537 t542 _ ?side1 ?side2 A16.out).mono ?_); (case side1 => repeat (first | exact (Kd.V_reads' HO541.out).2.2 | (with_reducible refine Kd.C_alloc ?_ _) | (with_reducible refine Kd.C_drewN ?_ _) | (with_reducible refine Kd.C_drew ?_))); (case side2 => exact (Kd.V_reads' HO541.out).2.1); rintro e w46 ⟨v543, rfl, ho0, hb⟩; refine ⟨_, rfl, ?_⟩; have n0_ := Aside0.mk (Kd.V_elder' (by (with_reducible repeat (first | apply Kd.V_alloc | apply Kd.V_drewN | apply Kd.V_drew)); exact HO0.out) (Kd.R_base ho0) hb); have n1_ := Aside0.mk (Kd.V_elder' (by (with_reducible repeat (first | apply Kd.V_alloc | apply Kd.V_drewN | apply Kd.V_drew)); exact HO1.out) (Kd.R_base ho0) hb); have n2_ := Aside0.mk (Kd.N_elder' (by (with_reducible repeat (first | apply Kd.N_alloc | apply Kd.N_drewN | apply Kd.N_drew)); exact HO497.out) (Kd.R_base ho0) hb); have n3_ := Aside0.mk (Kd.R_elder' (by (with_reducible repeat (first | apply Kd.R_alloc | apply Kd.R_drewN | apply Kd.R_drew)); exact HO508.out) (Kd.R_base ho0) hb); have n4_ := Aside0.mk (Kd.R_elder' (by (with_reducible repeat (first | apply Kd.R_alloc | apply Kd.R_drewN | apply Kd.R_drew)); exact HO511.out) (Kd.R_base ho0) hb); have n5_ := Aside0.mk (Kd.R_elder' (by (with_reducible repeat (first | apply Kd.R_alloc | apply Kd.R_drewN | apply Kd.R_drew)); exact HO520.out) (Kd.R_base ho0) hb); have n6_ := Aside0.mk (Kd.R_elder' (by (with_reducible repeat (first | apply Kd.R_alloc | apply Kd.R_drewN | apply Kd.R_drew)); exact HO523.out) (Kd.R_base ho0) hb); have n7_ := Aside0.mk (Kd.V_elder' (by (with_reducible repeat (first | apply Kd.V_alloc | apply Kd.V_drewN | apply Kd.V_drew)); exact HO528.out) (Kd.R_base ho0) hb); have n8_ := Aside0.mk (Kd.V_elder' (by (with_reducible repeat (first | apply Kd.V_alloc | apply Kd.V_drewN | apply Kd.V_drew)); exact HO533.out) (Kd.R_base ho0) hb); have n9_ := Aside0.mk (Kd.R_elder' (by (with_reducible repeat (first | apply Kd.R_alloc | apply Kd.R_drewN | apply Kd.R_drew)); exact HO536.out) (Kd.R_base ho0) hb); have n10_ := Aside0.mk (Kd.V_elder' (by (with_reducible repeat (first | apply Kd.V_alloc | apply Kd.V_drewN | apply Kd.V_drew)); exact HO541.out) (Kd.R_base ho0) hb); have n11_ := Aside0.mk (Kd.R_lower (Kd.R_new' (Kd.R_new' (Kd.R_new' (Kd.R_new' (Kd.R_new' (Kd.R_newM (M := fun k_ => (w.heap.size ≤ k_)) ho0 (below_size (by repeat (first | (with_reducible first | exact HB.out | apply below_alloc | apply pw_below_drewN | apply below_drew1) | exact HB.out))) (fun k_ h_ => h_)) (Kd.R_lt (by (with_reducible repeat (first | apply Kd.R_alloc | apply Kd.R_drewN | apply Kd.R_drew)); exact HO508.out))) (Kd.R_lt (by (with_reducible repeat (first | apply Kd.R_alloc | apply Kd.R_drewN | apply Kd.R_drew)); exact HO511.out))) (Kd.R_lt (by (with_reducible repeat (first | apply Kd.R_alloc | apply Kd.R_drewN | apply Kd.R_drew)); exact HO520.out))) (Kd.R_lt (by (with_reducible repeat (first | apply Kd.R_alloc | apply Kd.R_drewN | apply Kd.R_drew)); exact HO523.out))) (Kd.R_lt (by (with_reducible repeat (first | apply Kd.R_alloc | apply Kd.R_drewN | apply Kd.R_drew)); exact HO536.out))) (below_size (by repeat (first | (with_reducible first | exact HB.out | apply below_alloc | apply pw_below_drewN | apply below_drew1) | exact HB.out)))); have n12_ := Aside0.mk (below_step (by repeat (first | (with_reducible first | exact HB.out | apply below_alloc | apply pw_below_drewN | apply below_drew1) | exact HB.out)) hb); clear HO0; clear HO1; clear HO497; clear HO508; clear HO511; clear HO520; clear HO523; clear HO528; clear HO533; clear HO536; clear HO541; clear HB; have HO0 := n0_; have HO1 := n1_; have HO497 := n2_; have HO508 := n3_; have HO511 := n4_; have HO520 := n5_; have HO523 := n6_; have HO528 := n7_; have HO533 := n8_; have HO536 := n9_; have HO541 := n10_; have HO544 := n11_; have HB := n12_; clear n0_ n1_ n2_ n3_ n4_ n5_ n6_ n7_ n8_ n9_ n10_ n11_ n12_; (try clear hb); (try clear hb2); (try clear hk); (try clear hi); (try clear ho0)))
                    have n0_ := Aside0.mk (Kd.V_drew HO0.out)
                    have n1_ := Aside0.mk (Kd.V_drew HO1.out)
                    have n2_ := Aside0.mk (Kd.N_drew HO497.out)
                    have n3_ := Aside0.mk (Kd.R_drew HO508.out)
                    have n4_ := Aside0.mk (Kd.R_drew HO511.out)
                    have n5_ := Aside0.mk (Kd.R_drew HO520.out)
                    have n6_ := Aside0.mk (Kd.R_drew HO523.out)
                    have n7_ := Aside0.mk (Kd.V_drew HO528.out)
                    have n8_ := Aside0.mk (Kd.V_drew HO533.out)
                    have n9_ := Aside0.mk (Kd.R_drew HO536.out)
                    have n10_ := Aside0.mk (Kd.V_drew HO541.out)
                    have n11_ := Aside0.mk (Kd.R_drew HO544.out)
                    have n12_ := Aside0.mk (below_drew1 HB.out)
                    clear HO0
                    clear HO1
                    clear HO497
                    clear HO508
                    clear HO511
                    clear HO520
                    clear HO523
                    clear HO528
                    clear HO533
                    clear HO536
                    clear HO541
                    clear HO544
                    clear HB
                    have HO0 := n0_
                    have HO1 := n1_
                    have HO497 := n2_
                    have HO508 := n3_
                    have HO511 := n4_
                    have HO520 := n5_
                    have HO523 := n6_
                    have HO528 := n7_
                    have HO533 := n8_
                    have HO536 := n9_
                    have HO541 := n10_
                    have HO544 := n11_
                    have HB := n12_
                    clear n0_ n1_ n2_ n3_ n4_ n5_ n6_ n7_ n8_ n9_ n10_ n11_ n12_
                    have q48 : ((l0.length : Int) : Int) ≤ ((y509.length : Int) : Int) := of_decide_eq_true (by first | (with_reducible assumption) | assumption)
                    obtain ⟨i048, hi048, _, hsz48, _⟩ := info_parts info30
                    have hroom48 : y509.length ≤ co41 := (Kd.R_reads' HO511.out).2.1
                    have hC48 : Kd.F (Kd.int .u32) _ _ Ao41 y509.length y509 := (Kd.V_at (base := w.heap.size) (Kd.V_mono (ok' := (fun k_ => (((((((P0_ k_ ∨ P1_ k_) ∨ w.heap.size ≤ k_) ∧ (some k_ ≠ (.slice Ao31 y506.length co31 : Value).ownBlock ∧ some k_ ≠ (.slice Ao38 y518.length co38 : Value).ownBlock)) ∧ some k_ ≠ (.slice Ao43 y521.length co43 : Value).ownBlock) ∧ some k_ ≠ (v535 : Value).ownBlock) ∧ some k_ ≠ (v543 : Value).ownBlock) ∧ some k_ ≠ (.slice Ao24 y495.length co24 : Value).ownBlock))) (Kd.R_V (Kd.R_apart' (HO511.out) (Kd.N_typed HO497.out) (by decide))) (fun k_ hk => ⟨⟨⟨⟨⟨(.inr (hk.1.1.1.1.1)), ⟨hk.1.1.1.1.2.1, hk.1.1.1.1.2.2⟩⟩, hk.1.1.1.2⟩, hk.1.1.2⟩, hk.1.2⟩, hk.2⟩))).2.2
                    (try clear hcut40)
                    (try clear hcut45)
                    have hcut48 := cut_to (P := Try.prog) 22 30 .i64 Try.underlying22 hi048 Ao41 y509.length co41 (l0.length : Int) (of_decide_eq_true (by first | (with_reducible assumption) | assumption)) q48 hroom48
                    have hr48 := Kd.F_take (m := ((l0.length : Int) : Int).toNat) hC48 (by omega)
                    have hy48 : y545.length = ((l0.length : Int) : Int).toNat := (by rw [Ny545.out, List.length_take]; omega)
                    rw [← Ny545.out] at hr48
                    rw [← hy48] at hcut48
                    have HO549 := Aside0.mk (show Kd.V (Kd.int .u32) 30 _ w.heap.size _ (.slice Ao41 y545.length co41) y545 from Kd.V_mk (by omega) hr48)
                    have HC549 := Aside0.mk (show y545.length ≤ co41 from by omega)
                    clear hr48 hC48 hroom48 hi048 hsz48
                    have KY48 := Aside0.mk hy48
                    clear hy48
                    replace q48 := eq_true q48
                    have q49 : ((l1.length : Int) : Int) ≤ ((y521.length : Int) : Int) := of_decide_eq_true (by first | (with_reducible assumption) | assumption)
                    obtain ⟨i049, hi049, _, hsz49, _⟩ := info_parts info30
                    have hroom49 : y521.length ≤ co43 := (Kd.R_reads' HO523.out).2.1
                    have hC49 : Kd.F (Kd.int .u32) _ _ Ao43 y521.length y521 := (Kd.V_at (base := w.heap.size) (Kd.V_mono (ok' := (fun k_ => ((((((P0_ k_ ∨ P1_ k_) ∨ w.heap.size ≤ k_) ∧ (some k_ ≠ (.slice Ao31 y506.length co31 : Value).ownBlock ∧ (some k_ ≠ (.slice Ao41 y509.length co41 : Value).ownBlock ∧ some k_ ≠ (.slice Ao38 y518.length co38 : Value).ownBlock))) ∧ some k_ ≠ (v535 : Value).ownBlock) ∧ some k_ ≠ (v543 : Value).ownBlock) ∧ some k_ ≠ (.slice Ao24 y495.length co24 : Value).ownBlock))) (Kd.R_V (Kd.R_apart' (HO523.out) (Kd.N_typed HO497.out) (by decide))) (fun k_ hk => ⟨⟨⟨⟨(.inr (hk.1.1.1.1)), ⟨hk.1.1.1.2.1, ⟨hk.1.1.1.2.2.1, hk.1.1.1.2.2.2⟩⟩⟩, hk.1.1.2⟩, hk.1.2⟩, hk.2⟩))).2.2
                    (try clear hcut42)
                    have hcut49 := cut_to (P := Try.prog) 22 30 .i64 Try.underlying22 hi049 Ao43 y521.length co43 (l1.length : Int) (of_decide_eq_true (by first | (with_reducible assumption) | assumption)) q49 hroom49
                    have hr49 := Kd.F_take (m := ((l1.length : Int) : Int).toNat) hC49 (by omega)
                    have hy49 : y550.length = ((l1.length : Int) : Int).toNat := (by rw [Ny550.out, List.length_take]; omega)
                    rw [← Ny550.out] at hr49
                    rw [← hy49] at hcut49
                    have HO554 := Aside0.mk (show Kd.V (Kd.int .u32) 30 _ w.heap.size _ (.slice Ao43 y550.length co43) y550 from Kd.V_mk (by omega) hr49)
                    have HC554 := Aside0.mk (show y550.length ≤ co43 from by omega)
                    clear hr49 hC49 hroom49 hi049 hsz49
                    have KY49 := Aside0.mk hy49
                    clear hy49
                    replace q49 := eq_true q49
                    refine start_ (n := 9) (S := fun w' => True) (ds := []) #[false, false, false, false, false, false, false, false, false] (by kernel_rfl) rfl rfl trivial (fun hHeld => ?_); refine with_tabW figureheadlaw01_NatOwn.tab7 figureheadlaw01_NatOwn.bits7 (fun HT_ HW_ => ?_)
                    generalize w46.drew = w47 at HO0 HO1 HO497 HO508 HO511 HO520 HO523 HO528 HO533 HO536 HO541 HO544 HB HO549 HO554 hHeld ⊢
                    refine pure_ (i := 0) (N := some 41) (v := ?_) (a' := ?_) #[true, false, false, false, false, false, false, false, false] rfl rfl (any_of HT_.out (by kernel_rfl)) (fun _ _ _ h => h) (Or.inl ⟨by rfl, ?_⟩) ?_ ?_
                    rotate_left
                    · intro w'
                      go_simp
                      with_reducible rfl
                    rotate_left
                    · simp only [Act.put, List.setIfInBounds_toArray, List.set_cons_zero, List.set_cons_succ, i64_w, i32_w]
                      rfl
                    refine pure_ (i := 1) (N := some 42) (v := ?_) (a' := ?_) #[true, true, false, false, false, false, false, false, false] rfl rfl (any_of HT_.out (by kernel_rfl)) (fun _ _ _ h => h) (Or.inl ⟨by rfl, ?_⟩) ?_ ?_
                    rotate_left
                    · intro w'
                      go_simp
                      with_reducible rfl
                    rotate_left
                    · simp only [Act.put, List.setIfInBounds_toArray, List.set_cons_zero, List.set_cons_succ, i64_w, i32_w]
                      rfl
                    refine pure_ (i := 2) (N := some 43) (v := ?_) (a' := ?_) #[true, true, true, false, false, false, false, false, false] rfl rfl (any_of HT_.out (by kernel_rfl)) (fun _ _ _ h => h) (Or.inl ⟨by rfl, ?_⟩) ?_ ?_
                    rotate_left
                    · intro w'
                      go_simp
                      with_reducible rfl
                    rotate_left
                    · simp only [Act.put, List.setIfInBounds_toArray, List.set_cons_zero, List.set_cons_succ, i64_w, i32_w]
                      rfl
                    refine pure_ (i := 3) (N := some 44) (v := ?_) (a' := ?_) #[true, true, true, true, false, false, false, false, false] rfl rfl (any_of HT_.out (by kernel_rfl)) (fun _ _ _ h => h) (Or.inl ⟨by rfl, ?_⟩) ?_ ?_
                    rotate_left
                    · intro w'
                      go_simp
                      with_reducible rfl
                    rotate_left
                    · simp only [Act.put, List.setIfInBounds_toArray, List.set_cons_zero, List.set_cons_succ, i64_w, i32_w]
                      rfl
                    refine pure_ (i := 4) (N := some 45) (v := ?_) (a' := ?_) #[true, true, true, true, true, false, false, false, false] rfl rfl (any_of HT_.out (by kernel_rfl)) (fun _ _ _ h => h) (Or.inl ⟨by rfl, ?_⟩) ?_ ?_
                    rotate_left
                    · intro w'
                      go_simp
                      with_reducible rfl
                    rotate_left
                    · simp only [Act.put, List.setIfInBounds_toArray, List.set_cons_zero, List.set_cons_succ, i64_w, i32_w]
                      rfl
                    refine pure_ (i := 5) (N := some 46) (v := ?_) (a' := ?_) #[true, true, true, true, true, true, false, false, false] rfl rfl (any_of HT_.out (by kernel_rfl)) (fun _ _ _ h => h) (Or.inl ⟨by rfl, ?_⟩) ?_ ?_
                    rotate_left
                    · intro w'
                      go_simp
                      with_reducible rfl
                    rotate_left
                    · simp only [Act.put, List.setIfInBounds_toArray, List.set_cons_zero, List.set_cons_succ, i64_w, i32_w]
                      rfl
                    refine pure_ (i := 6) (N := some 47) (v := ?_) (a' := ?_) #[true, true, true, true, true, true, true, false, false] rfl rfl (any_of HT_.out (by kernel_rfl)) (fun _ _ _ h => h) (Or.inl ⟨by rfl, ?_⟩) ?_ ?_
                    rotate_left
                    · intro w'
                      go_simp
                      with_reducible rfl
                    rotate_left
                    · simp only [Act.put, List.setIfInBounds_toArray, List.set_cons_zero, List.set_cons_succ, i64_w, i32_w]
                      rfl
                    refine pure_ (i := 7) (N := some 48) (v := ?_) (a' := ?_) #[true, true, true, true, true, true, true, true, false] rfl rfl (any_of HT_.out (by kernel_rfl)) (fun _ _ _ h => h) (Or.inl ⟨by rfl, ?_⟩) ?_ ?_
                    rotate_left
                    · intro w'
                      go_simp
                      with_reducible rfl
                    rotate_left
                    · simp only [Act.put, List.setIfInBounds_toArray, List.set_cons_zero, List.set_cons_succ, i64_w, i32_w]
                      rfl
                    refine one_ (i := 8) (N := some 49) #[true, true, true, true, true, true, true, true, true] rfl rfl (one_of HT_.out (by kernel_rfl)) (by decide) (fun K hK => ?_)
                    refine goes_ Try.func29 (by kernel_rfl) rfl #[.slice Ao41 y545.length co41, .slice Ao43 y550.length co43] (by rfl) rfl rfl (by (try simp only [List.map_toArray, List.map_cons, List.map_nil]); first | done | rfl | (simp only [List.length_drop, List.length_take]; rfl)) ?_
                    with_reducible refine (nat_Sub.calls _ _ y545 _ _ y550 t555 t556 _ ?side1 ?side2 ?side3 ?side4 A21.out).mono ?_
                    (case side1 => repeat (first | exact (Kd.V_reads' HO549.out).2.2 | (with_reducible refine Kd.C_alloc ?_ _) | (with_reducible refine Kd.C_drewN ?_ _) | (with_reducible refine Kd.C_drew ?_)))
                    (case side2 => exact (Kd.V_reads' HO549.out).2.1)
                    (case side3 => repeat (first | exact (Kd.V_reads' HO554.out).2.2 | (with_reducible refine Kd.C_alloc ?_ _) | (with_reducible refine Kd.C_drewN ?_ _) | (with_reducible refine Kd.C_drew ?_)))
                    (case side4 => exact (Kd.V_reads' HO554.out).2.1)
                    rintro e w50 ⟨v557, rfl, ho0, hb⟩
                    refine ⟨_, rfl, ?_⟩
                    have n0_ := Aside0.mk (Kd.V_elder' (by (with_reducible repeat (first | apply Kd.V_alloc | apply Kd.V_drewN | apply Kd.V_drew)); exact HO0.out) (Kd.R_base ho0) hb)
                    have n1_ := Aside0.mk (Kd.V_elder' (by (with_reducible repeat (first | apply Kd.V_alloc | apply Kd.V_drewN | apply Kd.V_drew)); exact HO1.out) (Kd.R_base ho0) hb)
                    have n2_ := Aside0.mk (Kd.N_elder' (by (with_reducible repeat (first | apply Kd.N_alloc | apply Kd.N_drewN | apply Kd.N_drew)); exact HO497.out) (Kd.R_base ho0) hb)
                    have n3_ := Aside0.mk (Kd.R_elder' (by (with_reducible repeat (first | apply Kd.R_alloc | apply Kd.R_drewN | apply Kd.R_drew)); exact HO508.out) (Kd.R_base ho0) hb)
                    have n4_ := Aside0.mk (Kd.R_elder' (by (with_reducible repeat (first | apply Kd.R_alloc | apply Kd.R_drewN | apply Kd.R_drew)); exact HO511.out) (Kd.R_base ho0) hb)
                    have n5_ := Aside0.mk (Kd.R_elder' (by (with_reducible repeat (first | apply Kd.R_alloc | apply Kd.R_drewN | apply Kd.R_drew)); exact HO520.out) (Kd.R_base ho0) hb)
                    have n6_ := Aside0.mk (Kd.R_elder' (by (with_reducible repeat (first | apply Kd.R_alloc | apply Kd.R_drewN | apply Kd.R_drew)); exact HO523.out) (Kd.R_base ho0) hb)
                    have n7_ := Aside0.mk (Kd.V_elder' (by (with_reducible repeat (first | apply Kd.V_alloc | apply Kd.V_drewN | apply Kd.V_drew)); exact HO528.out) (Kd.R_base ho0) hb)
                    have n8_ := Aside0.mk (Kd.V_elder' (by (with_reducible repeat (first | apply Kd.V_alloc | apply Kd.V_drewN | apply Kd.V_drew)); exact HO533.out) (Kd.R_base ho0) hb)
                    have n9_ := Aside0.mk (Kd.R_elder' (by (with_reducible repeat (first | apply Kd.R_alloc | apply Kd.R_drewN | apply Kd.R_drew)); exact HO536.out) (Kd.R_base ho0) hb)
                    have n10_ := Aside0.mk (Kd.V_elder' (by (with_reducible repeat (first | apply Kd.V_alloc | apply Kd.V_drewN | apply Kd.V_drew)); exact HO541.out) (Kd.R_base ho0) hb)
                    have n11_ := Aside0.mk (Kd.R_elder' (by (with_reducible repeat (first | apply Kd.R_alloc | apply Kd.R_drewN | apply Kd.R_drew)); exact HO544.out) (Kd.R_base ho0) hb)
                    have n12_ := Aside0.mk (Kd.V_elder' (by (with_reducible repeat (first | apply Kd.V_alloc | apply Kd.V_drewN | apply Kd.V_drew)); exact HO549.out) (Kd.R_base ho0) hb)
                    have n13_ := Aside0.mk (Kd.V_elder' (by (with_reducible repeat (first | apply Kd.V_alloc | apply Kd.V_drewN | apply Kd.V_drew)); exact HO554.out) (Kd.R_base ho0) hb)
                    have n14_ := Aside0.mk (Kd.R_lower (Kd.R_new' (Kd.R_new' (Kd.R_new' (Kd.R_new' (Kd.R_new' (Kd.R_new' (Kd.R_newM (M := fun k_ => (w.heap.size ≤ k_)) ho0 (below_size (by repeat (first | (with_reducible first | exact HB.out | apply below_alloc | apply pw_below_drewN | apply below_drew1) | exact HB.out))) (fun k_ h_ => h_)) (Kd.R_lt (by (with_reducible repeat (first | apply Kd.R_alloc | apply Kd.R_drewN | apply Kd.R_drew)); exact HO508.out))) (Kd.R_lt (by (with_reducible repeat (first | apply Kd.R_alloc | apply Kd.R_drewN | apply Kd.R_drew)); exact HO511.out))) (Kd.R_lt (by (with_reducible repeat (first | apply Kd.R_alloc | apply Kd.R_drewN | apply Kd.R_drew)); exact HO520.out))) (Kd.R_lt (by (with_reducible repeat (first | apply Kd.R_alloc | apply Kd.R_drewN | apply Kd.R_drew)); exact HO523.out))) (Kd.R_lt (by (with_reducible repeat (first | apply Kd.R_alloc | apply Kd.R_drewN | apply Kd.R_drew)); exact HO536.out))) (Kd.R_lt (by (with_reducible repeat (first | apply Kd.R_alloc | apply Kd.R_drewN | apply Kd.R_drew)); exact HO544.out))) (below_size (by repeat (first | (with_reducible first | exact HB.out | apply below_alloc | apply pw_below_drewN | apply below_drew1) | exact HB.out))))
                    have n15_ := Aside0.mk (below_step (by repeat (first | (with_reducible first | exact HB.out | apply below_alloc | apply pw_below_drewN | apply below_drew1) | exact HB.out)) hb)
                    clear HO0
                    clear HO1
                    clear HO497
                    clear HO508
                    clear HO511
                    clear HO520
                    clear HO523
                    clear HO528
                    clear HO533
                    clear HO536
                    clear HO541
                    clear HO544
                    clear HO549
                    clear HO554
                    clear HB
                    have HO0 := n0_
                    have HO1 := n1_
                    have HO497 := n2_
                    have HO508 := n3_
                    have HO511 := n4_
                    have HO520 := n5_
                    have HO523 := n6_
                    have HO528 := n7_
                    have HO533 := n8_
                    have HO536 := n9_
                    have HO541 := n10_
                    have HO544 := n11_
                    have HO549 := n12_
                    have HO554 := n13_
                    have HO558 := n14_
                    have HB := n15_
                    clear n0_ n1_ n2_ n3_ n4_ n5_ n6_ n7_ n8_ n9_ n10_ n11_ n12_ n13_ n14_ n15_
                    (try clear hb)
                    (try clear hb2)
                    (try clear hk)
                    (try clear hi)
                    (try clear ho0)
                    refine hK.out _ _ trivial (fun hHeld => ?_)
                    clear hK K
                    refine norm_ (a' := ?_) ?_ ?_
                    rotate_left
                    · show Act.put _ (some 49) _ = _
                      simp only [Act.put, List.setIfInBounds_toArray, List.set_cons_zero, List.set_cons_succ, i64_w, i32_w]
                      rfl
                    refine done_ (done_of HT_.out (by kernel_rfl)) ?_
                    try go_wp2
                    go_loopg [9] k (fun kq v9 w' => ∃ (x7_1 : List Int) (x9_1 : Int), v9 = .int .i64 x9_1 ∧ Aside0 (figureheadlaw01_NatOwn.l0 kq l0 l1 y509 y521 x7_1 t542 x9_1 = some r) ∧ Aside0 (kq ≤ k) ∧ Aside0 (Kd.V (Kd.int .u32) 30 w' w.heap.size (fun k_ => ((P0_ k_ ∨ P1_ k_) ∨ w.heap.size ≤ k_) ∧ some k_ ≠ ((.slice Ao41 y509.length co41) : Value).ownBlock ∧ some k_ ≠ ((.slice Ao43 y521.length co43) : Value).ownBlock ∧ some k_ ≠ (v535 : Value).ownBlock ∧ some k_ ≠ (v543 : Value).ownBlock) (.slice A0 l0.length c0) l0) ∧ Aside0 (Kd.V (Kd.int .u32) 30 w' w.heap.size (fun k_ => ((P0_ k_ ∨ P1_ k_) ∨ w.heap.size ≤ k_) ∧ some k_ ≠ ((.slice Ao41 y509.length co41) : Value).ownBlock ∧ some k_ ≠ ((.slice Ao43 y521.length co43) : Value).ownBlock ∧ some k_ ≠ (v535 : Value).ownBlock ∧ some k_ ≠ (v543 : Value).ownBlock) (.slice A1 l1.length c1) l1) ∧ Aside0 (Kd.R (Kd.int .u32) 30 w' w.heap.size (fun k_ => (w.heap.size ≤ k_) ∧ some k_ ≠ ((.slice Ao43 y521.length co43) : Value).ownBlock ∧ some k_ ≠ (v535 : Value).ownBlock ∧ some k_ ≠ (v543 : Value).ownBlock) (.slice Ao41 y509.length co41) y509) ∧ Aside0 (Kd.R (Kd.int .u32) 30 w' w.heap.size (fun k_ => (w.heap.size ≤ k_) ∧ some k_ ≠ ((.slice Ao41 y509.length co41) : Value).ownBlock ∧ some k_ ≠ (v535 : Value).ownBlock ∧ some k_ ≠ (v543 : Value).ownBlock) (.slice Ao43 y521.length co43) y521) ∧ Aside0 (Kd.R (Kd.int .u32) 30 w' w.heap.size (fun k_ => (w.heap.size ≤ k_) ∧ some k_ ≠ ((.slice Ao41 y509.length co41) : Value).ownBlock ∧ some k_ ≠ ((.slice Ao43 y521.length co43) : Value).ownBlock ∧ some k_ ≠ (v543 : Value).ownBlock) v535 x7_1) ∧ Aside0 (Kd.R (Kd.int .u32) 30 w' w.heap.size (fun k_ => (w.heap.size ≤ k_) ∧ some k_ ≠ ((.slice Ao41 y509.length co41) : Value).ownBlock ∧ some k_ ≠ ((.slice Ao43 y521.length co43) : Value).ownBlock ∧ some k_ ≠ (v535 : Value).ownBlock) v543 t542) ∧ Aside0 (Below w.heap.size w w'))
                    case atStart => exact ⟨(t534), (0), (by first | rfl | (simp; done) | (simp [*]; done) | (simp [*, Fig.bne_nil]; done)), H', ⟨Nat.le_refl _⟩, ⟨by (with_reducible repeat (first | apply Kd.V_alloc | apply Kd.V_drewN | apply Kd.V_drew)); exact Kd.V_mono HO0.out (fun _ hk => ⟨hk.1.1.1.1.1, ⟨hk.1.1.1.1.2.2.2.1, ⟨hk.1.1.1.2, ⟨hk.1.1.2, hk.1.2⟩⟩⟩⟩)⟩, ⟨by (with_reducible repeat (first | apply Kd.V_alloc | apply Kd.V_drewN | apply Kd.V_drew)); exact Kd.V_mono HO1.out (fun _ hk => ⟨hk.1.1.1.1.1, ⟨hk.1.1.1.1.2.2.2.1, ⟨hk.1.1.1.2, ⟨hk.1.1.2, hk.1.2⟩⟩⟩⟩)⟩, ⟨by (with_reducible repeat (first | apply Kd.R_alloc | apply Kd.R_drewN | apply Kd.R_drew)); exact Kd.R_mono HO511.out (fun _ hk => ⟨hk.1.1.1.1.1, ⟨hk.1.1.1.2, ⟨hk.1.1.2, hk.1.2⟩⟩⟩)⟩, ⟨by (with_reducible repeat (first | apply Kd.R_alloc | apply Kd.R_drewN | apply Kd.R_drew)); exact Kd.R_mono HO523.out (fun _ hk => ⟨hk.1.1.1.1, ⟨hk.1.1.1.2.2.1, ⟨hk.1.1.2, hk.1.2⟩⟩⟩)⟩, ⟨by (with_reducible repeat (first | apply Kd.R_alloc | apply Kd.R_drewN | apply Kd.R_drew)); exact Kd.R_mono HO536.out (fun _ hk => ⟨hk.1.1.1.1.1.1.1, ⟨hk.1.1.1.1.2, ⟨hk.1.1.2, hk.1.2⟩⟩⟩)⟩, ⟨by (with_reducible repeat (first | apply Kd.R_alloc | apply Kd.R_drewN | apply Kd.R_drew)); exact Kd.R_mono HO544.out (fun _ hk => ⟨hk.1.1.1.1.1.1.1, ⟨hk.1.1.1.1.2, ⟨hk.1.1.2, hk.1.2⟩⟩⟩)⟩, ⟨by repeat (first | (with_reducible first | exact HB.out | apply below_alloc | apply pw_below_drewN | apply below_drew1) | exact HB.out)⟩⟩
                    case round =>
                      clear H'
                      try clear c1
                      try clear c2
                      try clear p2
                      try clear c3
                      try clear c4
                      try clear q4
                      try clear c5
                      try clear c6
                      try clear c7
                      try clear c8
                      try clear c9
                      try clear c9b0
                      try clear c9b1
                      try clear c10
                      try clear c10b0
                      try clear c10b1
                      try clear c11
                      try clear c11b0
                      try clear c11b1
                      try clear c12
                      try clear c12b0
                      try clear c12b1
                      try clear c14
                      try clear c14b0
                      try clear c15
                      try clear c15b0
                      try clear c17
                      try clear c17b0
                      try clear c18
                      try clear c18b0
                      try clear c19
                      try clear c19b0
                      try clear c20
                      try clear c20b0
                      try clear c24
                      try clear c28
                      try clear c29
                      try clear c31
                      try clear q40
                      try clear q42
                      try clear q45
                      try clear q48
                      try clear q49
                      try clear hcut40
                      try clear hcut42
                      try clear hcut45
                      try clear hcut48
                      try clear hcut49
                      try clear q40
                      try clear q42
                      try clear q45
                      try clear q48
                      try clear q49
                      obtain ⟨x7_1, x9_1, rfl, HA, HK1, HO_0, HO_1, HO_5, HO_6, HO_7, HO_8, HB⟩ := hrel
                      cases gk with
                      | zero => exact absurd HA.out (by simp [figureheadlaw01_NatOwn.l0])
                      | succ k1 =>
                        have H := HA.out
                        clear HA
                        simp only [figureheadlaw01_NatOwn.l0] at H
                        by_cases c51 : x9_1 < (x7_1.length : Int)
                        · rw [if_pos c51] at H
                          have c51b0 : decide (x9_1 < (x7_1.length : Int)) = true := decide_eq_true c51
                          clear c51
                          by_cases c52 : 0 ≤ x9_1
                          · rw [if_pos c52] at H
                            have c52b0 : decide (0 ≤ x9_1) = true := decide_eq_true c52
                            clear c52
                            obtain ⟨y559, hy559⟩ : ∃ y_ : List Int, y_ = (x7_1.set (x9_1 : Int).toNat 5) := ⟨_, rfl⟩
                            replace H : (figureheadlaw01_NatOwn.l0 k1 l0 l1 y509 y521 y559 t542 (wrap64 (x9_1 + 1))) = some r := by first | (rw [hy559]; with_reducible exact H) | (have H2_ := (Option.bind_some _ _).symm.trans H; rw [hy559]; with_reducible exact H2_) | (have H2_ := (Option.bind_some _ _).symm.trans H; with_reducible exact H2_) | with_reducible exact H | (rw [hy559]; exact H) | exact H
                            have Ny559 := Aside0.mk hy559
                            clear hy559
                            have H' := Aside0.mk H
                            clear H
                            obtain ⟨Ao54, co54, eo54⟩ := Kd.R_slice HO_7.out
                            subst eo54
                            have p53 : 0 ≤ (x9_1 : Int) := of_decide_eq_true (by first | (with_reducible assumption) | assumption)
                            have q53 : (x9_1 : Int) < ((x7_1.length : Int) : Int) := of_decide_eq_true (by first | (with_reducible assumption) | assumption)
                            obtain ⟨go53, co53, eo53, gb53, gl53, cl53, HG53⟩ := Kd.R_form HO_7.out (by omega)
                            (first | cases eo53 | (injection eo53 with ea_ en_ ec_; (first | subst ea_ | (injection ea_ with ea_; subst ea_)); subst ec_; clear en_))
                            have GB53 := Aside0.mk gb53
                            have GG53 := Aside0.mk HG53
                            clear gb53 gl53 HG53
                            obtain ⟨hx53_0, hf53_0⟩ := Kd.R_celln 0 HO_7.out (x9_1 : Int) p53 q53
                            replace p53 := eq_true p53
                            replace q53 := eq_true q53
                            have HP55 := Kd.R_putg HO_7.out (x9_1 : Int) 5
                            go_wp2_with (first | ((with_reducible refine gate_store (t := 30) (p := 58) rfl ?_); refine store_event (t := 30) (p := 58) (v := ?vo_w56) (w1 := (wr.setCell ⟨go53, (x9_1 : Int).toNat, none⟩ (.int .u32 5))) ?hg ?ho ?hn ?hr ?_; (case ho => rfl); (case hg => rfl); (case hn => rfl); (case hr => first | (go_simp; done) | (go_simp; rfl)); intro w56 hw; have hg : wr.grownBy w56 (some go53) := (by rw [hw]; exact HP55.2); have hp_ : Kd.R (Kd.int .u32) 30 w56 w.heap.size (fun k_ => (w.heap.size ≤ k_) ∧ some k_ ≠ (.slice Ao41 y509.length co41 : Value).ownBlock ∧ some k_ ≠ (.slice Ao43 y521.length co43 : Value).ownBlock ∧ some k_ ≠ (v543 : Value).ownBlock) (.slice (some ⟨go53, 0, none⟩) x7_1.length co54) y559 := (by rw [hw, Ny559.out]; exact HP55.1); clear HP55; have n0_ := Aside0.mk (Kd.V_afterv (v := (.slice (some ⟨go53, 0, none⟩) x7_1.length co54)) (v1 := (.slice (some ⟨go53, 0, none⟩) x7_1.length co54)) (ok := (fun k_ => ((P0_ k_ ∨ P1_ k_) ∨ w.heap.size ≤ k_) ∧ some k_ ≠ (.slice Ao41 y509.length co41 : Value).ownBlock ∧ some k_ ≠ (.slice Ao43 y521.length co43 : Value).ownBlock ∧ some k_ ≠ (v543 : Value).ownBlock)) (by (with_reducible repeat (first | apply Kd.V_alloc | apply Kd.V_drewN | apply Kd.V_drew)); exact Kd.V_mono HO_0.out (fun _ hk => ⟨⟨hk.1, ⟨hk.2.1, ⟨hk.2.2.1, hk.2.2.2.2⟩⟩⟩, hk.2.2.2.1⟩)) hg (.inl rfl)); have n1_ := Aside0.mk (Kd.V_afterv (v := (.slice (some ⟨go53, 0, none⟩) x7_1.length co54)) (v1 := (.slice (some ⟨go53, 0, none⟩) x7_1.length co54)) (ok := (fun k_ => ((P0_ k_ ∨ P1_ k_) ∨ w.heap.size ≤ k_) ∧ some k_ ≠ (.slice Ao41 y509.length co41 : Value).ownBlock ∧ some k_ ≠ (.slice Ao43 y521.length co43 : Value).ownBlock ∧ some k_ ≠ (v543 : Value).ownBlock)) (by (with_reducible repeat (first | apply Kd.V_alloc | apply Kd.V_drewN | apply Kd.V_drew)); exact Kd.V_mono HO_1.out (fun _ hk => ⟨⟨hk.1, ⟨hk.2.1, ⟨hk.2.2.1, hk.2.2.2.2⟩⟩⟩, hk.2.2.2.1⟩)) hg (.inl rfl)); have n2_ := Aside0.mk (Kd.R_after (v := (.slice (some ⟨go53, 0, none⟩) x7_1.length co54)) (v1 := (.slice (some ⟨go53, 0, none⟩) x7_1.length co54)) (ok := (fun k_ => (w.heap.size ≤ k_) ∧ some k_ ≠ (.slice Ao43 y521.length co43 : Value).ownBlock ∧ some k_ ≠ (v543 : Value).ownBlock)) (by (with_reducible repeat (first | apply Kd.R_alloc | apply Kd.R_drewN | apply Kd.R_drew)); exact Kd.R_mono HO_5.out (fun _ hk => ⟨⟨hk.1, ⟨hk.2.1, hk.2.2.2⟩⟩, hk.2.2.1⟩)) hg (.inl rfl)); have n3_ := Aside0.mk (Kd.R_after (v := (.slice (some ⟨go53, 0, none⟩) x7_1.length co54)) (v1 := (.slice (some ⟨go53, 0, none⟩) x7_1.length co54)) (ok := (fun k_ => (w.heap.size ≤ k_) ∧ some k_ ≠ (.slice Ao41 y509.length co41 : Value).ownBlock ∧ some k_ ≠ (v543 : Value).ownBlock)) (by (with_reducible repeat (first | apply Kd.R_alloc | apply Kd.R_drewN | apply Kd.R_drew)); exact Kd.R_mono HO_6.out (fun _ hk => ⟨⟨hk.1, ⟨hk.2.1, hk.2.2.2⟩⟩, hk.2.2.1⟩)) hg (.inl rfl)); have n4_ := Aside0.mk (hp_); have n5_ := Aside0.mk (Kd.R_after (v := (.slice (some ⟨go53, 0, none⟩) x7_1.length co54)) (v1 := (.slice (some ⟨go53, 0, none⟩) x7_1.length co54)) (ok := (fun k_ => (w.heap.size ≤ k_) ∧ some k_ ≠ (.slice Ao41 y509.length co41 : Value).ownBlock ∧ some k_ ≠ (.slice Ao43 y521.length co43 : Value).ownBlock)) (by (with_reducible repeat (first | apply Kd.R_alloc | apply Kd.R_drewN | apply Kd.R_drew)); exact Kd.R_mono HO_8.out (fun _ hk => ⟨⟨hk.1, ⟨hk.2.1, hk.2.2.1⟩⟩, hk.2.2.2⟩)) hg (.inl rfl)); have n6_ := Aside0.mk ((by rw [hw]; exact below_set (HB.out) GB53.out : Below w.heap.size w w56)); clear HO_0; clear HO_1; clear HO_5; clear HO_6; clear HO_7; clear HO_8; clear HB; have HO_0 := n0_; have HO_1 := n1_; have HO_5 := n2_; have HO_6 := n3_; have HO_7 := n4_; have HO_8 := n5_; have HB := n6_; clear n0_ n1_ n2_ n3_ n4_ n5_ n6_; clear hg hw hp_))
                            go_roundg k1
                            case measure => have := HK1.out; omega
                            case rel => exact ⟨(y559), (wrap64 (x9_1 + 1)), (by first | rfl | (simp; done) | (simp [*]; done) | (simp [*, Fig.bne_nil]; done)), H', ⟨by have := HK1.out; omega⟩, ⟨by (with_reducible repeat (first | apply Kd.V_alloc | apply Kd.V_drewN | apply Kd.V_drew)); exact Kd.V_mono HO_0.out (fun _ hk => ⟨hk.1.1, ⟨hk.1.2.1, ⟨hk.1.2.2.1, ⟨hk.2, hk.1.2.2.2⟩⟩⟩⟩)⟩, ⟨by (with_reducible repeat (first | apply Kd.V_alloc | apply Kd.V_drewN | apply Kd.V_drew)); exact Kd.V_mono HO_1.out (fun _ hk => ⟨hk.1.1, ⟨hk.1.2.1, ⟨hk.1.2.2.1, ⟨hk.2, hk.1.2.2.2⟩⟩⟩⟩)⟩, ⟨by (with_reducible repeat (first | apply Kd.R_alloc | apply Kd.R_drewN | apply Kd.R_drew)); exact Kd.R_mono HO_5.out (fun _ hk => ⟨hk.1.1, ⟨hk.1.2.1, ⟨hk.2, hk.1.2.2⟩⟩⟩)⟩, ⟨by (with_reducible repeat (first | apply Kd.R_alloc | apply Kd.R_drewN | apply Kd.R_drew)); exact Kd.R_mono HO_6.out (fun _ hk => ⟨hk.1.1, ⟨hk.1.2.1, ⟨hk.2, hk.1.2.2⟩⟩⟩)⟩, ⟨by (with_reducible repeat (first | apply Kd.R_alloc | apply Kd.R_drewN | apply Kd.R_drew)); exact HO_7.out⟩, ⟨by (with_reducible repeat (first | apply Kd.R_alloc | apply Kd.R_drewN | apply Kd.R_drew)); exact Kd.R_mono HO_8.out (fun _ hk => ⟨hk.1.1, ⟨hk.1.2.1, ⟨hk.1.2.2, hk.2⟩⟩⟩)⟩, ⟨by repeat (first | (with_reducible first | exact HB.out | apply below_alloc | apply pw_below_drewN | apply below_drew1) | exact HB.out)⟩⟩
                          · rw [if_neg c52] at H
                            exact absurd H (by simp)
                        · rw [if_neg c51] at H
                          have c51b0 : decide (x9_1 < (x7_1.length : Int)) = false := decide_eq_false c51
                          clear c51
                          have H' := Aside0.mk H
                          clear H
                          obtain ⟨Ao57, co57, eo57⟩ := Kd.R_slice HO_7.out
                          subst eo57
                          go_wp2
                          go_loopg [10] k1 (fun kq v10 w' => ∃ (x8_2 : List Int) (x10_2 : Int), v10 = .int .i64 x10_2 ∧ Aside0 (figureheadlaw01_NatOwn.l1 kq l0 l1 y509 y521 x8_2 x10_2 = some r) ∧ Aside0 (kq ≤ k1) ∧ Aside0 (Kd.V (Kd.int .u32) 30 w' w.heap.size (fun k_ => ((P0_ k_ ∨ P1_ k_) ∨ w.heap.size ≤ k_) ∧ some k_ ≠ ((.slice Ao41 y509.length co41) : Value).ownBlock ∧ some k_ ≠ ((.slice Ao43 y521.length co43) : Value).ownBlock ∧ some k_ ≠ (v543 : Value).ownBlock) (.slice A0 l0.length c0) l0) ∧ Aside0 (Kd.V (Kd.int .u32) 30 w' w.heap.size (fun k_ => ((P0_ k_ ∨ P1_ k_) ∨ w.heap.size ≤ k_) ∧ some k_ ≠ ((.slice Ao41 y509.length co41) : Value).ownBlock ∧ some k_ ≠ ((.slice Ao43 y521.length co43) : Value).ownBlock ∧ some k_ ≠ (v543 : Value).ownBlock) (.slice A1 l1.length c1) l1) ∧ Aside0 (Kd.R (Kd.int .u32) 30 w' w.heap.size (fun k_ => (w.heap.size ≤ k_) ∧ some k_ ≠ ((.slice Ao43 y521.length co43) : Value).ownBlock ∧ some k_ ≠ (v543 : Value).ownBlock) (.slice Ao41 y509.length co41) y509) ∧ Aside0 (Kd.R (Kd.int .u32) 30 w' w.heap.size (fun k_ => (w.heap.size ≤ k_) ∧ some k_ ≠ ((.slice Ao41 y509.length co41) : Value).ownBlock ∧ some k_ ≠ (v543 : Value).ownBlock) (.slice Ao43 y521.length co43) y521) ∧ Aside0 (Kd.R (Kd.int .u32) 30 w' w.heap.size (fun k_ => (w.heap.size ≤ k_) ∧ some k_ ≠ ((.slice Ao41 y509.length co41) : Value).ownBlock ∧ some k_ ≠ ((.slice Ao43 y521.length co43) : Value).ownBlock) v543 x8_2) ∧ Aside0 (Below w.heap.size w w'))
                          case atStart => exact ⟨(t542), (0), (by first | rfl | (simp; done) | (simp [*]; done) | (simp [*, Fig.bne_nil]; done)), H', ⟨Nat.le_refl _⟩, ⟨by (with_reducible repeat (first | apply Kd.V_alloc | apply Kd.V_drewN | apply Kd.V_drew)); exact Kd.V_mono HO_0.out (fun _ hk => ⟨hk.1, ⟨hk.2.1, ⟨hk.2.2.1, hk.2.2.2.2⟩⟩⟩)⟩, ⟨by (with_reducible repeat (first | apply Kd.V_alloc | apply Kd.V_drewN | apply Kd.V_drew)); exact Kd.V_mono HO_1.out (fun _ hk => ⟨hk.1, ⟨hk.2.1, ⟨hk.2.2.1, hk.2.2.2.2⟩⟩⟩)⟩, ⟨by (with_reducible repeat (first | apply Kd.R_alloc | apply Kd.R_drewN | apply Kd.R_drew)); exact Kd.R_mono HO_5.out (fun _ hk => ⟨hk.1, ⟨hk.2.1, hk.2.2.2⟩⟩)⟩, ⟨by (with_reducible repeat (first | apply Kd.R_alloc | apply Kd.R_drewN | apply Kd.R_drew)); exact Kd.R_mono HO_6.out (fun _ hk => ⟨hk.1, ⟨hk.2.1, hk.2.2.2⟩⟩)⟩, ⟨by (with_reducible repeat (first | apply Kd.R_alloc | apply Kd.R_drewN | apply Kd.R_drew)); exact Kd.R_mono HO_8.out (fun _ hk => ⟨hk.1, ⟨hk.2.1, hk.2.2.1⟩⟩)⟩, ⟨by repeat (first | (with_reducible first | exact HB.out | apply below_alloc | apply pw_below_drewN | apply below_drew1) | exact HB.out)⟩⟩
                          case round =>
                            clear H'
                            try clear c1
                            try clear c2
                            try clear p2
                            try clear c3
                            try clear c4
                            try clear q4
                            try clear c5
                            try clear p5
                            try clear q5
                            try clear hx5
                            try clear hf5
                            try clear c6
                            try clear p6
                            try clear c7
                            try clear c8
                            try clear c9
                            try clear c9b0
                            try clear c9b1
                            try clear c10
                            try clear c10b0
                            try clear c10b1
                            try clear c11
                            try clear c11b0
                            try clear c11b1
                            try clear c12
                            try clear c12b0
                            try clear c12b1
                            try clear c14
                            try clear c14b0
                            try clear c15
                            try clear c15b0
                            try clear c17
                            try clear c17b0
                            try clear c18
                            try clear c18b0
                            try clear c19
                            try clear c19b0
                            try clear c20
                            try clear c20b0
                            try clear c24
                            try clear c28
                            try clear c29
                            try clear c31
                            try clear q40
                            try clear q42
                            try clear q45
                            try clear q48
                            try clear q49
                            try clear c51
                            try clear c51b0
                            try clear c52
                            try clear c52b0
                            try clear p53
                            try clear q53
                            try clear hx53
                            try clear hf53
                            try clear hcut40
                            try clear hcut42
                            try clear hcut45
                            try clear hcut48
                            try clear hcut49
                            try clear hx53_0
                            try clear p2
                            try clear p53
                            try clear q4
                            try clear q40
                            try clear q42
                            try clear q45
                            try clear q48
                            try clear q49
                            try clear q53
                            obtain ⟨x8_2, x10_2, rfl, HA, HK2, HO_0, HO_1, HO_5, HO_6, HO_8, HB⟩ := hrel
                            cases gk with
                            | zero => exact absurd HA.out (by simp [figureheadlaw01_NatOwn.l1])
                            | succ k2 =>
                              have H := HA.out
                              clear HA
                              simp only [figureheadlaw01_NatOwn.l1] at H
                              by_cases c58 : x10_2 < (x8_2.length : Int)
                              · rw [if_pos c58] at H
                                have c58b0 : decide (x10_2 < (x8_2.length : Int)) = true := decide_eq_true c58
                                clear c58
                                by_cases c59 : 0 ≤ x10_2
                                · rw [if_pos c59] at H
                                  have c59b0 : decide (0 ≤ x10_2) = true := decide_eq_true c59
                                  clear c59
                                  obtain ⟨y560, hy560⟩ : ∃ y_ : List Int, y_ = (x8_2.set (x10_2 : Int).toNat 5) := ⟨_, rfl⟩
                                  replace H : (figureheadlaw01_NatOwn.l1 k2 l0 l1 y509 y521 y560 (wrap64 (x10_2 + 1))) = some r := by first | (rw [hy560]; with_reducible exact H) | (have H2_ := (Option.bind_some _ _).symm.trans H; rw [hy560]; with_reducible exact H2_) | (have H2_ := (Option.bind_some _ _).symm.trans H; with_reducible exact H2_) | with_reducible exact H | (rw [hy560]; exact H) | exact H
                                  have Ny560 := Aside0.mk hy560
                                  clear hy560
                                  have H' := Aside0.mk H
                                  clear H
                                  obtain ⟨Ao61, co61, eo61⟩ := Kd.R_slice HO_8.out
                                  subst eo61
                                  have p60 : 0 ≤ (x10_2 : Int) := of_decide_eq_true (by first | (with_reducible assumption) | assumption)
                                  have q60 : (x10_2 : Int) < ((x8_2.length : Int) : Int) := of_decide_eq_true (by first | (with_reducible assumption) | assumption)
                                  obtain ⟨go60, co60, eo60, gb60, gl60, cl60, HG60⟩ := Kd.R_form HO_8.out (by omega)
                                  (first | cases eo60 | (injection eo60 with ea_ en_ ec_; (first | subst ea_ | (injection ea_ with ea_; subst ea_)); subst ec_; clear en_))
                                  have GB60 := Aside0.mk gb60
                                  have GG60 := Aside0.mk HG60
                                  clear gb60 gl60 HG60
                                  obtain ⟨hx60_0, hf60_0⟩ := Kd.R_celln 0 HO_8.out (x10_2 : Int) p60 q60
                                  replace p60 := eq_true p60
                                  replace q60 := eq_true q60
                                  have HP62 := Kd.R_putg HO_8.out (x10_2 : Int) 5
                                  go_wp2_with (first | ((with_reducible refine gate_store (t := 30) (p := 67) rfl ?_); refine store_event (t := 30) (p := 67) (v := ?vo_w63) (w1 := (wr.setCell ⟨go60, (x10_2 : Int).toNat, none⟩ (.int .u32 5))) ?hg ?ho ?hn ?hr ?_; (case ho => rfl); (case hg => rfl); (case hn => rfl); (case hr => first | (go_simp; done) | (go_simp; rfl)); intro w63 hw; have hg : wr.grownBy w63 (some go60) := (by rw [hw]; exact HP62.2); have hp_ : Kd.R (Kd.int .u32) 30 w63 w.heap.size (fun k_ => (w.heap.size ≤ k_) ∧ some k_ ≠ (.slice Ao41 y509.length co41 : Value).ownBlock ∧ some k_ ≠ (.slice Ao43 y521.length co43 : Value).ownBlock) (.slice (some ⟨go60, 0, none⟩) x8_2.length co61) y560 := (by rw [hw, Ny560.out]; exact HP62.1); clear HP62; have n0_ := Aside0.mk (Kd.V_afterv (v := (.slice (some ⟨go60, 0, none⟩) x8_2.length co61)) (v1 := (.slice (some ⟨go60, 0, none⟩) x8_2.length co61)) (ok := (fun k_ => ((P0_ k_ ∨ P1_ k_) ∨ w.heap.size ≤ k_) ∧ some k_ ≠ (.slice Ao41 y509.length co41 : Value).ownBlock ∧ some k_ ≠ (.slice Ao43 y521.length co43 : Value).ownBlock)) (by (with_reducible repeat (first | apply Kd.V_alloc | apply Kd.V_drewN | apply Kd.V_drew)); exact Kd.V_mono HO_0.out (fun _ hk => ⟨⟨hk.1, ⟨hk.2.1, hk.2.2.1⟩⟩, hk.2.2.2⟩)) hg (.inl rfl)); have n1_ := Aside0.mk (Kd.V_afterv (v := (.slice (some ⟨go60, 0, none⟩) x8_2.length co61)) (v1 := (.slice (some ⟨go60, 0, none⟩) x8_2.length co61)) (ok := (fun k_ => ((P0_ k_ ∨ P1_ k_) ∨ w.heap.size ≤ k_) ∧ some k_ ≠ (.slice Ao41 y509.length co41 : Value).ownBlock ∧ some k_ ≠ (.slice Ao43 y521.length co43 : Value).ownBlock)) (by (with_reducible repeat (first | apply Kd.V_alloc | apply Kd.V_drewN | apply Kd.V_drew)); exact Kd.V_mono HO_1.out (fun _ hk => ⟨⟨hk.1, ⟨hk.2.1, hk.2.2.1⟩⟩, hk.2.2.2⟩)) hg (.inl rfl)); have n2_ := Aside0.mk (Kd.R_after (v := (.slice (some ⟨go60, 0, none⟩) x8_2.length co61)) (v1 := (.slice (some ⟨go60, 0, none⟩) x8_2.length co61)) (ok := (fun k_ => (w.heap.size ≤ k_) ∧ some k_ ≠ (.slice Ao43 y521.length co43 : Value).ownBlock)) (by (with_reducible repeat (first | apply Kd.R_alloc | apply Kd.R_drewN | apply Kd.R_drew)); exact Kd.R_mono HO_5.out (fun _ hk => ⟨⟨hk.1, hk.2.1⟩, hk.2.2⟩)) hg (.inl rfl)); have n3_ := Aside0.mk (Kd.R_after (v := (.slice (some ⟨go60, 0, none⟩) x8_2.length co61)) (v1 := (.slice (some ⟨go60, 0, none⟩) x8_2.length co61)) (ok := (fun k_ => (w.heap.size ≤ k_) ∧ some k_ ≠ (.slice Ao41 y509.length co41 : Value).ownBlock)) (by (with_reducible repeat (first | apply Kd.R_alloc | apply Kd.R_drewN | apply Kd.R_drew)); exact Kd.R_mono HO_6.out (fun _ hk => ⟨⟨hk.1, hk.2.1⟩, hk.2.2⟩)) hg (.inl rfl)); have n4_ := Aside0.mk (hp_); have n5_ := Aside0.mk ((by rw [hw]; exact below_set (HB.out) GB60.out : Below w.heap.size w w63)); clear HO_0; clear HO_1; clear HO_5; clear HO_6; clear HO_8; clear HB; have HO_0 := n0_; have HO_1 := n1_; have HO_5 := n2_; have HO_6 := n3_; have HO_8 := n4_; have HB := n5_; clear n0_ n1_ n2_ n3_ n4_ n5_; clear hg hw hp_))
                                  go_roundg k2
                                  case measure => have := HK1.out; have := HK2.out; omega
                                  case rel => exact ⟨(y560), (wrap64 (x10_2 + 1)), (by first | rfl | (simp; done) | (simp [*]; done) | (simp [*, Fig.bne_nil]; done)), H', ⟨by have := HK1.out; have := HK2.out; omega⟩, ⟨by (with_reducible repeat (first | apply Kd.V_alloc | apply Kd.V_drewN | apply Kd.V_drew)); exact Kd.V_mono HO_0.out (fun _ hk => ⟨hk.1.1, ⟨hk.1.2.1, ⟨hk.1.2.2, hk.2⟩⟩⟩)⟩, ⟨by (with_reducible repeat (first | apply Kd.V_alloc | apply Kd.V_drewN | apply Kd.V_drew)); exact Kd.V_mono HO_1.out (fun _ hk => ⟨hk.1.1, ⟨hk.1.2.1, ⟨hk.1.2.2, hk.2⟩⟩⟩)⟩, ⟨by (with_reducible repeat (first | apply Kd.R_alloc | apply Kd.R_drewN | apply Kd.R_drew)); exact Kd.R_mono HO_5.out (fun _ hk => ⟨hk.1.1, ⟨hk.1.2, hk.2⟩⟩)⟩, ⟨by (with_reducible repeat (first | apply Kd.R_alloc | apply Kd.R_drewN | apply Kd.R_drew)); exact Kd.R_mono HO_6.out (fun _ hk => ⟨hk.1.1, ⟨hk.1.2, hk.2⟩⟩)⟩, ⟨by (with_reducible repeat (first | apply Kd.R_alloc | apply Kd.R_drewN | apply Kd.R_drew)); exact HO_8.out⟩, ⟨by repeat (first | (with_reducible first | exact HB.out | apply below_alloc | apply pw_below_drewN | apply below_drew1) | exact HB.out)⟩⟩
                                · rw [if_neg c59] at H
                                  exact absurd H (by simp)
                              · rw [if_neg c58] at H
                                have c58b0 : decide (x10_2 < (x8_2.length : Int)) = false := decide_eq_false c58
                                clear c58
                                replace H := Option.bind_eq_some_iff.mp H
                                obtain ⟨t561, A640, H⟩ := H
                                replace H : (if t561 = true then (if 0 ≤ (l0.length : Int) then (if (l0.length : Int) ≤ (y509.length : Int) then ((figureheadref01_Same.f k2 (y509.take ((l0.length : Int) : Int).toNat) l0).bind fun t567 => (if t567 = true then (if 0 ≤ (l1.length : Int) then (if (l1.length : Int) ≤ (y521.length : Int) then ((figureheadref01_Same.f k2 (y521.take ((l1.length : Int) : Int).toNat) l1).bind fun t573 => (if t573 = true then (if (l0.length : Int) < (y509.length : Int) then (if (rd y509 (l0.length : Int)) = 7 then (if 0 ≤ (wrap64 ((l1.length : Int) + 1)) then (if (wrap64 ((l1.length : Int) + 1)) < (y521.length : Int) then (some ((rd y521 (wrap64 ((l1.length : Int) + 1))) == 8)) else (none)) else (none)) else (some false)) else (none)) else (some false))) else (none)) else (none)) else (some false))) else (none)) else (none)) else (some false)) = some r := H
                                have A64 := Aside0.mk A640
                                clear A640
                                by_cases c65 : t561 = true
                                · subst c65
                                  have H1 : (if 0 ≤ (l0.length : Int) then (if (l0.length : Int) ≤ (y509.length : Int) then ((figureheadref01_Same.f k2 (y509.take ((l0.length : Int) : Int).toNat) l0).bind fun t567 => (if t567 = true then (if 0 ≤ (l1.length : Int) then (if (l1.length : Int) ≤ (y521.length : Int) then ((figureheadref01_Same.f k2 (y521.take ((l1.length : Int) : Int).toNat) l1).bind fun t573 => (if t573 = true then (if (l0.length : Int) < (y509.length : Int) then (if (rd y509 (l0.length : Int)) = 7 then (if 0 ≤ (wrap64 ((l1.length : Int) + 1)) then (if (wrap64 ((l1.length : Int) + 1)) < (y521.length : Int) then (some ((rd y521 (wrap64 ((l1.length : Int) + 1))) == 8)) else (none)) else (none)) else (some false)) else (none)) else (some false))) else (none)) else (none)) else (some false))) else (none)) else (none)) = some r := by rw [if_pos rfl] at H; exact H
                                  clear H
                                  have H := H1
                                  clear H1
                                  by_cases c66 : 0 ≤ (l0.length : Int)
                                  · rw [if_pos c66] at H
                                    have c66b0 := eq_true c66
                                    have c66b1 : decide (0 ≤ (l0.length : Int)) = true := decide_eq_true c66
                                    clear c66
                                    by_cases c67 : (l0.length : Int) ≤ (y509.length : Int)
                                    · rw [if_pos c67] at H
                                      have c67b0 := eq_true c67
                                      have c67b1 : decide ((l0.length : Int) ≤ (y509.length : Int)) = true := decide_eq_true c67
                                      clear c67
                                      obtain ⟨y562, hy562⟩ : ∃ y_ : List Int, y_ = (y509.take ((l0.length : Int) : Int).toNat) := ⟨_, rfl⟩
                                      replace H : ((figureheadref01_Same.f k2 y562 l0).bind fun t567 => (if t567 = true then (if 0 ≤ (l1.length : Int) then (if (l1.length : Int) ≤ (y521.length : Int) then ((figureheadref01_Same.f k2 (y521.take ((l1.length : Int) : Int).toNat) l1).bind fun t573 => (if t573 = true then (if (l0.length : Int) < (y509.length : Int) then (if (rd y509 (l0.length : Int)) = 7 then (if 0 ≤ (wrap64 ((l1.length : Int) + 1)) then (if (wrap64 ((l1.length : Int) + 1)) < (y521.length : Int) then (some ((rd y521 (wrap64 ((l1.length : Int) + 1))) == 8)) else (none)) else (none)) else (some false)) else (none)) else (some false))) else (none)) else (none)) else (some false))) = some r := by first | (rw [hy562]; with_reducible exact H) | (have H2_ := (Option.bind_some _ _).symm.trans H; rw [hy562]; with_reducible exact H2_) | (have H2_ := (Option.bind_some _ _).symm.trans H; with_reducible exact H2_) | with_reducible exact H | (rw [hy562]; exact H) | exact H
                                      have Ny562 := Aside0.mk hy562
                                      clear hy562
                                      replace H := Option.bind_eq_some_iff.mp H
                                      obtain ⟨t567, A680, H⟩ := H
                                      replace H : (if t567 = true then (if 0 ≤ (l1.length : Int) then (if (l1.length : Int) ≤ (y521.length : Int) then ((figureheadref01_Same.f k2 (y521.take ((l1.length : Int) : Int).toNat) l1).bind fun t573 => (if t573 = true then (if (l0.length : Int) < (y509.length : Int) then (if (rd y509 (l0.length : Int)) = 7 then (if 0 ≤ (wrap64 ((l1.length : Int) + 1)) then (if (wrap64 ((l1.length : Int) + 1)) < (y521.length : Int) then (some ((rd y521 (wrap64 ((l1.length : Int) + 1))) == 8)) else (none)) else (none)) else (some false)) else (none)) else (some false))) else (none)) else (none)) else (some false)) = some r := H
                                      have A68 := Aside0.mk A680
                                      clear A680
                                      by_cases c69 : t567 = true
                                      · subst c69
                                        have H1 : (if 0 ≤ (l1.length : Int) then (if (l1.length : Int) ≤ (y521.length : Int) then ((figureheadref01_Same.f k2 (y521.take ((l1.length : Int) : Int).toNat) l1).bind fun t573 => (if t573 = true then (if (l0.length : Int) < (y509.length : Int) then (if (rd y509 (l0.length : Int)) = 7 then (if 0 ≤ (wrap64 ((l1.length : Int) + 1)) then (if (wrap64 ((l1.length : Int) + 1)) < (y521.length : Int) then (some ((rd y521 (wrap64 ((l1.length : Int) + 1))) == 8)) else (none)) else (none)) else (some false)) else (none)) else (some false))) else (none)) else (none)) = some r := by rw [if_pos rfl] at H; exact H
                                        clear H
                                        have H := H1
                                        clear H1
                                        by_cases c70 : 0 ≤ (l1.length : Int)
                                        · rw [if_pos c70] at H
                                          have c70b0 := eq_true c70
                                          have c70b1 : decide (0 ≤ (l1.length : Int)) = true := decide_eq_true c70
                                          clear c70
                                          by_cases c71 : (l1.length : Int) ≤ (y521.length : Int)
                                          · rw [if_pos c71] at H
                                            have c71b0 := eq_true c71
                                            have c71b1 : decide ((l1.length : Int) ≤ (y521.length : Int)) = true := decide_eq_true c71
                                            clear c71
                                            obtain ⟨y568, hy568⟩ : ∃ y_ : List Int, y_ = (y521.take ((l1.length : Int) : Int).toNat) := ⟨_, rfl⟩
                                            replace H : ((figureheadref01_Same.f k2 y568 l1).bind fun t573 => (if t573 = true then (if (l0.length : Int) < (y509.length : Int) then (if (rd y509 (l0.length : Int)) = 7 then (if 0 ≤ (wrap64 ((l1.length : Int) + 1)) then (if (wrap64 ((l1.length : Int) + 1)) < (y521.length : Int) then (some ((rd y521 (wrap64 ((l1.length : Int) + 1))) == 8)) else (none)) else (none)) else (some false)) else (none)) else (some false))) = some r := by first | (rw [hy568]; with_reducible exact H) | (have H2_ := (Option.bind_some _ _).symm.trans H; rw [hy568]; with_reducible exact H2_) | (have H2_ := (Option.bind_some _ _).symm.trans H; with_reducible exact H2_) | with_reducible exact H | (rw [hy568]; exact H) | exact H
                                            have Ny568 := Aside0.mk hy568
                                            clear hy568
                                            replace H := Option.bind_eq_some_iff.mp H
                                            obtain ⟨t573, A720, H⟩ := H
                                            replace H : (if t573 = true then (if (l0.length : Int) < (y509.length : Int) then (if (rd y509 (l0.length : Int)) = 7 then (if 0 ≤ (wrap64 ((l1.length : Int) + 1)) then (if (wrap64 ((l1.length : Int) + 1)) < (y521.length : Int) then (some ((rd y521 (wrap64 ((l1.length : Int) + 1))) == 8)) else (none)) else (none)) else (some false)) else (none)) else (some false)) = some r := H
                                            have A72 := Aside0.mk A720
                                            clear A720
                                            by_cases c73 : t573 = true
                                            · subst c73
                                              have H1 : (if (l0.length : Int) < (y509.length : Int) then (if (rd y509 (l0.length : Int)) = 7 then (if 0 ≤ (wrap64 ((l1.length : Int) + 1)) then (if (wrap64 ((l1.length : Int) + 1)) < (y521.length : Int) then (some ((rd y521 (wrap64 ((l1.length : Int) + 1))) == 8)) else (none)) else (none)) else (some false)) else (none)) = some r := by rw [if_pos rfl] at H; exact H
                                              clear H
                                              have H := H1
                                              clear H1
                                              by_cases c74 : (l0.length : Int) < (y509.length : Int)
                                              · rw [if_pos c74] at H
                                                have c74b0 : decide ((l0.length : Int) < (y509.length : Int)) = true := decide_eq_true c74
                                                have c74b1 : decide (l0.length < y509.length) = true := decide_eq_true (Int.ofNat_lt.mp c74)
                                                clear c74
                                                by_cases c75 : (rd y509 (l0.length : Int)) = 7
                                                · rw [if_pos c75] at H
                                                  have c75b0 : ((rd y509 (l0.length : Int)) == 7) = true := beq_iff_eq.mpr c75
                                                  have c75b1 : ((rd y509 (l0.length : Int)) != 7) = false := bne_eq_false_iff_eq.mpr c75
                                                  clear c75
                                                  obtain ⟨ji76, hji76⟩ : ∃ j_ : Int, (wrap64 ((l1.length : Int) + 1)) = j_ := ⟨_, rfl⟩
                                                  replace H : (if 0 ≤ (ji76) then (if (ji76) < (y521.length : Int) then (some ((rd y521 (ji76)) == 8)) else (none)) else (none)) = some r := by first | (rw [hji76] at H; exact H) | (simp only [hji76] at H ⊢; exact H)
                                                  (try rw [hji76] at A64)
                                                  (try rw [hji76] at A68)
                                                  (try rw [hji76] at A72)
                                                  have hji76w : (IntKind.i64.wrap ((l1.length : Int) + 1)) = ji76 := (i64_w _).trans hji76
                                                  by_cases c77 : 0 ≤ (ji76)
                                                  · rw [if_pos c77] at H
                                                    have c77b0 : decide (0 ≤ (ji76)) = true := decide_eq_true c77
                                                    clear c77
                                                    by_cases c78 : (ji76) < (y521.length : Int)
                                                    · rw [if_pos c78] at H
                                                      have c78b0 : decide ((ji76) < (y521.length : Int)) = true := decide_eq_true c78
                                                      clear c78
                                                      obtain rfl := Option.some.inj H
                                                      obtain ⟨Ao79, co79, eo79⟩ := Kd.R_slice HO_8.out
                                                      subst eo79
                                                      go_wp2_with (first | ((with_reducible refine gate_callee (f := 25) rfl ?_); refine goesL_ (some 68) rfl rfl Try.func25 (by kernel_rfl) rfl #[] rfl (by (try simp only [List.map_toArray, List.map_cons, List.map_nil]); first | done | rfl | (simp only [List.length_drop, List.length_take]; rfl)) ?_; (with_reducible refine (figureheadlaw01_answers.calls  true _ ?side1 A64.out).mono ?_); (case side1 => exact ⟨by first | rfl | exact HT.out⟩); rintro e w80 ⟨rfl, hb⟩; refine ⟨_, rfl, ?_⟩; have n0_ := Aside0.mk (Kd.V_below (by (with_reducible repeat (first | apply Kd.V_alloc | apply Kd.V_drewN | apply Kd.V_drew)); exact HO_0.out) hb); have n1_ := Aside0.mk (Kd.V_below (by (with_reducible repeat (first | apply Kd.V_alloc | apply Kd.V_drewN | apply Kd.V_drew)); exact HO_1.out) hb); have n2_ := Aside0.mk (Kd.R_below (by (with_reducible repeat (first | apply Kd.R_alloc | apply Kd.R_drewN | apply Kd.R_drew)); exact HO_5.out) hb); have n3_ := Aside0.mk (Kd.R_below (by (with_reducible repeat (first | apply Kd.R_alloc | apply Kd.R_drewN | apply Kd.R_drew)); exact HO_6.out) hb); have n4_ := Aside0.mk (Kd.R_below (by (with_reducible repeat (first | apply Kd.R_alloc | apply Kd.R_drewN | apply Kd.R_drew)); exact HO_8.out) hb); have n5_ := Aside0.mk (below_step (by repeat (first | (with_reducible first | exact HB.out | apply below_alloc | apply pw_below_drewN | apply below_drew1) | exact HB.out)) hb); clear HO_0; clear HO_1; clear HO_5; clear HO_6; clear HO_8; clear HB; have HO_0 := n0_; have HO_1 := n1_; have HO_5 := n2_; have HO_6 := n3_; have HO_8 := n4_; have HB := n5_; clear n0_ n1_ n2_ n3_ n4_ n5_; (try clear hb); (try clear hb2); (try clear hk); (try clear hi); have q81 : ((l0.length : Int) : Int) ≤ ((y509.length : Int) : Int) := of_decide_eq_true (by first | (with_reducible assumption) | assumption); obtain ⟨i081, hi081, _, hsz81, _⟩ := info_parts info30; have hroom81 : y509.length ≤ co41 := (Kd.R_reads' HO_5.out).2.1; have hC81 : Kd.F (Kd.int .u32) _ _ Ao41 y509.length y509 := (Kd.V_at (base := w.heap.size) (Kd.V_mono (ok' := (fun k_ => (((P0_ k_ ∨ P1_ k_) ∨ w.heap.size ≤ k_) ∧ (some k_ ≠ (.slice Ao43 y521.length co43 : Value).ownBlock ∧ some k_ ≠ (.slice Ao79 x8_2.length co79 : Value).ownBlock)))) (Kd.R_V HO_5.out) (fun k_ hk => ⟨(.inr (hk.1)), ⟨hk.2.1, hk.2.2⟩⟩))).2.2; (try clear hcut40); (try clear hcut45); (try clear hcut48); have hcut81 := cut_to (P := Try.prog) 22 30 .i64 Try.underlying22 hi081 Ao41 y509.length co41 (l0.length : Int) (of_decide_eq_true (by first | (with_reducible assumption) | assumption)) q81 hroom81; have hr81 := Kd.F_take (m := ((l0.length : Int) : Int).toNat) hC81 (by omega); have hy81 : y562.length = ((l0.length : Int) : Int).toNat := (by rw [Ny562.out, List.length_take]; omega); rw [← Ny562.out] at hr81; rw [← hy81] at hcut81; have HO566 := Aside0.mk (show Kd.V (Kd.int .u32) 30 _ w.heap.size _ (.slice Ao41 y562.length co41) y562 from Kd.V_mk (by omega) hr81); have HC566 := Aside0.mk (show y562.length ≤ co41 from by omega); clear hr81 hC81 hroom81 hi081 hsz81; have KY81 := Aside0.mk hy81; clear hy81; replace q81 := eq_true q81) | ((with_reducible refine gate_dst (N := 75) rfl ?_); (try (refine gate_guard (by rfl) ?_; dsimp only)); (refine gate_guard (by rfl) ?_; dsimp only); (with_reducible refine gate_callee (f := 17) rfl ?_); refine goesL_ (some 75) rfl rfl Try.func17 (by kernel_rfl) rfl #[.slice Ao41 y562.length co41, .slice A0 l0.length c0] rfl (by (try simp only [List.map_toArray, List.map_cons, List.map_nil]); first | done | rfl | (simp only [List.length_drop, List.length_take]; rfl)) ?_; (with_reducible refine (figureheadref01_Same.calls k2 _ _ y562 _ _ l0 true _ ?side1 ?side2 ?side3 ?side4 A68.out).mono ?_); (case side1 => repeat (first | exact (Kd.V_reads' HO566.out).2.2 | (with_reducible refine Kd.C_alloc ?_ _) | (with_reducible refine Kd.C_drewN ?_ _) | (with_reducible refine Kd.C_drew ?_))); (case side2 => exact (Kd.V_reads' HO566.out).2.1); (case side3 => repeat (first | exact (Kd.V_reads' HO_0.out).2.2 | (with_reducible refine Kd.C_alloc ?_ _) | (with_reducible refine Kd.C_drewN ?_ _) | (with_reducible refine Kd.C_drew ?_))); (case side4 => exact (Kd.V_reads' HO_0.out).2.1); rintro e w' ⟨rfl, ⟨nd, rfl⟩⟩; refine ⟨_, rfl, ?_⟩; have q82 : ((l1.length : Int) : Int) ≤ ((y521.length : Int) : Int) := of_decide_eq_true (by first | (with_reducible assumption) | assumption); obtain ⟨i082, hi082, _, hsz82, _⟩ := info_parts info30; have hroom82 : y521.length ≤ co43 := (Kd.R_reads' HO_6.out).2.1; have hC82 : Kd.F (Kd.int .u32) _ _ Ao43 y521.length y521 := (Kd.V_at (base := w.heap.size) (Kd.V_mono (ok' := (fun k_ => (((P0_ k_ ∨ P1_ k_) ∨ w.heap.size ≤ k_) ∧ (some k_ ≠ (.slice Ao41 y509.length co41 : Value).ownBlock ∧ some k_ ≠ (.slice Ao79 x8_2.length co79 : Value).ownBlock)))) (Kd.R_V HO_6.out) (fun k_ hk => ⟨(.inr (hk.1)), ⟨hk.2.1, hk.2.2⟩⟩))).2.2; (try clear hcut42); (try clear hcut49); have hcut82 := cut_to (P := Try.prog) 22 30 .i64 Try.underlying22 hi082 Ao43 y521.length co43 (l1.length : Int) (of_decide_eq_true (by first | (with_reducible assumption) | assumption)) q82 hroom82; have hr82 := Kd.F_take (m := ((l1.length : Int) : Int).toNat) hC82 (by omega); have hy82 : y568.length = ((l1.length : Int) : Int).toNat := (by rw [Ny568.out, List.length_take]; omega); rw [← Ny568.out] at hr82; rw [← hy82] at hcut82; have HO572 := Aside0.mk (show Kd.V (Kd.int .u32) 30 _ w.heap.size _ (.slice Ao43 y568.length co43) y568 from Kd.V_mk (by omega) hr82); have HC572 := Aside0.mk (show y568.length ≤ co43 from by omega); clear hr82 hC82 hroom82 hi082 hsz82; have KY82 := Aside0.mk hy82; clear hy82; replace q82 := eq_true q82) | ((with_reducible refine gate_dst (N := 83) rfl ?_); (try (refine gate_guard (by rfl) ?_; dsimp only)); (refine gate_guard (by rfl) ?_; dsimp only); (with_reducible refine gate_callee (f := 17) rfl ?_); refine goesL_ (some 83) rfl rfl Try.func17 (by kernel_rfl) rfl #[.slice Ao43 y568.length co43, .slice A1 l1.length c1] rfl (by (try simp only [List.map_toArray, List.map_cons, List.map_nil]); first | done | rfl | (simp only [List.length_drop, List.length_take]; rfl)) ?_; (with_reducible refine (figureheadref01_Same.calls k2 _ _ y568 _ _ l1 true _ ?side1 ?side2 ?side3 ?side4 A72.out).mono ?_); (case side1 => repeat (first | exact (Kd.V_reads' HO572.out).2.2 | (with_reducible refine Kd.C_alloc ?_ _) | (with_reducible refine Kd.C_drewN ?_ _) | (with_reducible refine Kd.C_drew ?_))); (case side2 => exact (Kd.V_reads' HO572.out).2.1); (case side3 => repeat (first | exact (Kd.V_reads' HO_1.out).2.2 | (with_reducible refine Kd.C_alloc ?_ _) | (with_reducible refine Kd.C_drewN ?_ _) | (with_reducible refine Kd.C_drew ?_))); (case side4 => exact (Kd.V_reads' HO_1.out).2.1); rintro e w' ⟨rfl, ⟨nd, rfl⟩⟩; refine ⟨_, rfl, ?_⟩; have p574 : 0 ≤ ((l0.length : Int) : Int) := of_decide_eq_true (by first | (with_reducible assumption) | assumption); have q574 : (l0.length : Int) < (y509.length : Int) := of_decide_eq_true (by first | (with_reducible assumption) | assumption); obtain ⟨ad574, e574, hx574_0⟩ := Kd.at_int (Kd.R_reads' HO_5.out).2.2 (l0.length : Int) p574 q574; cases e574; (try simp only [Go.IntWalk.toNatUp] at hx574_0); replace p574 := eq_true p574; replace q574 := eq_true q574; have p575 : 0 ≤ ((ji76) : Int) := of_decide_eq_true (by first | (with_reducible assumption) | assumption); have q575 : (ji76) < (y521.length : Int) := of_decide_eq_true (by first | (with_reducible assumption) | assumption); obtain ⟨ad575, e575, hx575_0⟩ := Kd.at_int (Kd.R_reads' HO_6.out).2.2 (ji76) p575 q575; cases e575; replace p575 := eq_true p575; replace q575 := eq_true q575))
                                                      go_ret
                                                      exact ⟨by first | rfl | (simp [errW_none, errW_some] <;> rfl) | (simp only [← hji76]; first | rfl | (simp [errW_none, errW_some] <;> rfl)) | (simp [*, errW_none, errW_some] <;> rfl), by repeat (first | (with_reducible first | exact HB.out | apply below_alloc | apply pw_below_drewN | apply below_drew1) | exact HB.out)⟩
                                                    · rw [if_neg c78] at H
                                                      exact absurd H (by simp)
                                                  · rw [if_neg c77] at H
                                                    exact absurd H (by simp)
                                                · rw [if_neg c75] at H
                                                  have c75b0 : ((rd y509 (l0.length : Int)) == 7) = false := beq_eq_false_iff_ne.mpr c75
                                                  have c75b1 : ((rd y509 (l0.length : Int)) != 7) = true := bne_iff_ne.mpr c75
                                                  exact absurd ((Option.some.inj H).trans HT.out) (by decide)
                                              · rw [if_neg c74] at H
                                                exact absurd H (by simp)
                                            · replace c73 := Bool.eq_false_iff.mpr c73
                                              subst c73
                                              have H1 : (some false) = some r := by rw [if_neg (show ¬ (false = true) by decide)] at H; exact H
                                              clear H
                                              have H := H1
                                              clear H1
                                              exact absurd ((Option.some.inj H).trans HT.out) (by decide)
                                          · rw [if_neg c71] at H
                                            exact absurd H (by simp)
                                        · rw [if_neg c70] at H
                                          exact absurd H (by simp)
                                      · replace c69 := Bool.eq_false_iff.mpr c69
                                        subst c69
                                        have H1 : (some false) = some r := by rw [if_neg (show ¬ (false = true) by decide)] at H; exact H
                                        clear H
                                        have H := H1
                                        clear H1
                                        exact absurd ((Option.some.inj H).trans HT.out) (by decide)
                                    · rw [if_neg c67] at H
                                      exact absurd H (by simp)
                                  · rw [if_neg c66] at H
                                    exact absurd H (by simp)
                                · replace c65 := Bool.eq_false_iff.mpr c65
                                  subst c65
                                  have H1 : (some false) = some r := by rw [if_neg (show ¬ (false = true) by decide)] at H; exact H
                                  clear H
                                  have H := H1
                                  clear H1
                                  exact absurd ((Option.some.inj H).trans HT.out) (by decide)
                  · rw [if_neg c12] at H
                    exact absurd H (by simp)
                · rw [if_neg c11] at H
                  exact absurd H (by simp)
              · rw [if_neg c10] at H
                exact absurd H (by simp)
            · rw [if_neg c9] at H
              exact absurd H (by simp)
          · rw [if_neg c8] at H
            exact absurd H (by simp)
        · rw [if_neg c7] at H
          exact absurd H (by simp)
      · rw [if_neg c6] at H
        exact absurd H (by simp)
    · rw [if_neg c5] at H
      exact absurd H (by simp)
  · replace c4 := Bool.eq_false_iff.mpr c4
    subst c4
    have H1 : ((figureheadlaw01_answers.f).bind fun t499 => (some t499)) = some r := by rw [if_neg (show ¬ (false = true) by decide)] at H; exact H
    clear H
    have H := H1
    clear H1
    replace H := Option.bind_eq_some_iff.mp H
    obtain ⟨t499, A830, H⟩ := H
    replace H : (some t499) = some r := H
    have A83 := Aside0.mk A830
    clear A830
    obtain rfl := Option.some.inj H
    go_enter Try.func12, Try.ntmps12
    go_wp2_with (first | ((with_reducible refine gate_dst (N := 13) rfl ?_); (try (refine gate_guard (by rfl) ?_; dsimp only)); refine Kd.N_lit (Kd.slice 30 (Kd.int .u32)) _ 22 ?hg (N' := 13) ?hd (xs := ([l0, l1] : List (List Int))) (inner := [.slice A0 l0.length c0, .slice A1 l1.length c1]) (ok := (fun k_ => ((P0_ k_ ∨ P1_ k_) ∨ w.heap.size ≤ k_))) (okp := (fun k_ => ((P0_ k_ ∨ P1_ k_) ∨ w.heap.size ≤ k_))) ?hr ?hp (fun _ hk => hk) ((show ∀ k_, w.heap.size ≤ k_ → (fun k_ => ((P0_ k_ ∨ P1_ k_) ∨ w.heap.size ≤ k_)) k_ from fun k_ hk => (.inr (Nat.le_trans (below_size (by repeat (first | (with_reducible first | exact HB.out | apply below_alloc | apply pw_below_drewN | apply below_drew1) | exact HB.out))) hk))) _ (Nat.le_refl _)) (Below.refl _ _) (Nat.le_refl _) (by simp) ?_; (case hd => rfl); (case hg => rfl); (case hr => first | (go_simp; done) | (go_simp; rfl)); (case hp => exact (Reps.one (show Kd.FK (Kd.slice 30 (Kd.int .u32)) _ _ l0 [.slice A0 l0.length c0] from (Kd.FK_slice_mk (Kd.V_reads' (Kd.V_mono (ok' := (fun k_ => ((P0_ k_ ∨ P1_ k_) ∨ w.heap.size ≤ k_))) (HO0.out) (fun k_ hk => hk))).2.1 (Kd.V_F (Kd.V_mono (ok' := (fun k_ => ((P0_ k_ ∨ P1_ k_) ∨ w.heap.size ≤ k_))) (HO0.out) (fun k_ hk => hk))))) (Reps.one (show Kd.FK (Kd.slice 30 (Kd.int .u32)) _ _ l1 [.slice A1 l1.length c1] from (Kd.FK_slice_mk (Kd.V_reads' (Kd.V_mono (ok' := (fun k_ => ((P0_ k_ ∨ P1_ k_) ∨ w.heap.size ≤ k_))) (HO1.out) (fun k_ hk => hk))).2.1 (Kd.V_F (Kd.V_mono (ok' := (fun k_ => ((P0_ k_ ∨ P1_ k_) ∨ w.heap.size ≤ k_))) (HO1.out) (fun k_ hk => hk))))) (Reps.none _ _)))); intro v496 w84 ho85 hb hg_ hnew_; clear hg_ hnew_; (first | rw [← Ny495.out] at ho85 | (simp only [Int.reduceToNat] at ho85; rw [← Ny495.out] at ho85)); have n0_ := Aside0.mk (Kd.V_elder' (by (with_reducible repeat (first | apply Kd.V_alloc | apply Kd.V_drewN | apply Kd.V_drew)); exact HO0.out) (Kd.N_base ho85) hb); have n1_ := Aside0.mk (Kd.V_elder' (by (with_reducible repeat (first | apply Kd.V_alloc | apply Kd.V_drewN | apply Kd.V_drew)); exact HO1.out) (Kd.N_base ho85) hb); have n2_ := Aside0.mk (Kd.N_lower ho85 (below_size (by repeat (first | (with_reducible first | exact HB.out | apply below_alloc | apply pw_below_drewN | apply below_drew1) | exact HB.out)))); have n3_ := Aside0.mk (below_step (by repeat (first | (with_reducible first | exact HB.out | apply below_alloc | apply pw_below_drewN | apply below_drew1) | exact HB.out)) hb); clear HO0; clear HO1; clear HB; have HO0 := n0_; have HO1 := n1_; have HO497 := n2_; have HB := n3_; clear n0_ n1_ n2_ n3_; clear hb ho85; obtain ⟨Ao86, co86, eo86⟩ := Kd.N_slice HO497.out; subst eo86) | ((with_reducible refine gate_callee (f := 24) rfl ?_); refine goesL_ (some 14) rfl rfl Try.func24 (by kernel_rfl) rfl #[.slice Ao86 y495.length co86] rfl (by (try simp only [List.map_toArray, List.map_cons, List.map_nil]); first | done | rfl | (simp only [List.length_drop, List.length_take]; rfl)) ?_; (with_reducible refine (figureheadlaw01_good.calls k _ _ y495 false _ ?side1 ?side2 A3.out).mono ?_); (case side1 => repeat (first | exact (Kd.N_reads' HO497.out).2.2 | (with_reducible refine Kd.C_alloc ?_ _) | (with_reducible refine Kd.C_drewN ?_ _) | (with_reducible refine Kd.C_drew ?_))); (case side2 => exact (Kd.N_reads' HO497.out).2.1); rintro e w' ⟨rfl, ⟨nd, rfl⟩⟩; refine ⟨_, rfl, ?_⟩) | ((with_reducible refine gate_callee (f := 25) rfl ?_); refine goesL_ (some 16) rfl rfl Try.func25 (by kernel_rfl) rfl #[] rfl (by (try simp only [List.map_toArray, List.map_cons, List.map_nil]); first | done | rfl | (simp only [List.length_drop, List.length_take]; rfl)) ?_; (with_reducible refine (figureheadlaw01_answers.calls  t499 _ ?side1 A83.out).mono ?_); (case side1 => exact ⟨by first | rfl | exact HT.out⟩); rintro e w87 ⟨rfl, hb⟩; refine ⟨_, rfl, ?_⟩; have n0_ := Aside0.mk (Kd.V_below (by (with_reducible repeat (first | apply Kd.V_alloc | apply Kd.V_drewN | apply Kd.V_drew)); exact HO0.out) hb); have n1_ := Aside0.mk (Kd.V_below (by (with_reducible repeat (first | apply Kd.V_alloc | apply Kd.V_drewN | apply Kd.V_drew)); exact HO1.out) hb); have n2_ := Aside0.mk (Kd.N_below (by (with_reducible repeat (first | apply Kd.N_alloc | apply Kd.N_drewN | apply Kd.N_drew)); exact HO497.out) hb); have n3_ := Aside0.mk (below_step (by repeat (first | (with_reducible first | exact HB.out | apply below_alloc | apply pw_below_drewN | apply below_drew1) | exact HB.out)) hb); clear HO0; clear HO1; clear HO497; clear HB; have HO0 := n0_; have HO1 := n1_; have HO497 := n2_; have HB := n3_; clear n0_ n1_ n2_ n3_; (try clear hb); (try clear hb2); (try clear hk); (try clear hi)))
    go_ret
    exact ⟨by first | rfl | (simp [errW_none, errW_some] <;> rfl) | (simp [*, errW_none, errW_some] <;> rfl), by repeat (first | (with_reducible first | exact HB.out | apply below_alloc | apply pw_below_drewN | apply below_drew1) | exact HB.out)⟩

end Go.Proofs.Ytkhmdpplpecgcaa.Px

namespace Go.Proofs.Ytkhmdpplpecgcaa.Px
open Fig Go.RowKit Go.Proofs.YtkhmdpplpecgcaaW.PrintWords Go.Proofs.YtkhmdpplpecgcaaW.PrintLast Go.Proofs.YtkhmdpplpecgcaaW.PrintMore
attribute [local go_sem] max2_int min2_int max_two min_two max_three min_three max_four min_four   -- for this text's walks alone

/-! plain facts: figureheadref01_Same -/
theorem Same_loop (a b : List Int) (hl : a.length ≤ 4611686018427387904) (he : a.length = b.length) : ∀ (d n : Nat), a.length - n = d → n ≤ a.length → Ev (fun k => figureheadref01_Same.l0 k a b (n : Int)) (decide (a.drop n = b.drop n))
  | 0, n, hd, hn => by
    refine evDone (r' := true) (fun k => ?_) ?_
    · simp only [figureheadref01_Same.l0]; rw [if_neg (by omega)]
    · rw [List.drop_of_length_le (by omega), List.drop_of_length_le (by omega)]; simp
  | d + 1, n, hd, hn => by
    have ha := rd_get (l := a) (n := n) (by omega)
    have hb := rd_get (l := b) (n := n) (by omega)
    have ca := List.drop_eq_getElem_cons (l := a) (i := n) (by omega)
    have cb := List.drop_eq_getElem_cons (l := b) (i := n) (by omega)
    by_cases h9 : rd a (n : Int) = rd b (n : Int)
    · refine Ev.step (f := fun k => figureheadref01_Same.l0 k a b ((n + 1 : Nat) : Int)) (fun k => ?_) ?_
      · simp only [figureheadref01_Same.l0]; rw [if_pos (by omega), if_pos (by omega), if_pos (by omega), if_pos h9, w64 (by omega) (by omega)]; rfl
      · have := Same_loop a b hl he d (n + 1) (by omega) (by omega)
        refine evIs this ?_
        rw [ca, cb, show a[n] = b[n] by rw [← ha, ← hb, h9]]
        simp only [List.cons.injEq, true_and]
    · refine evDone (r' := false) (fun k => ?_) ?_
      · simp only [figureheadref01_Same.l0]; rw [if_pos (by omega), if_pos (by omega), if_pos (by omega), if_neg h9]
      · rw [ca, cb]; symm; rw [decide_eq_false_iff_not]; intro e; injection e with e _
        rw [ha, hb] at h9; exact h9 e
theorem Same_ev {a b : List Int} (hl : a.length ≤ 4611686018427387904) : Ev (fun k => figureheadref01_Same.f k a b) (decide (a = b)) := by
  by_cases he : a.length = b.length
  · have := Same_loop a b hl he a.length 0 (by omega) (by omega)
    simp only [figureheadref01_Same.f, he, if_true]
    simpa using this
  · refine ⟨0, fun k _ => ?_⟩
    simp only [figureheadref01_Same.f]
    rw [if_neg (by omega)]; congr 1; symm; rw [decide_eq_false_iff_not]; rintro rfl; exact he rfl
theorem Same_self {a : List Int} (hl : a.length ≤ 4611686018427387904) : Ev (fun k => figureheadref01_Same.f k a a) true := by
  simpa using Same_ev (a := a) (b := a) hl
theorem Same_true {a b : List Int} (h : a = b) (hl : a.length ≤ 4611686018427387904) : Ev (fun k => figureheadref01_Same.f k a b) true := by subst h; exact Same_self hl

end Go.Proofs.Ytkhmdpplpecgcaa.Px

namespace Go.Proofs.Ytkhmdpplpecgcaa.Px
open Fig Go.RowKit Go.Proofs.YtkhmdpplpecgcaaW.PrintWords Go.Proofs.YtkhmdpplpecgcaaW.PrintLast Go.Proofs.YtkhmdpplpecgcaaW.PrintMore
attribute [local go_sem] max2_int min2_int max_two min_two max_three min_three max_four min_four   -- for this text's walks alone

/-! plain facts: figureheadref01_Good -/
theorem Good_loop (l : List Int) (hl : l.length ≤ 4611686018427387904) (h0 : ∀ x ∈ l, 0 ≤ x) : ∀ (d n : Nat), l.length - n = d → n ≤ l.length → Ev (fun k => figureheadref01_Good.l0 k l (n : Int)) (goodL (l.drop n))
  | 0, n, hd, hn => by
    refine evDone (r' := true) (fun k => ?_) ?_
    · simp only [figureheadref01_Good.l0]; rw [if_neg (by omega)]
    · rw [List.drop_of_length_le (by omega)]; rfl
  | d + 1, n, hd, hn => by
    have hlt : n < l.length := by omega
    have hb := rd_get hlt
    have hc := List.drop_eq_getElem_cons hlt
    have hp := h0 _ (List.getElem_mem hlt)
    by_cases h9 : rd l (n : Int) > 999999999
    · refine evDone (r' := false) (fun k => ?_) ?_
      · simp only [figureheadref01_Good.l0]; rw [if_pos (by omega), if_pos (by omega), if_pos h9]
      · rw [hc]; symm; rw [Bool.eq_false_iff]; intro e; have := (goodL_cons.1 e).1; omega
    · refine Ev.step (f := fun k => figureheadref01_Good.l0 k l ((n + 1 : Nat) : Int)) (fun k => ?_) ?_
      · simp only [figureheadref01_Good.l0]; rw [if_pos (by omega), if_pos (by omega), if_neg h9, w64 (by omega) (by omega)]; rfl
      · have := Good_loop l hl h0 d (n + 1) (by omega) (by omega)
        rw [hc]
        have e : goodL (l[n] :: l.drop (n + 1)) = goodL (l.drop (n + 1)) := by
          rw [Bool.eq_iff_iff, goodL_cons]
          exact ⟨fun h => h.2, fun h => ⟨⟨hp, by omega⟩, h⟩⟩
        rw [e]; exact this
theorem Good_ev {l : List Int} (hl : l.length ≤ 4611686018427387904) (h0 : ∀ x ∈ l, 0 ≤ x) : Ev (fun k => figureheadref01_Good.f k l) (goodL l) := by
  have := Good_loop l hl h0 l.length 0 (by omega) (by omega)
  simpa [figureheadref01_Good.f] using this

end Go.Proofs.Ytkhmdpplpecgcaa.Px

namespace Go.Proofs.Ytkhmdpplpecgcaa.Px
open Fig Go.RowKit Go.Proofs.YtkhmdpplpecgcaaW.PrintWords Go.Proofs.YtkhmdpplpecgcaaW.PrintLast Go.Proofs.YtkhmdpplpecgcaaW.PrintMore
attribute [local go_sem] max2_int min2_int max_two min_two max_three min_three max_four min_four   -- for this text's walks alone

/-! plain facts: figureheadlaw01_good -/
theorem good01_loop (ls : List (List Int)) (hl : ls.length ≤ 1000) (hb : ∀ l ∈ ls, l.length ≤ 4611686018427387904) (h0 : ∀ l ∈ ls, ∀ x ∈ l, 0 ≤ x) : ∀ (d n : Nat), ls.length - n = d → n ≤ ls.length → Ev (fun k => figureheadlaw01_good.l0 k ls (n : Int)) ((ls.drop n).all fun l => decide (l.length ≤ 60) && goodL l)
  | 0, n, hd, hn => by
    refine evDone (r' := true) (fun k => ?_) (by rw [List.drop_of_length_le (by omega)]; rfl)
    simp only [figureheadlaw01_good.l0]; rw [if_neg (by omega)]
  | d + 1, n, hd, hn => by
    have hlt : n < ls.length := by omega
    have hm := List.getElem_mem hlt
    have hrd : rd_L1 ls (n : Int) = ls[n] := by
      unfold rd_L1; rw [Int.toNat_natCast, List.getD_eq_getElem?_getD, List.getElem?_eq_getElem hlt]; rfl
    rw [List.drop_eq_getElem_cons hlt, List.all_cons]
    have hbm := hb _ hm
    by_cases h60 : ls[n].length ≤ 60
    · refine evIs (Ev.step (f := fun k => (figureheadref01_Good.f k ls[n]).bind fun t => if t = true then figureheadlaw01_good.l0 k ls ((n + 1 : Nat) : Int) else some false) (fun k => ?_) (Ev.bind (a := goodL ls[n]) (r := goodL ls[n] && ((ls.drop (n + 1)).all fun l => decide (l.length ≤ 60) && goodL l)) (Good_ev hbm (h0 _ hm)) ?_)) ?_
      · simp only [figureheadlaw01_good.l0]; rw [if_pos (by omega), if_pos (by omega), hrd, if_neg (by omega), succ64 _ (by omega)]
      · cases hg : goodL ls[n]
        · simpa using Ev.now false
        · simpa using good01_loop ls hl hb h0 d (n + 1) (by omega) (by omega)
      · simp [h60]
    · refine evDone (r' := false) (fun k => ?_) (by simp [h60])
      simp only [figureheadlaw01_good.l0]; rw [if_pos (by omega), if_pos (by omega), hrd, if_pos (by omega)]
theorem good01_ev {ls : List (List Int)} (hl : ls.length ≤ 1000) (hb : ∀ l ∈ ls, l.length ≤ 4611686018427387904) (h0 : ∀ l ∈ ls, ∀ x ∈ l, 0 ≤ x) : Ev (fun k => figureheadlaw01_good.f k ls) (ls.all fun l => decide (l.length ≤ 60) && goodL l) := by
  have := good01_loop ls hl hb h0 ls.length 0 (by omega) (by omega)
  simpa [figureheadlaw01_good.f] using this

end Go.Proofs.Ytkhmdpplpecgcaa.Px

namespace Go.Proofs.Ytkhmdpplpecgcaa.Px
open Fig Go.RowKit Go.Proofs.YtkhmdpplpecgcaaW.PrintWords Go.Proofs.YtkhmdpplpecgcaaW.PrintLast Go.Proofs.YtkhmdpplpecgcaaW.PrintMore
attribute [local go_sem] max2_int min2_int max_two min_two max_three min_three max_four min_four   -- for this text's walks alone

/-! plain facts: figureheadlaw01_answers -/
theorem answers01_eq : figureheadlaw01_answers.f = some true := by decide +kernel
theorem answers01_ev : Ev (fun _ => figureheadlaw01_answers.f) true := evSome fun _ => answers01_eq

end Go.Proofs.Ytkhmdpplpecgcaa.Px

namespace Go.Proofs.Ytkhmdpplpecgcaa.Px
open Fig Go.RowKit Go.Proofs.YtkhmdpplpecgcaaW.PrintWords Go.Proofs.YtkhmdpplpecgcaaW.PrintLast Go.Proofs.YtkhmdpplpecgcaaW.PrintMore
attribute [local go_sem] max2_int min2_int max_two min_two max_three min_three max_four min_four   -- for this text's walks alone

/-! plain facts: figureheadlaw01_NatOwn -/
theorem own_take (x t : List Int) : (x ++ t).take ((x.length : Int) : Int).toNat = x := by rw [Int.toNat_natCast]; simp
theorem own_rd (x t : List Int) (j : Nat) (h : j < t.length) : rd (x ++ t) ((x.length + j : Nat) : Int) = t[j] := by
  rw [rd_get (by rw [List.length_append]; omega), List.getElem_append_right (by omega)]
  congr 1; omega
theorem own_rd0 (x t : List Int) (a : Int) : rd (x ++ (a :: t)) (x.length : Int) = a := own_rd x (a :: t) 0 (by simp)
theorem own_le (x t : List Int) : ((x.length : Int) ≤ ((x ++ t).length : Int)) = True := by rw [List.length_append]; simp; omega
theorem own_lt (x t : List Int) (a : Int) : ((x.length : Int) < ((x ++ (a :: t)).length : Int)) = True := by rw [List.length_append, List.length_cons]; simp; omega
theorem own_nn (x : List Int) : ((0 : Int) ≤ (x.length : Int)) = True := by simp
theorem NatOwn_l1 (x0 x1 : List Int) (h0 : x0.length ≤ 60) (h1 : x1.length ≤ 60) : ∀ (d i : Nat) (x8 : List Int), x8.length - i = d → i ≤ x8.length → x8.length ≤ 1000000 → Ev (fun k => figureheadlaw01_NatOwn.l1 k x0 x1 (x0 ++ [7, 7]) (x1 ++ [8, 8]) x8 (i : Int)) true
  | 0, i, x8, hd, hi, hl => by
    refine Ev.step (fun k => by simp only [figureheadlaw01_NatOwn.l1]; rw [if_neg (by omega)]) ?_
    refine Ev.bind answers01_ev ?_
    have r2 : rd (x1 ++ [8, 8]) ((x1.length + 1 : Nat) : Int) = 8 := own_rd x1 [8, 8] 1 (by simp)
    have c4 : (0 : Int) ≤ ((x1.length + 1 : Nat) : Int) := by omega
    have c5 : ((x1.length + 1 : Nat) : Int) < ((x1 ++ [8, 8]).length : Int) := by rw [List.length_append, show ([8, 8] : List Int).length = 2 from rfl]; omega
    simp only [if_true, own_nn, own_le, own_take]
    refine Ev.bind (Same_self (by omega)) ?_
    simp only [if_true]
    refine Ev.bind (Same_self (by omega)) ?_
    simp only [if_true, own_lt, own_rd0, succ64 x1.length (by omega), c4, c5, r2]
    exact evSome fun _ => rfl
  | d + 1, i, x8, hd, hi, hl => by
    refine Ev.step (f := fun k => figureheadlaw01_NatOwn.l1 k x0 x1 (x0 ++ [7, 7]) (x1 ++ [8, 8]) (x8.set i 5) ((i + 1 : Nat) : Int)) (fun k => ?_) (NatOwn_l1 x0 x1 h0 h1 d (i + 1) (x8.set i 5) (by rw [List.length_set]; omega) (by rw [List.length_set]; omega) (by rw [List.length_set]; omega))
    simp only [figureheadlaw01_NatOwn.l1]
    rw [if_pos (by omega), if_pos (by omega), Int.toNat_natCast, succ64 _ (by omega)]
theorem NatOwn_l0 (x0 x1 x8 : List Int) (h0 : x0.length ≤ 60) (h1 : x1.length ≤ 60) (h8 : x8.length ≤ 1000000) : ∀ (d i : Nat) (x7 : List Int), x7.length - i = d → i ≤ x7.length → x7.length ≤ 1000000 → Ev (fun k => figureheadlaw01_NatOwn.l0 k x0 x1 (x0 ++ [7, 7]) (x1 ++ [8, 8]) x7 x8 (i : Int)) true
  | 0, i, x7, hd, hi, hl => by
    refine Ev.step (fun k => by simp only [figureheadlaw01_NatOwn.l0]; rw [if_neg (by omega)]) ?_
    exact NatOwn_l1 x0 x1 h0 h1 x8.length 0 x8 (by omega) (by omega) h8
  | d + 1, i, x7, hd, hi, hl => by
    refine Ev.step (f := fun k => figureheadlaw01_NatOwn.l0 k x0 x1 (x0 ++ [7, 7]) (x1 ++ [8, 8]) (x7.set i 5) x8 ((i + 1 : Nat) : Int)) (fun k => ?_) (NatOwn_l0 x0 x1 x8 h0 h1 h8 d (i + 1) (x7.set i 5) (by rw [List.length_set]; omega) (by rw [List.length_set]; omega) (by rw [List.length_set]; omega))
    simp only [figureheadlaw01_NatOwn.l0]
    rw [if_pos (by omega), if_pos (by omega), Int.toNat_natCast, succ64 _ (by omega)]
theorem NatOwn_pure (l0 l1 : List Int) (m0 : l0.length * 4 ≤ 140737488351232) (w0 : ∀ x ∈ l0, (Lit.int .u32 x).wf = true) (m1 : l1.length * 4 ≤ 140737488351232) (w1 : ∀ x ∈ l1, (Lit.int .u32 x).wf = true) : ∃ k, figureheadlaw01_NatOwn.f k l0 l1 = some true := by
  have n0 := fun x hx => wf_u32 (w0 x hx)
  have n1 := fun x hx => wf_u32 (w1 x hx)
  refine Ev.rounds (g := fun k => figureheadlaw01_NatOwn.f k l0 l1) ?_
  unfold figureheadlaw01_NatOwn.f
  refine Ev.bind (good01_ev (ls := [l0, l1]) (by simp) (by simp; omega) (by simp; exact ⟨fun x hx => (n0 x hx).1, fun x hx => (n1 x hx).1⟩)) ?_
  cases hg : [l0, l1].all fun l => decide (l.length ≤ 60) && goodL l
  · simp only [Bool.false_eq_true, if_false]
    exact Ev.bind answers01_ev (Ev.now true)
  · obtain ⟨⟨h0, g0⟩, h1, g1⟩ : (l0.length ≤ 60 ∧ goodL l0 = true) ∧ l1.length ≤ 60 ∧ goodL l1 = true := by simpa using hg
    have c1 : ([] : List Int).length + l0.length < 35184372088832 := by simp; omega
    have c2 : l0.length + ([7, 7] : List Int).length < 35184372088832 := by simp; omega
    have c3 : ([] : List Int).length + l1.length < 35184372088832 := by simp; omega
    have c4 : l1.length + ([8, 8] : List Int).length < 35184372088832 := by simp; omega
    have la : (limbs (valL l0 + valL l1)).length ≤ 1000000 := by
      have := limbs_len_digB (valL l0 + valL l1)
      have := digB_add_le (digB_valL_size g0 h0) (digB_valL_size g1 h1); omega
    have lt : (limbs (valL l0)).length ≤ 1000000 := by
      have := limbs_len_digB (valL l0)
      have := digB_valL_size g0 h0; omega
    simp only [if_true, Option.bind_some, c1, List.nil_append, c2, c3, c4, own_nn, own_le, own_take]
    refine Ev.bind (evSome fun _ => addF_eq g0 g1 (by omega) (by omega)) (Ev.bind (evSome fun _ => trimF_eq g0 (by omega)) ?_)
    refine Ev.bind (r := true) (a := if valL l0 < valL l1 then ([], false) else (limbs (valL l0 - valL l1), true)) (evSome fun _ => (subF_eq g0 g1 (by omega) (by omega)).trans (by split <;> rfl)) ?_
    exact NatOwn_l0 l0 l1 _ h0 h1 lt _ 0 _ rfl (by omega) la

end Go.Proofs.Ytkhmdpplpecgcaa.Px
