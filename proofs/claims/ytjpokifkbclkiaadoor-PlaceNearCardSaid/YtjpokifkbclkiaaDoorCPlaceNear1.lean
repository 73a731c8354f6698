/- The functions that the law PlaceNear reaches, told as plain functions, with what is proved of them, and the words they need (part 1). -/
import Derived.Test.YtjpokifkbclkiaaDoorCPlaceNear0
import Derived.Deep.RegionLaw
import Derived.Lib.SliceRun
import Derived.Lib.OthersKept
import Derived.Laws.RangeAny
import Derived.Laws.RangeString
import Derived.Shelf.Strings.BuilderK
import Derived.Shelf.Strings.Trim
import Derived.Test.YtjpokifkbclkiaaDoorProg
set_option linter.unusedVariables false
set_option linter.unusedSimpArgs false
section
namespace Go.Proofs.YtjpokifkbclkiaaDoor.Px
open Fig Go.RowKit Go.Proofs.YtjpokifkbclkiaaDoorW.PrintWords Go.Proofs.YtjpokifkbclkiaaDoorW.PrintLast Go.Proofs.YtjpokifkbclkiaaDoorW.PrintMore
attribute [local go_sem] max2_int min2_int max_two min_two max_three min_three max_four min_four   -- for this text's walks alone
attribute [local go_sem] fieldA23_0 fieldA23_1 fieldA23_2
mutual
def mul_row.l0 : Nat → List Int → List Int → Int → Int → Int → List Int → Int → Int → Option (List Int)
  | 0, _, _, _, _, _, _, _, _ => none
  | k + 1, x0, x1, x2, x3, x8, x14, x15, x16 => if x16 < x15 then (if 0 ≤ x16 then (if x16 < (x14.length : Int) then (if 0 ≤ (wrap64 (x3 + x16)) then (if (wrap64 (x3 + x16)) < (x0.length : Int) then (mul_row.l0 k (x0.set ((wrap64 (x3 + x16)) : Int).toNat ((Int.tmod (IntKind.u64.wrap ((IntKind.u64.wrap ((IntKind.u64.wrap (rd x0 (wrap64 (x3 + x16)))) + (IntKind.u64.wrap ((IntKind.u64.wrap (rd x14 x16)) * (IntKind.u64.wrap (x2)))))) + x8)) 1000000000) % 4294967296)) x1 x2 x3 (IntKind.u64.wrap (Int.tdiv (IntKind.u64.wrap ((IntKind.u64.wrap ((IntKind.u64.wrap (rd x0 (wrap64 (x3 + x16)))) + (IntKind.u64.wrap ((IntKind.u64.wrap (rd x14 x16)) * (IntKind.u64.wrap (x2)))))) + x8)) 1000000000)) x14 x15 (wrap64 (x16 + 1))) else (none)) else (none)) else (none)) else (none)) else (mul_row.l1 k x0 x8 (wrap64 (x3 + (x1.length : Int))))
def mul_row.l1 : Nat → List Int → Int → Int → Option (List Int)
  | 0, _, _, _ => none
  | k + 1, x0, x8, x12 => if x8 > 0 then (if 0 ≤ x12 then (if x12 < (x0.length : Int) then (mul_row.l1 k (x0.set (x12 : Int).toNat ((Int.tmod (IntKind.u64.wrap ((IntKind.u64.wrap (rd x0 x12)) + x8)) 1000000000) % 4294967296)) (IntKind.u64.wrap (Int.tdiv (IntKind.u64.wrap ((IntKind.u64.wrap (rd x0 x12)) + x8)) 1000000000)) (wrap64 (x12 + 1))) else (none)) else (none)) else (some x0)
end
def mul_row.f (k : Nat) (l0 : List Int) (l1 : List Int) (a2 : Int) (a3 : Int) : Option (List Int) := mul_row.l0 k l0 l1 a2 a3 0 l1 (l1.length : Int) 0
theorem mul_row.mono_l : ∀ k, (∀ y0 y1 y2 y3 y4 y5 y6 y7, LeO (mul_row.l0 k y0 y1 y2 y3 y4 y5 y6 y7) (mul_row.l0 (k + 1) y0 y1 y2 y3 y4 y5 y6 y7)) ∧ (∀ y0 y1 y2, LeO (mul_row.l1 k y0 y1 y2) (mul_row.l1 (k + 1) y0 y1 y2))
  | 0 => ⟨fun _ _ _ _ _ _ _ _ r h => by simp [mul_row.l0] at h, fun _ _ _ r h => by simp [mul_row.l1] at h⟩
  | k + 1 => by
    obtain ⟨ih0, ih1⟩ := mul_row.mono_l k
    refine ⟨?_, ?_⟩
    · intro y0 y1 y2 y3 y4 y5 y6 y7
      unfold mul_row.l0
      repeat' first
      | (with_reducible exact ih0 _ _ _ _ _ _ _ _)
      | (with_reducible exact ih1 _ _ _)
      | (with_reducible exact LeO.refl _)
      | (with_reducible exact LeO.none _)
      | (with_reducible refine LeO.ite ?_ ?_)
      | (with_reducible refine LeO.bind ?_ (fun _ => ?_))
      | exact ih0 _ _ _ _ _ _ _ _
      | exact ih1 _ _ _
      | exact LeO.none _
      | refine LeO.ite ?_ ?_
      | refine LeO.bind ?_ (fun _ => ?_)
    · intro y0 y1 y2
      unfold mul_row.l1
      repeat' first
      | (with_reducible exact ih0 _ _ _ _ _ _ _ _)
      | (with_reducible exact ih1 _ _ _)
      | (with_reducible exact LeO.refl _)
      | (with_reducible exact LeO.none _)
      | (with_reducible refine LeO.ite ?_ ?_)
      | (with_reducible refine LeO.bind ?_ (fun _ => ?_))
      | exact ih0 _ _ _ _ _ _ _ _
      | exact ih1 _ _ _
      | exact LeO.none _
      | refine LeO.ite ?_ ?_
      | refine LeO.bind ?_ (fun _ => ?_)
theorem mul_row.mono : ∀ a0 a1 a2 a3 k, LeO (mul_row.f k a0 a1 a2 a3) (mul_row.f (k + 1) a0 a1 a2 a3) := by
  intro a0 a1 a2 a3 k
  obtain ⟨ih0, ih1⟩ := mul_row.mono_l k
  unfold mul_row.f
  repeat' first
      | (with_reducible exact ih0 _ _ _ _ _ _ _ _)
      | (with_reducible exact ih1 _ _ _)
      | (with_reducible exact LeO.refl _)
      | (with_reducible exact LeO.none _)
      | (with_reducible refine LeO.ite ?_ ?_)
      | (with_reducible refine LeO.bind ?_ (fun _ => ?_))
      | exact ih0 _ _ _ _ _ _ _ _
      | exact ih1 _ _ _
      | exact LeO.none _
      | refine LeO.ite ?_ ?_
      | refine LeO.bind ?_ (fun _ => ?_)
set_option maxHeartbeats 8000000 in
set_option maxRecDepth 100000 in
theorem mul_row.calls (k : Nat) (P0_ : Nat → Prop) (u9000_ : Value) (l0 : List Int) (A1 : Option Addr) (c1 : Nat) (l1 : List Int) (a2 : Int) (a3 : Int) (r : List Int) (w0 w : World) (hB : Below w0.heap.size w0 w) (ho0 : Kd.R (Kd.int .u32) 50 w w0.heap.size P0_ u9000_ l0) (hr1 : ∀ W_, Kept w W_ (fun k_ => P0_ k_) → Kd.C (Kd.int .u32) W_ A1 l1.length l1) (hc1 : l1.length ≤ c1) (h : mul_row.f k l0 l1 a2 a3 = some r) :
    Calls Tryd.prog 78 #[u9000_, .slice A1 l1.length c1, .int .u32 a2, .int .i64 a3] w fun e w' => e = .returned (.tuple #[]) ∧ Kd.R (Kd.int .u32) 50 w' w0.heap.size (fun k_ => (P0_ k_ ∨ w.heap.size ≤ k_)) u9000_ r ∧ Below w0.heap.size w0 w' ∧ Kept w w' (fun k_ => P0_ k_) := by
  have HO0 := Aside0.mk (show Kd.R (Kd.int .u32) 50 w w0.heap.size (fun k_ => (P0_ k_ ∨ w.heap.size ≤ k_)) u9000_ l0 from Kd.R_mono ho0 (fun k_ hk => (.inl hk)))
  have HR1 := Aside0.mk hr1
  have HC1 := Aside0.mk hc1
  clear hr1 hc1
  have HK := Aside0.mk (Kept.refl w (fun k_ => P0_ k_))
  have HW0 := Aside0.mk hB.size
  have HB := Aside0.mk hB
  clear hB
  have H : (mul_row.l0 k l0 l1 a2 a3 0 l1 (l1.length : Int) 0) = some r := h
  clear h
  have H' := Aside0.mk H
  clear H
  go_enter Tryd.func78, Tryd.ntmps78
  go_wp2
  go_loopg [8, 16] k (fun kq v8 v16 w' => ∃ (x0_1 : List Int) (x8_1 : Int) (x16_1 : Int), v8 = .int .u64 x8_1 ∧ v16 = .int .i64 x16_1 ∧ Aside0 (mul_row.l0 kq x0_1 l1 a2 a3 x8_1 l1 (l1.length : Int) x16_1 = some r) ∧ Aside0 (kq ≤ k) ∧ Aside0 (Kd.R (Kd.int .u32) 50 w' w0.heap.size (fun k_ => (P0_ k_ ∨ w.heap.size ≤ k_)) u9000_ x0_1) ∧ Aside0 (Kept w w' (fun k_ => P0_ k_)) ∧ Aside0 (Below w0.heap.size w0 w'))
  case atStart => exact ⟨(l0), (0), (0), (by first | rfl | (simp; done) | (simp [*]; done) | (simp [*, Fig.bne_nil]; done)), (by first | rfl | (simp; done) | (simp [*]; done) | (simp [*, Fig.bne_nil]; done)), H', ⟨Nat.le_refl _⟩, ⟨by (with_reducible repeat (first | apply Kd.R_alloc | apply Kd.R_drewN | apply Kd.R_drew)); exact HO0.out⟩, ⟨by repeat (first | (with_reducible first | exact HK.out | apply Kept.alloc | apply Kept.drewN | apply Kept.drew) | exact HK.out)⟩, ⟨by repeat (first | (with_reducible first | exact HB.out | apply below_alloc | apply pw_below_drewN | apply below_drew1) | exact HB.out)⟩⟩
  case round =>
    clear H'
    try clear c1
    try clear p2
    obtain ⟨x0_1, x8_1, x16_1, rfl, rfl, HA, HK1, HO_0, HK, HB⟩ := hrel
    cases gk with
    | zero => exact absurd HA.out (by simp [mul_row.l0])
    | succ k1 =>
      have H := HA.out
      clear HA
      simp only [mul_row.l0] at H
      by_cases c5 : x16_1 < (l1.length : Int)
      · rw [if_pos c5] at H
        have c5b0 : decide (x16_1 < (l1.length : Int)) = true := decide_eq_true c5
        clear c5
        by_cases c6 : 0 ≤ x16_1
        · rw [if_pos c6] at H
          have c6b0 : decide (0 ≤ x16_1) = true := decide_eq_true c6
          clear c6
          by_cases c7 : x16_1 < (l1.length : Int)
          · rw [if_pos c7] at H
            have c7b0 : decide (x16_1 < (l1.length : Int)) = true := decide_eq_true c7
            clear c7
            obtain ⟨ji8, hji8⟩ : ∃ j_ : Int, (wrap64 (a3 + x16_1)) = j_ := ⟨_, rfl⟩
            replace H : (if 0 ≤ (ji8) then (if (ji8) < (x0_1.length : Int) then (mul_row.l0 k1 (x0_1.set ((ji8) : Int).toNat ((Int.tmod (IntKind.u64.wrap ((IntKind.u64.wrap ((IntKind.u64.wrap (rd x0_1 (ji8))) + (IntKind.u64.wrap ((IntKind.u64.wrap (rd l1 x16_1)) * (IntKind.u64.wrap (a2)))))) + x8_1)) 1000000000) % 4294967296)) l1 a2 a3 (IntKind.u64.wrap (Int.tdiv (IntKind.u64.wrap ((IntKind.u64.wrap ((IntKind.u64.wrap (rd x0_1 (ji8))) + (IntKind.u64.wrap ((IntKind.u64.wrap (rd l1 x16_1)) * (IntKind.u64.wrap (a2)))))) + x8_1)) 1000000000)) l1 (l1.length : Int) (wrap64 (x16_1 + 1))) else (none)) else (none)) = some r := by first | (rw [hji8] at H; exact H) | (simp only [hji8] at H ⊢; exact H)
            have hji8w : (IntKind.i64.wrap (a3 + x16_1)) = ji8 := (i64_w _).trans hji8
            by_cases c9 : 0 ≤ (ji8)
            · rw [if_pos c9] at H
              have c9b0 : decide (0 ≤ (ji8)) = true := decide_eq_true c9
              clear c9
              by_cases c10 : (ji8) < (x0_1.length : Int)
              · rw [if_pos c10] at H
                have c10b0 : decide ((ji8) < (x0_1.length : Int)) = true := decide_eq_true c10
                clear c10
                obtain ⟨y116, hy116⟩ : ∃ y_ : List Int, y_ = (x0_1.set ((ji8) : Int).toNat ((Int.tmod (IntKind.u64.wrap ((IntKind.u64.wrap ((IntKind.u64.wrap (rd x0_1 (ji8))) + (IntKind.u64.wrap ((IntKind.u64.wrap (rd l1 x16_1)) * (IntKind.u64.wrap (a2)))))) + x8_1)) 1000000000) % 4294967296)) := ⟨_, rfl⟩
                replace H : (mul_row.l0 k1 y116 l1 a2 a3 (IntKind.u64.wrap (Int.tdiv (IntKind.u64.wrap ((IntKind.u64.wrap ((IntKind.u64.wrap (rd x0_1 (ji8))) + (IntKind.u64.wrap ((IntKind.u64.wrap (rd l1 x16_1)) * (IntKind.u64.wrap (a2)))))) + x8_1)) 1000000000)) l1 (l1.length : Int) (wrap64 (x16_1 + 1))) = some r := by first | (rw [hy116]; with_reducible exact H) | (have H2_ := (Option.bind_some _ _).symm.trans H; rw [hy116]; with_reducible exact H2_) | (have H2_ := (Option.bind_some _ _).symm.trans H; with_reducible exact H2_) | with_reducible exact H | (rw [hy116]; exact H) | exact H
                have Ny116 := Aside0.mk hy116
                clear hy116
                have H' := Aside0.mk H
                clear H
                have p114 : 0 ≤ (x16_1 : Int) := of_decide_eq_true (by first | (with_reducible assumption) | assumption)
                have q114 : x16_1 < (l1.length : Int) := of_decide_eq_true (by first | (with_reducible assumption) | assumption)
                obtain ⟨ad114, e114, hx114_0⟩ := Kd.at_int (Kd.C_kept_now HR1.out HK.out) x16_1 p114 q114
                cases e114
                replace p114 := eq_true p114
                replace q114 := eq_true q114
                obtain ⟨Ao12, co12, eo12⟩ := Kd.R_slice HO_0.out
                subst eo12
                have p115 : 0 ≤ ((ji8) : Int) := of_decide_eq_true (by first | (with_reducible assumption) | assumption)
                have q115 : (ji8) < (x0_1.length : Int) := of_decide_eq_true (by first | (with_reducible assumption) | assumption)
                obtain ⟨ad115, e115, hx115_0⟩ := Kd.at_int (Kd.R_reads' HO_0.out).2.2 (ji8) p115 q115
                cases e115
                replace p115 := eq_true p115
                replace q115 := eq_true q115
                have p11 : 0 ≤ ((ji8) : Int) := of_decide_eq_true (by first | (with_reducible assumption) | assumption)
                have q11 : ((ji8) : Int) < ((x0_1.length : Int) : Int) := of_decide_eq_true (by first | (with_reducible assumption) | assumption)
                obtain ⟨go11, co11, eo11, gb11, gl11, cl11, HG11⟩ := Kd.R_form HO_0.out (by omega)
                (first | cases eo11 | (injection eo11 with ea_ en_ ec_; (first | subst ea_ | (injection ea_ with ea_; subst ea_)); subst ec_; clear en_))
                have GB11 := Aside0.mk gb11
                have GG11 := Aside0.mk HG11
                clear gb11 gl11 HG11
                have HMgo11 := Aside0.mk (show (P0_ go11 ∨ w.heap.size ≤ go11) from (HO_0.out.1 _ rfl))
                (first | simp only [add_plain] at hx115_0 | skip)
                obtain ⟨hx11_0, hf11_0⟩ := Kd.R_celln 0 HO_0.out ((ji8) : Int) p11 q11
                replace p11 := eq_true p11
                replace q11 := eq_true q11
                have HP13 := Kd.R_putg HO_0.out ((ji8) : Int) ((Int.tmod (IntKind.u64.wrap ((IntKind.u64.wrap ((IntKind.u64.wrap (rd x0_1 (ji8))) + (IntKind.u64.wrap ((IntKind.u64.wrap (rd l1 x16_1)) * (IntKind.u64.wrap (a2)))))) + x8_1)) 1000000000) % 4294967296)
                go_wp2_with (first | ((with_reducible refine gate_store (t := 50) (p := 43) rfl ?_); refine store_event (t := 50) (p := 43) (v := ?vo_w14) (w1 := (wr.setCell ⟨go11, ((ji8) : Int).toNat, none⟩ (.int .u32 ((Int.tmod (IntKind.u64.wrap ((IntKind.u64.wrap ((IntKind.u64.wrap (rd x0_1 (ji8))) + (IntKind.u64.wrap ((IntKind.u64.wrap (rd l1 x16_1)) * (IntKind.u64.wrap (a2)))))) + x8_1)) 1000000000) % 4294967296)))) ?hg ?ho ?hn ?hr ?_; (case ho => rfl); (case hg => rfl); (case hn => rfl); (case hr => first | (go_simp; done) | (go_simp; rfl)); intro w14 hw; have hg : wr.grownBy w14 (some go11) := (by rw [hw]; exact HP13.2); have hp_ : Kd.R (Kd.int .u32) 50 w14 w0.heap.size (fun k_ => (P0_ k_ ∨ w.heap.size ≤ k_)) (.slice (some ⟨go11, 0, none⟩) x0_1.length co12) y116 := (by rw [hw, Ny116.out]; exact HP13.1); clear HP13; have n0_ := Aside0.mk (hp_); have n1_ := Aside0.mk ((by rw [hw]; exact below_set (HB.out) GB11.out : Below w0.heap.size w0 w14)); have n2_ := Aside0.mk (Kept.of_grown (S := (fun k_ => P0_ k_)) hg (by repeat (first | (with_reducible first | exact HK.out | apply Kept.alloc | apply Kept.drewN | apply Kept.drew) | exact HK.out)) (fun k_ e_ => (HO_0.out.1 k_ e_))); clear HO_0; clear HB; clear HK; have HO_0 := n0_; have HB := n1_; have HK := n2_; clear n0_ n1_ n2_; clear hg hw hp_))
                go_roundg k1
                case measure => have := HK1.out; omega
                case rel => exact ⟨(y116), (IntKind.u64.wrap (Int.tdiv (IntKind.u64.wrap ((IntKind.u64.wrap ((IntKind.u64.wrap (rd x0_1 (ji8))) + (IntKind.u64.wrap ((IntKind.u64.wrap (rd l1 x16_1)) * (IntKind.u64.wrap (a2)))))) + x8_1)) 1000000000)), (wrap64 (x16_1 + 1)), (by first | rfl | (simp; done) | (simp only [← hji8] <;> (first | rfl | simp)) | (simp [*]; done) | (simp [*, Fig.bne_nil]; done)), (by first | rfl | (simp; done) | (simp [*]; done) | (simp [*, Fig.bne_nil]; done)), H', ⟨by have := HK1.out; omega⟩, ⟨by (with_reducible repeat (first | apply Kd.R_alloc | apply Kd.R_drewN | apply Kd.R_drew)); exact HO_0.out⟩, ⟨by repeat (first | (with_reducible first | exact HK.out | apply Kept.alloc | apply Kept.drewN | apply Kept.drew) | exact HK.out)⟩, ⟨by repeat (first | (with_reducible first | exact HB.out | apply below_alloc | apply pw_below_drewN | apply below_drew1) | exact HB.out)⟩⟩
              · rw [if_neg c10] at H
                exact absurd H (by simp)
            · rw [if_neg c9] at H
              exact absurd H (by simp)
          · rw [if_neg c7] at H
            exact absurd H (by simp)
        · rw [if_neg c6] at H
          exact absurd H (by simp)
      · rw [if_neg c5] at H
        have c5b0 : decide (x16_1 < (l1.length : Int)) = false := decide_eq_false c5
        clear c5
        have H' := Aside0.mk H
        clear H
        go_wp2
        go_loopg [8, 12] k1 (fun kq v8 v12 w' => ∃ (x0_2 : List Int) (x8_2 : Int) (x12_2 : Int), v8 = .int .u64 x8_2 ∧ v12 = .int .i64 x12_2 ∧ Aside0 (mul_row.l1 kq x0_2 x8_2 x12_2 = some r) ∧ Aside0 (kq ≤ k1) ∧ Aside0 (Kd.R (Kd.int .u32) 50 w' w0.heap.size (fun k_ => (P0_ k_ ∨ w.heap.size ≤ k_)) u9000_ x0_2) ∧ Aside0 (Kept w w' (fun k_ => P0_ k_)) ∧ Aside0 (Below w0.heap.size w0 w'))
        case atStart => exact ⟨(x0_1), (x8_1), (wrap64 (a3 + (l1.length : Int))), (by first | rfl | (simp; done) | (simp [*]; done) | (simp [*, Fig.bne_nil]; done)), (by first | rfl | (simp; done) | (simp [*]; done) | (simp [*, Fig.bne_nil]; done)), H', ⟨Nat.le_refl _⟩, ⟨by (with_reducible repeat (first | apply Kd.R_alloc | apply Kd.R_drewN | apply Kd.R_drew)); exact HO_0.out⟩, ⟨by repeat (first | (with_reducible first | exact HK.out | apply Kept.alloc | apply Kept.drewN | apply Kept.drew) | exact HK.out)⟩, ⟨by repeat (first | (with_reducible first | exact HB.out | apply below_alloc | apply pw_below_drewN | apply below_drew1) | exact HB.out)⟩⟩
        case round =>
          clear H'
          try clear c1
          try clear p1
          try clear q1
          try clear hx1
          try clear p2
          try clear c5
          try clear c5b0
          try clear c6
          try clear c6b0
          try clear p6
          try clear c7
          try clear c7b0
          try clear c9
          try clear c9b0
          try clear c10
          try clear c10b0
          try clear p11
          try clear q11
          try clear hx11
          try clear hf11
          try clear hx114_0
          try clear hx115_0
          try clear hx11_0
          try clear p11
          try clear p114
          try clear p115
          try clear p2
          try clear q11
          try clear q114
          try clear q115
          obtain ⟨x0_2, x8_2, x12_2, rfl, rfl, HA, HK2, HO_0, HK, HB⟩ := hrel
          cases gk with
          | zero => exact absurd HA.out (by simp [mul_row.l1])
          | succ k2 =>
            have H := HA.out
            clear HA
            simp only [mul_row.l1] at H
            by_cases c15 : x8_2 > 0
            · rw [if_pos c15] at H
              have c15b0 : decide (0 < x8_2) = true := decide_eq_true c15
              clear c15
              by_cases c16 : 0 ≤ x12_2
              · rw [if_pos c16] at H
                have c16b0 : decide (0 ≤ x12_2) = true := decide_eq_true c16
                clear c16
                by_cases c17 : x12_2 < (x0_2.length : Int)
                · rw [if_pos c17] at H
                  have c17b0 : decide (x12_2 < (x0_2.length : Int)) = true := decide_eq_true c17
                  clear c17
                  obtain ⟨y118, hy118⟩ : ∃ y_ : List Int, y_ = (x0_2.set (x12_2 : Int).toNat ((Int.tmod (IntKind.u64.wrap ((IntKind.u64.wrap (rd x0_2 x12_2)) + x8_2)) 1000000000) % 4294967296)) := ⟨_, rfl⟩
                  replace H : (mul_row.l1 k2 y118 (IntKind.u64.wrap (Int.tdiv (IntKind.u64.wrap ((IntKind.u64.wrap (rd x0_2 x12_2)) + x8_2)) 1000000000)) (wrap64 (x12_2 + 1))) = some r := by first | (rw [hy118]; with_reducible exact H) | (have H2_ := (Option.bind_some _ _).symm.trans H; rw [hy118]; with_reducible exact H2_) | (have H2_ := (Option.bind_some _ _).symm.trans H; with_reducible exact H2_) | with_reducible exact H | (rw [hy118]; exact H) | exact H
                  have Ny118 := Aside0.mk hy118
                  clear hy118
                  have H' := Aside0.mk H
                  clear H
                  obtain ⟨Ao19, co19, eo19⟩ := Kd.R_slice HO_0.out
                  subst eo19
                  have p117 : 0 ≤ (x12_2 : Int) := of_decide_eq_true (by first | (with_reducible assumption) | assumption)
                  have q117 : x12_2 < (x0_2.length : Int) := of_decide_eq_true (by first | (with_reducible assumption) | assumption)
                  obtain ⟨ad117, e117, hx117_0⟩ := Kd.at_int (Kd.R_reads' HO_0.out).2.2 x12_2 p117 q117
                  cases e117
                  replace p117 := eq_true p117
                  replace q117 := eq_true q117
                  have p18 : 0 ≤ (x12_2 : Int) := of_decide_eq_true (by first | (with_reducible assumption) | assumption)
                  have q18 : (x12_2 : Int) < ((x0_2.length : Int) : Int) := of_decide_eq_true (by first | (with_reducible assumption) | assumption)
                  obtain ⟨go18, co18, eo18, gb18, gl18, cl18, HG18⟩ := Kd.R_form HO_0.out (by omega)
                  (first | cases eo18 | (injection eo18 with ea_ en_ ec_; (first | subst ea_ | (injection ea_ with ea_; subst ea_)); subst ec_; clear en_))
                  have GB18 := Aside0.mk gb18
                  have GG18 := Aside0.mk HG18
                  clear gb18 gl18 HG18
                  have HMgo18 := Aside0.mk (show (P0_ go18 ∨ w.heap.size ≤ go18) from (HO_0.out.1 _ rfl))
                  (first | simp only [add_plain] at hx117_0 | skip)
                  obtain ⟨hx18_0, hf18_0⟩ := Kd.R_celln 0 HO_0.out (x12_2 : Int) p18 q18
                  replace p18 := eq_true p18
                  replace q18 := eq_true q18
                  have HP20 := Kd.R_putg HO_0.out (x12_2 : Int) ((Int.tmod (IntKind.u64.wrap ((IntKind.u64.wrap (rd x0_2 x12_2)) + x8_2)) 1000000000) % 4294967296)
                  go_wp2_with (first | ((with_reducible refine gate_store (t := 50) (p := 67) rfl ?_); refine store_event (t := 50) (p := 67) (v := ?vo_w21) (w1 := (wr.setCell ⟨go18, (x12_2 : Int).toNat, none⟩ (.int .u32 ((Int.tmod (IntKind.u64.wrap ((IntKind.u64.wrap (rd x0_2 x12_2)) + x8_2)) 1000000000) % 4294967296)))) ?hg ?ho ?hn ?hr ?_; (case ho => rfl); (case hg => rfl); (case hn => rfl); (case hr => first | (go_simp; done) | (go_simp; rfl)); intro w21 hw; have hg : wr.grownBy w21 (some go18) := (by rw [hw]; exact HP20.2); have hp_ : Kd.R (Kd.int .u32) 50 w21 w0.heap.size (fun k_ => (P0_ k_ ∨ w.heap.size ≤ k_)) (.slice (some ⟨go18, 0, none⟩) x0_2.length co19) y118 := (by rw [hw, Ny118.out]; exact HP20.1); clear HP20; have n0_ := Aside0.mk (hp_); have n1_ := Aside0.mk ((by rw [hw]; exact below_set (HB.out) GB18.out : Below w0.heap.size w0 w21)); have n2_ := Aside0.mk (Kept.of_grown (S := (fun k_ => P0_ k_)) hg (by repeat (first | (with_reducible first | exact HK.out | apply Kept.alloc | apply Kept.drewN | apply Kept.drew) | exact HK.out)) (fun k_ e_ => (HO_0.out.1 k_ e_))); clear HO_0; clear HB; clear HK; have HO_0 := n0_; have HB := n1_; have HK := n2_; clear n0_ n1_ n2_; clear hg hw hp_))
                  go_roundg k2
                  case measure => have := HK1.out; have := HK2.out; omega
                  case rel => exact ⟨(y118), (IntKind.u64.wrap (Int.tdiv (IntKind.u64.wrap ((IntKind.u64.wrap (rd x0_2 x12_2)) + x8_2)) 1000000000)), (wrap64 (x12_2 + 1)), (by first | rfl | (simp; done) | (simp [*]; done) | (simp [*, Fig.bne_nil]; done)), (by first | rfl | (simp; done) | (simp [*]; done) | (simp [*, Fig.bne_nil]; done)), H', ⟨by have := HK1.out; have := HK2.out; omega⟩, ⟨by (with_reducible repeat (first | apply Kd.R_alloc | apply Kd.R_drewN | apply Kd.R_drew)); exact HO_0.out⟩, ⟨by repeat (first | (with_reducible first | exact HK.out | apply Kept.alloc | apply Kept.drewN | apply Kept.drew) | exact HK.out)⟩, ⟨by repeat (first | (with_reducible first | exact HB.out | apply below_alloc | apply pw_below_drewN | apply below_drew1) | exact HB.out)⟩⟩
                · rw [if_neg c17] at H
                  exact absurd H (by simp)
              · rw [if_neg c16] at H
                exact absurd H (by simp)
            · rw [if_neg c15] at H
              have c15b0 : decide (0 < x8_2) = false := decide_eq_false c15
              clear c15
              obtain rfl := Option.some.inj H
              go_wp2
              first | go_end0 | ((try simp only [Exit.inBlock, Exit.then]); refine bodyPost_ret (results_none rfl _ _ _) rfl ?_)
              exact ⟨by first | rfl | (simp [errW_none, errW_some] <;> rfl) | (simp [*, errW_none, errW_some] <;> rfl), by (with_reducible repeat (first | apply Kd.R_alloc | apply Kd.R_drewN | apply Kd.R_drew)); exact HO_0.out, by repeat (first | (with_reducible first | exact HB.out | apply below_alloc | apply pw_below_drewN | apply below_drew1) | exact HB.out), by repeat (first | (with_reducible first | exact HK.out | apply Kept.alloc | apply Kept.drewN | apply Kept.drew) | exact HK.out)⟩
end Go.Proofs.YtjpokifkbclkiaaDoor.Px
end
section
namespace Go.Proofs.YtjpokifkbclkiaaDoor.Px
open Fig Go.RowKit Go.Proofs.YtjpokifkbclkiaaDoorW.PrintWords Go.Proofs.YtjpokifkbclkiaaDoorW.PrintLast Go.Proofs.YtjpokifkbclkiaaDoorW.PrintMore
attribute [local go_sem] max2_int min2_int max_two min_two max_three min_three max_four min_four   -- for this text's walks alone
attribute [local go_sem] fieldA23_0 fieldA23_1 fieldA23_2
def mul_Small.f (k : Nat) (l0 : List Int) (a1 : Int) (a2 : Int) : Option (List Int) := if 0 ≤ (wrap64 ((l0.length : Int) + 2)) then (if (wrap64 ((l0.length : Int) + 2) : Int).toNat ≤ 70368744177664 then ((some (List.replicate (wrap64 ((l0.length : Int) + 2) : Int).toNat 0 : List Int)).bind fun y119 => (if 0 < (y119.length : Int) then ((mul_row.f k (y119.set (0 : Int).toNat a2) l0 a1 0).bind fun t123 => ((nat_Trim.f t123).bind fun t124 => (some t124))) else (none))) else (none)) else (none)
theorem mul_Small.mono : ∀ a0 a1 a2 k, LeO (mul_Small.f k a0 a1 a2) (mul_Small.f (k + 1) a0 a1 a2) := by
  intro a0 a1 a2 k
  unfold mul_Small.f
  repeat' first
      | (with_reducible exact mul_row.mono _ _ _ _ _)
      | (with_reducible exact LeO.refl _)
      | (with_reducible exact LeO.none _)
      | (with_reducible refine LeO.ite ?_ ?_)
      | (with_reducible refine LeO.bind ?_ (fun _ => ?_))
      | exact mul_row.mono _ _ _ _ _
      | exact LeO.none _
      | refine LeO.ite ?_ ?_
      | refine LeO.bind ?_ (fun _ => ?_)
set_option maxHeartbeats 8000000 in
set_option maxRecDepth 100000 in
theorem mul_Small.calls (k : Nat) (A0 : Option Addr) (c0 : Nat) (l0 : List Int) (a1 : Int) (a2 : Int) (r : List Int) (w : World) (hr0 : Kd.C (Kd.int .u32) w A0 l0.length l0) (hc0 : l0.length ≤ c0) (h : mul_Small.f k l0 a1 a2 = some r) :
    Calls Tryd.prog 59 #[.slice A0 l0.length c0, .int .u32 a1, .int .u32 a2] w fun e w' => ∃ v0_ : Value, e = .returned (v0_) ∧ Kd.R (Kd.int .u32) 50 w' w.heap.size (fun _ => True) v0_ r ∧ Below w.heap.size w w' := by
  have HR0 := Aside0.mk hr0
  have HC0 := Aside0.mk hc0
  clear hr0 hc0
  have HB := Aside0.mk (Below.refl w.heap.size w)
  have H : (if 0 ≤ (wrap64 ((l0.length : Int) + 2)) then (if (wrap64 ((l0.length : Int) + 2) : Int).toNat ≤ 70368744177664 then ((some (List.replicate (wrap64 ((l0.length : Int) + 2) : Int).toNat 0 : List Int)).bind fun y119 => (if 0 < (y119.length : Int) then ((mul_row.f k (y119.set (0 : Int).toNat a2) l0 a1 0).bind fun t123 => ((nat_Trim.f t123).bind fun t124 => (some t124))) else (none))) else (none)) else (none)) = some r := h
  clear h
  obtain ⟨ji4, hji4⟩ : ∃ j_ : Int, (wrap64 ((l0.length : Int) + 2)) = j_ := ⟨_, rfl⟩
  replace H : (if 0 ≤ (ji4) then (if (ji4 : Int).toNat ≤ 70368744177664 then ((some (List.replicate (ji4 : Int).toNat 0 : List Int)).bind fun y119 => (if 0 < (y119.length : Int) then ((mul_row.f k (y119.set (0 : Int).toNat a2) l0 a1 0).bind fun t123 => ((nat_Trim.f t123).bind fun t124 => (some t124))) else (none))) else (none)) else (none)) = some r := by first | (rw [hji4] at H; exact H) | (simp only [hji4] at H ⊢; exact H)
  have hji4w : (IntKind.i64.wrap ((l0.length : Int) + 2)) = ji4 := (i64_w _).trans hji4
  by_cases c5 : 0 ≤ (ji4)
  · rw [if_pos c5] at H
    have c5b0 := eq_true c5
    have c5b1 : decide (0 ≤ (ji4)) = true := decide_eq_true c5
    clear c5
    by_cases c6 : (ji4 : Int).toNat ≤ 70368744177664
    · rw [if_pos c6] at H
      have c6b0 := eq_true c6
      have c6b1 : decide ((ji4 : Int).toNat ≤ 70368744177664) = true := decide_eq_true c6
      clear c6
      obtain ⟨y119, hy119⟩ : ∃ y_ : List Int, y_ = (List.replicate (ji4 : Int).toNat 0) := ⟨_, rfl⟩
      replace H : (if 0 < (y119.length : Int) then ((mul_row.f k (y119.set (0 : Int).toNat a2) l0 a1 0).bind fun t123 => ((nat_Trim.f t123).bind fun t124 => (some t124))) else (none)) = some r := by first | (rw [hy119]; with_reducible exact H) | (have H2_ := (Option.bind_some _ _).symm.trans H; rw [hy119]; with_reducible exact H2_) | (have H2_ := (Option.bind_some _ _).symm.trans H; with_reducible exact H2_) | with_reducible exact H | (rw [hy119]; exact H) | exact H
      have Ny119 := Aside0.mk hy119
      clear hy119
      by_cases c7 : 0 < (y119.length : Int)
      · rw [if_pos c7] at H
        have c7b0 : decide (0 < (y119.length : Int)) = true := decide_eq_true c7
        have c7b1 : decide (0 < y119.length) = true := decide_eq_true (by omega)
        clear c7
        obtain ⟨y122, hy122⟩ : ∃ y_ : List Int, y_ = (y119.set (0 : Int).toNat a2) := ⟨_, rfl⟩
        replace H : ((mul_row.f k y122 l0 a1 0).bind fun t123 => ((nat_Trim.f t123).bind fun t124 => (some t124))) = some r := by first | (rw [hy122]; with_reducible exact H) | (have H2_ := (Option.bind_some _ _).symm.trans H; rw [hy122]; with_reducible exact H2_) | (have H2_ := (Option.bind_some _ _).symm.trans H; with_reducible exact H2_) | with_reducible exact H | (rw [hy122]; exact H) | exact H
        have Ny122 := Aside0.mk hy122
        clear hy122
        replace H := Option.bind_eq_some_iff.mp H
        obtain ⟨t123, A90, H⟩ := H
        replace H : ((nat_Trim.f t123).bind fun t124 => (some t124)) = some r := H
        have A9 := Aside0.mk A90
        clear A90
        replace H := Option.bind_eq_some_iff.mp H
        obtain ⟨t124, A100, H⟩ := H
        replace H : (some t124) = some r := H
        have A10 := Aside0.mk A100
        clear A100
        obtain rfl := Option.some.inj H
        go_enter Tryd.func59, Tryd.ntmps59
        go_wp2_with (first | ((with_reducible refine gate_dst (N := 11) rfl ?_); refine Kd.R_make (Kd.int .u32) _ 50 rfl (N := 11) rfl 44 _ _ rfl ji4 rfl rfl Tryd.underlying44 (.int .u32 0) 4 info50 rfl (by decide) (by omega) 0 (ok := fun _ => True) (okp := fun _ => True) rfl (fun _ hk => hk) trivial (of_decide_eq_true (by first | (with_reducible assumption) | assumption)) (Nat.le_trans (Nat.mul_le_mul_right _ (of_decide_eq_true (by first | (with_reducible assumption) | assumption) : ji4.toNat ≤ 70368744177664)) (by omega)) (Below.refl _ _) (Nat.le_refl _) ?_; intro v120 w11 ho12 hb hg_ hnew_; clear hg_ hnew_; (first | rw [← Ny119.out] at ho12 | (simp only [Int.reduceToNat] at ho12; rw [← Ny119.out] at ho12)); have n0_ := Aside0.mk (Kd.R_lower ho12 (below_size (by repeat (first | (with_reducible first | exact HB.out | apply below_alloc | apply pw_below_drewN | apply below_drew1) | exact HB.out)))); have n1_ := Aside0.mk (below_step (by repeat (first | (with_reducible first | exact HB.out | apply below_alloc | apply pw_below_drewN | apply below_drew1) | exact HB.out)) hb); clear HB; have HO121 := n0_; have HB := n1_; clear n0_ n1_; clear hb ho12; have p8 : 0 ≤ (0 : Int) := (by omega); have q8 : (0 : Int) < ((y119.length : Int) : Int) := of_decide_eq_true (by first | (with_reducible assumption) | assumption); have qi8 : (0 < y119.length) = True := eq_true (by omega); obtain ⟨go8, co8, eo8, gb8, gl8, cl8, HG8⟩ := Kd.R_form HO121.out (by omega); (first | cases eo8 | (injection eo8 with ea_ en_ ec_; (first | subst ea_ | (injection ea_ with ea_; subst ea_)); subst ec_; clear en_)); have GB8 := Aside0.mk gb8; have GG8 := Aside0.mk HG8; clear gb8 gl8 HG8; obtain ⟨hx8_0, hf8_0⟩ := Kd.R_celln 0 HO121.out (0 : Int) p8 q8; (try rw [show ((0 : Int)).toNat = 0 from rfl] at hx8_0); (try simp only [Nat.reduceMul, Nat.zero_mul, Nat.zero_add, Nat.reduceAdd] at hx8_0); (try rw [show ((0 : Int)).toNat = 0 from rfl] at hf8_0); (try simp only [Nat.reduceMul, Nat.zero_mul, Nat.zero_add, Nat.reduceAdd] at hf8_0); replace p8 := eq_true p8; replace q8 := eq_true q8; obtain ⟨hy13_, hz13_⟩ := Kd.R_celln 0 HO121.out (0 : Int) (by omega) (of_decide_eq_true (by first | (with_reducible assumption) | assumption)); (try simp only [Int.reduceToNat, Int.toNat_zero, Int.toNat_ofNat, Nat.reduceMul, Nat.zero_mul, Nat.zero_add] at hy13_ hz13_); (try rw [show ((0 : Int)).toNat = 0 from rfl] at hy13_); (try rw [show ((0 : Int)).toNat = 0 from rfl] at hz13_); have HP13 := Kd.R_putg HO121.out (0 : Int) a2) | ((with_reducible refine gate_store (t := 50) (p := 14) rfl ?_); refine store_event (t := 50) (p := 14) (v := ?vo_w14) (w1 := (w11.setCell ⟨go8, (0 : Int).toNat, none⟩ (.int .u32 a2))) ?hg ?ho ?hn ?hr ?_; (case ho => rfl); (case hg => rfl); (case hn => rfl); (case hr => first | (go_simp; done) | (go_simp; rfl)); intro w14 hw; have hg : w11.grownBy w14 (some go8) := (by rw [hw]; exact HP13.2); have hp_ : Kd.R (Kd.int .u32) 50 w14 w.heap.size (fun _ => True) (.slice (some ⟨go8, 0, none⟩) y119.length co8) y122 := (by rw [hw, Ny122.out]; exact HP13.1); clear HP13; have n0_ := Aside0.mk (hp_); have n1_ := Aside0.mk ((by rw [hw]; exact below_set (HB.out) GB8.out : Below w.heap.size w w14)); clear HO121; clear HB; have HO121 := n0_; have HB := n1_; clear n0_ n1_; clear hg hw hp_) | ((with_reducible refine gate_callee (f := 78) rfl ?_); refine goesL_ (some 18) rfl rfl Tryd.func78 (by kernel_rfl) rfl #[.slice (some ⟨go8, 0, none⟩) y119.length co8, .slice A0 l0.length c0, .int .u32 a1, .int .i64 0] rfl (by (try simp only [List.map_toArray]); (try simp only [List.map_cons]); (try simp only [List.map_nil]); first | done | rfl | (simp only [List.length_drop, List.length_take]; rfl)) ?_; (with_reducible refine (mul_row.calls k (fun k_ => some k_ = (.slice (some ⟨go8, 0, none⟩) y119.length co8 : Value).ownBlock) (.slice (some ⟨go8, 0, none⟩) y119.length co8) y122 _ _ l0 a1 0 t123 w _ ?side1 ?side2 ?side3 ?side4 A9.out).mono ?_); (case side1 => repeat (first | (with_reducible first | exact HB.out | apply below_alloc | apply pw_below_drewN | apply below_drew1) | exact HB.out)); (case side2 => exact Kd.R_tight rfl HO121.out); (case side3 => exact Kd.C_kept_came (Kd.heap_int .u32) HR0.out (by repeat (first | (with_reducible first | exact HB.out | apply below_alloc | apply pw_below_drewN | apply below_drew1) | exact HB.out)) (fun k_ hs_ => (fun e_ => Kd.R_base HO121.out k_ e_.symm) hs_)); (case side4 => exact HC0.out); rintro e w15 ⟨rfl, hy0, hb, hkp⟩; refine ⟨_, rfl, ?_⟩; have n0_ := Aside0.mk (Kd.R_reok rfl hy0 (fun k_ e_ => HO121.out.1 k_ e_)); have n1_ := Aside0.mk (hb); clear HO121; clear HB; have HO121 := n0_; have HB := n1_; clear n0_ n1_; (try clear hb); (try clear hkp); (try clear hy0)) | ((with_reducible refine gate_callee (f := 58) rfl ?_); refine goesL_ (some 20) rfl rfl Tryd.func58 (by kernel_rfl) rfl #[.slice (some ⟨go8, 0, none⟩) t123.length co8] rfl (by (try simp only [List.map_toArray]); (try simp only [List.map_cons]); (try simp only [List.map_nil]); first | done | (rw [show t123.length = y119.length from (Kd.R_reads' HO121.out).1.symm] <;> rfl) | rfl | (simp only [List.length_drop, List.length_take]; rfl)) ?_; (with_reducible refine (nat_Trim.calls _ _ t123 t124 _ ?side1 ?side2 A10.out).mono ?_); (case side1 => repeat (first | exact (Kd.R_reads' HO121.out).2.2 | (with_reducible refine Kd.C_alloc ?_ _) | (with_reducible refine Kd.C_drewN ?_ _) | (with_reducible refine Kd.C_drew ?_))); (case side2 => rw [show t123.length = y119.length from (Kd.R_reads' HO121.out).1.symm]; exact (Kd.R_reads' HO121.out).2.1); rintro e w16 ⟨v125, rfl, ho0, hb⟩; refine ⟨_, rfl, ?_⟩; have n0_ := Aside0.mk (Kd.R_elder' (by (with_reducible repeat (first | apply Kd.R_alloc | apply Kd.R_drewN | apply Kd.R_drew)); exact HO121.out) (Kd.R_base ho0) hb); have n1_ := Aside0.mk (Kd.R_lower (Kd.R_new' ho0 (Kd.R_lt (by (with_reducible repeat (first | apply Kd.R_alloc | apply Kd.R_drewN | apply Kd.R_drew)); exact HO121.out))) (below_size (by repeat (first | (with_reducible first | exact HB.out | apply below_alloc | apply pw_below_drewN | apply below_drew1) | exact HB.out)))); have n2_ := Aside0.mk (below_step (by repeat (first | (with_reducible first | exact HB.out | apply below_alloc | apply pw_below_drewN | apply below_drew1) | exact HB.out)) hb); clear HO121; clear HB; have HO121 := n0_; have HO126 := n1_; have HB := n2_; clear n0_ n1_ n2_; (try clear hb); (try clear hb2); (try clear hk); (try clear hi); (try clear ho0)))
        go_ret
        exact ⟨_, by first | rfl | (simp [errW_none, errW_some] <;> rfl) | (simp only [← hji4]; first | rfl | (simp [errW_none, errW_some] <;> rfl)) | (simp [*, errW_none, errW_some] <;> rfl), by (with_reducible repeat (first | apply Kd.R_alloc | apply Kd.R_drewN | apply Kd.R_drew)); exact Kd.R_mono HO126.out (fun _ hk => trivial), by repeat (first | (with_reducible first | exact HB.out | apply below_alloc | apply pw_below_drewN | apply below_drew1) | exact HB.out)⟩
      · rw [if_neg c7] at H
        exact absurd H (by simp)
    · rw [if_neg c6] at H
      exact absurd H (by simp)
  · rw [if_neg c5] at H
    exact absurd H (by simp)
end Go.Proofs.YtjpokifkbclkiaaDoor.Px
end
section
namespace Go.Proofs.YtjpokifkbclkiaaDoor.Px
open Fig Go.RowKit Go.Proofs.YtjpokifkbclkiaaDoorW.PrintWords Go.Proofs.YtjpokifkbclkiaaDoorW.PrintLast Go.Proofs.YtjpokifkbclkiaaDoorW.PrintMore
attribute [local go_sem] max2_int min2_int max_two min_two max_three min_three max_four min_four   -- for this text's walks alone
attribute [local go_sem] fieldA23_0 fieldA23_1 fieldA23_2
theorem row_step (s v y c : Nat) (hs : s < 1000000000) (hv : v < 1000000000) (hy : y < 1000000000) (hc : c < 1000000000) :
    IntKind.u64.wrap ((IntKind.u64.wrap ((IntKind.u64.wrap (s : Int)) + (IntKind.u64.wrap ((IntKind.u64.wrap (v : Int)) * (IntKind.u64.wrap (y : Int)))))) + (c : Int)) = ((s + v * y + c : Nat) : Int) := by
  have h1 : v * y ≤ 999999999 * 999999999 := Nat.mul_le_mul (by omega) (by omega)
  rw [u64w (x := (s : Int)) (by omega) (by omega), u64w (x := (v : Int)) (by omega) (by omega), u64w (x := (y : Int)) (by omega) (by omega)]
  have e2 : (v : Int) * (y : Int) = ((v * y : Nat) : Int) := by simp
  rw [e2]
  generalize v * y = t at *
  rw [u64w (x := (t : Int)) (by omega) (by omega), u64w (x := (s : Int) + (t : Int)) (by omega) (by omega), u64w (by omega) (by omega)]; omega
theorem row_low (n : Nat) (h : n ≤ 18446744073709551615) : Int.tmod (n : Int) 1000000000 % 4294967296 = ((n % 1000000000 : Nat) : Int) := by
  rw [Int.tmod_eq_emod_of_nonneg (by omega)]; omega
theorem row_high (n : Nat) (h : n ≤ 18446744073709551615) : IntKind.u64.wrap (Int.tdiv (n : Int) 1000000000) = ((n / 1000000000 : Nat) : Int) := by
  rw [Int.tdiv_eq_ediv_of_nonneg (by omega), u64w (by omega) (by omega)]; omega
theorem row_step1 (s c : Nat) (hs : s < 1000000000) (hc : c < 1000000000) : IntKind.u64.wrap ((IntKind.u64.wrap (s : Int)) + (c : Int)) = ((s + c : Nat) : Int) := by
  rw [u64w (x := (s : Int)) (by omega) (by omega), u64w (by omega) (by omega)]; omega
theorem valL_set : ∀ (l : List Int) (m : Nat) (h : m < l.length) (v s : Nat), l[m] = (s : Int) → valL (l.set m (v : Int)) + 1000000000 ^ m * s = valL l + 1000000000 ^ m * v
  | x :: l, 0, h, v, s, h0 => by
    simp only [List.set_cons_zero, valL, List.getElem_cons_zero] at h0 ⊢
    rw [Nat.pow_zero]; omega
  | x :: l, m + 1, h, v, s, h0 => by
    simp only [List.set_cons_succ, valL, List.getElem_cons_succ] at h0 ⊢
    have := valL_set l m (by simpa using h) v s h0
    rw [Nat.pow_succ, Nat.mul_comm (1000000000 ^ m) 1000000000, Nat.mul_assoc, Nat.mul_assoc]; omega
theorem goodL_set {l : List Int} (h : goodL l = true) (m : Nat) {v : Int} (hv : 0 ≤ v ∧ v < 1000000000) : goodL (l.set m v) = true := by
  rw [goodL_iff]; intro e he
  rcases List.mem_or_eq_of_mem_set he with h1 | h1
  · exact goodL_iff.1 h e h1
  · subst h1; exact hv
def RowPost (x : List Int) (V : Nat) (r : List Int) : Prop := goodL r = true ∧ r.length = x.length ∧ valL r = V
theorem row_end (V : Nat) : ∀ (d n : Nat) (x : List Int) (c : Nat), x.length - n = d → goodL x = true → x.length ≤ 1000000000000 → n ≤ x.length → c < 1000000000 → valL x + 1000000000 ^ n * c = V → V < 1000000000 ^ x.length →
    ∃ r, Ev (fun k => mul_row.l1 k x (c : Int) (n : Int)) r ∧ RowPost x V r
  | d, n, x, c, h1, hg, hl, hn, hc, hV, hlt => by
    by_cases h0 : c = 0
    · subst h0
      refine ⟨x, evDone (r' := x) (fun k => ?_) rfl, hg, rfl, by omega⟩
      simp only [mul_row.l1]; rw [if_neg (by omega)]
    · have hnx : n < x.length := by
        rcases Nat.lt_or_ge n x.length with h | h
        · exact h
        · obtain rfl : n = x.length := by omega
          have := Nat.mul_le_mul_left (1000000000 ^ x.length) (show 1 ≤ c by omega)
          omega
      obtain ⟨d, rfl⟩ : ∃ e, d = e + 1 := ⟨d - 1, by omega⟩
      have hp := goodL_iff.1 hg _ (List.getElem_mem hnx)
      obtain ⟨s, hs⟩ : ∃ s : Nat, x[n] = (s : Int) := ⟨x[n].toNat, by omega⟩
      have hset := valL_set x n hnx ((s + c) % 1000000000) s hs
      have hdm := Nat.div_add_mod (s + c) 1000000000
      have key : valL (x.set n (((s + c) % 1000000000 : Nat) : Int)) + 1000000000 ^ (n + 1) * ((s + c) / 1000000000) = V := by
        have e := congrArg (fun z => 1000000000 ^ n * z) hdm
        simp only [Nat.mul_add] at e
        rw [Nat.pow_succ, Nat.mul_assoc]
        omega
      have hc' : (s + c) / 1000000000 < 1000000000 := by omega
      obtain ⟨r, hr, p1, p2, p3⟩ := row_end V d (n + 1) (x.set n (((s + c) % 1000000000 : Nat) : Int)) ((s + c) / 1000000000) (by simp; omega) (goodL_set hg n (by omega)) (by simpa using hl) (by simp; omega) hc' key (by simpa using hlt)
      refine ⟨r, Ev.step (fun k => ?_) hr, p1, by simpa using p2, p3⟩
      simp only [mul_row.l1]; rw [if_pos (by omega), if_pos (by omega), if_pos (by omega), rd_get hnx, hs, row_step1 _ _ (by omega) hc, row_low _ (by omega), row_high _ (by omega), w64 (by omega) (by omega), Int.toNat_natCast]; rfl
theorem row_idx (p q : Nat) (hp : p ≤ 1000000000000) (hq : q ≤ 1000000000000) : wrap64 ((p : Int) + (q : Int)) = ((p + q : Nat) : Int) := by rw [w64 (by omega) (by omega)]; omega
theorem row_loop (a : List Int) (ga : goodL a = true) (y p V : Nat) (hy : y < 1000000000) : ∀ (d n : Nat) (x : List Int) (c : Nat), a.length - n = d → goodL x = true → x.length ≤ 1000000000000 → n ≤ a.length → p + a.length ≤ x.length → c < 1000000000 → valL x + 1000000000 ^ (p + n) * (c + valL (a.drop n) * y) = V → V < 1000000000 ^ x.length →
    ∃ r, Ev (fun k => mul_row.l0 k x a (y : Int) (p : Int) (c : Int) a (a.length : Int) (n : Int)) r ∧ RowPost x V r
  | 0, n, x, c, h1, hg, hl, hn, hpa, hc, hV, hlt => by
    have e : a.drop n = [] := List.drop_of_length_le (by omega)
    rw [e] at hV
    obtain ⟨r, hr, p1⟩ := row_end V _ (p + n) x c rfl hg hl (by omega) hc (by simpa [valL] using hV) hlt
    refine ⟨r, Ev.step (fun k => ?_) hr, p1⟩
    simp only [mul_row.l0]; rw [if_neg (by omega), row_idx p a.length (by omega) (by omega), show a.length = n by omega]
  | d + 1, n, x, c, h1, hg, hl, hn, hpa, hc, hV, hlt => by
    have hna : n < a.length := by omega
    have hnx : p + n < x.length := by omega
    have pa := goodL_iff.1 ga _ (List.getElem_mem hna)
    have px := goodL_iff.1 hg _ (List.getElem_mem hnx)
    obtain ⟨v, hv⟩ : ∃ v : Nat, a[n] = (v : Int) := ⟨a[n].toNat, by omega⟩
    obtain ⟨s, hs⟩ : ∃ s : Nat, x[p + n] = (s : Int) := ⟨x[p + n].toNat, by omega⟩
    have hvy : v * y ≤ 999999999 * 999999999 := Nat.mul_le_mul (by omega) (by omega)
    have e : valL (a.drop n) = v + 1000000000 * valL (a.drop (n + 1)) := by rw [List.drop_eq_getElem_cons hna, hv]; rfl
    have hset := valL_set x (p + n) hnx ((s + v * y + c) % 1000000000) s hs
    have hdm := Nat.div_add_mod (s + v * y + c) 1000000000
    have key : valL (x.set (p + n) (((s + v * y + c) % 1000000000 : Nat) : Int)) + 1000000000 ^ (p + (n + 1)) * ((s + v * y + c) / 1000000000 + valL (a.drop (n + 1)) * y) = V := by
      have e1 := congrArg (fun z => 1000000000 ^ (p + n) * z) hdm
      simp only [Nat.mul_add] at e1
      rw [e, Nat.add_mul, Nat.mul_add, Nat.mul_add, Nat.mul_assoc 1000000000, ← Nat.mul_assoc _ 1000000000] at hV
      rw [← Nat.add_assoc, Nat.pow_succ, Nat.mul_add, Nat.mul_assoc _ 1000000000 (_ / _)]
      omega
    have hc' : (s + v * y + c) / 1000000000 < 1000000000 := by omega
    obtain ⟨r, hr, p1, p2, p3⟩ := row_loop a ga y p V hy d (n + 1) (x.set (p + n) (((s + v * y + c) % 1000000000 : Nat) : Int)) ((s + v * y + c) / 1000000000) (by omega) (goodL_set hg _ (by omega)) (by simpa using hl) (by omega) (by simpa using hpa) hc' key (by simpa using hlt)
    refine ⟨r, Ev.step (fun k => ?_) hr, p1, by simpa using p2, p3⟩
    simp only [mul_row.l0]
    rw [if_pos (by omega), if_pos (by omega), if_pos (by omega), row_idx p n (by omega) (by omega), if_pos (by omega), if_pos (by omega), rd_get hnx, rd_get hna, hs, hv, row_step _ _ _ _ (by omega) (by omega) hy hc, row_low _ (by omega), row_high _ (by omega), succ64 _ (by omega), Int.toNat_natCast]
theorem row_ev {x a : List Int} {y p : Nat} (gx : goodL x = true) (ga : goodL a = true) (hy : y < 1000000000) (hl : x.length ≤ 1000000000000) (hpa : p + a.length ≤ x.length) (hlt : valL x + 1000000000 ^ p * (valL a * y) < 1000000000 ^ x.length) :
    ∃ r, Ev (fun k => mul_row.f k x a (y : Int) (p : Int)) r ∧ goodL r = true ∧ r.length = x.length ∧ valL r = valL x + 1000000000 ^ p * (valL a * y) := by
  obtain ⟨r, hr, h⟩ := row_loop a ga y p _ hy a.length 0 x 0 rfl gx hl (by omega) hpa (by omega) rfl (by simpa using hlt)
  exact ⟨r, hr, h.1, h.2.1, by rw [h.2.2]; simp⟩
end Go.Proofs.YtjpokifkbclkiaaDoor.Px
end
section
namespace Go.Proofs.YtjpokifkbclkiaaDoor.Px
open Fig Go.RowKit Go.Proofs.YtjpokifkbclkiaaDoorW.PrintWords Go.Proofs.YtjpokifkbclkiaaDoorW.PrintLast Go.Proofs.YtjpokifkbclkiaaDoorW.PrintMore
attribute [local go_sem] max2_int min2_int max_two min_two max_three min_three max_four min_four   -- for this text's walks alone
attribute [local go_sem] fieldA23_0 fieldA23_1 fieldA23_2
def figureheadref01_digit.f (a0 : ByteArray) (a1 : Int) : Option (Int) := if a1 ≥ (a0.size : Int) then (some 0) else (if 0 ≤ (wrap64 ((wrap64 ((a0.size : Int) - 1)) - a1)) then (if (wrap64 ((wrap64 ((a0.size : Int) - 1)) - a1)) < (a0.size : Int) then (some (((bt a0 (wrap64 ((wrap64 ((a0.size : Int) - 1)) - a1))) - 48) % 256)) else (none)) else (none))
set_option maxHeartbeats 8000000 in
set_option maxRecDepth 100000 in
theorem figureheadref01_digit.calls (a0 : ByteArray) (a1 : Int) (r : Int) (w : World) (h : figureheadref01_digit.f a0 a1 = some r) :
    Calls Tryd.prog 64 #[.string a0, .int .i64 a1] w fun e w' => e = .returned (.int .i64 r) ∧ Drawn0 w w' := by
  have H : (if a1 ≥ (a0.size : Int) then (some 0) else (if 0 ≤ (wrap64 ((wrap64 ((a0.size : Int) - 1)) - a1)) then (if (wrap64 ((wrap64 ((a0.size : Int) - 1)) - a1)) < (a0.size : Int) then (some (((bt a0 (wrap64 ((wrap64 ((a0.size : Int) - 1)) - a1))) - 48) % 256)) else (none)) else (none))) = some r := h
  clear h
  by_cases c3 : a1 ≥ (a0.size : Int)
  · rw [if_pos c3] at H
    have c3b0 : decide ((a0.size : Int) ≤ a1) = true := decide_eq_true c3
    clear c3
    obtain rfl := Option.some.inj H
    go_enter Tryd.func64, Tryd.ntmps64
    go_wp2
    go_ret
    exact ⟨by first | rfl | (simp; done) | (simp [*]; done) | (simp [*, Fig.bne_nil]; done), by repeat (first | exact Drawn0.refl _ | apply Drawn0.step)⟩
  · rw [if_neg c3] at H
    have c3b0 : decide ((a0.size : Int) ≤ a1) = false := decide_eq_false c3
    clear c3
    obtain ⟨ji4, hji4⟩ : ∃ j_ : Int, (wrap64 ((wrap64 ((a0.size : Int) - 1)) - a1)) = j_ := ⟨_, rfl⟩
    replace H : (if 0 ≤ (ji4) then (if (ji4) < (a0.size : Int) then (some (((bt a0 (ji4)) - 48) % 256)) else (none)) else (none)) = some r := by first | (rw [hji4] at H; exact H) | (simp only [hji4] at H ⊢; exact H)
    have hji4w : (IntKind.i64.wrap ((wrap64 ((a0.size : Int) - 1)) - a1)) = ji4 := (i64_w _).trans hji4
    by_cases c5 : 0 ≤ (ji4)
    · rw [if_pos c5] at H
      have c5b0 : decide (0 ≤ (ji4)) = true := decide_eq_true c5
      clear c5
      by_cases c6 : (ji4) < (a0.size : Int)
      · rw [if_pos c6] at H
        have c6b0 : decide ((ji4) < (a0.size : Int)) = true := decide_eq_true c6
        clear c6
        obtain rfl := Option.some.inj H
        have p7 : 0 ≤ ((ji4) : Int) := of_decide_eq_true (by first | (with_reducible assumption) | assumption)
        have q7 : (ji4) < (a0.size : Int) := of_decide_eq_true (by first | (with_reducible assumption) | assumption)
        have hx7 := bt_at a0 (ji4)
        replace p7 := eq_true p7
        replace q7 := eq_true q7
        go_enter Tryd.func64, Tryd.ntmps64
        go_wp2
        go_ret
        exact ⟨by first | rfl | (simp; done) | (simp only [← hji4] <;> (first | rfl | simp)) | (simp [*]; done) | (simp [*, Fig.bne_nil]; done), by repeat (first | exact Drawn0.refl _ | apply Drawn0.step)⟩
      · rw [if_neg c6] at H
        exact absurd H (by simp)
    · rw [if_neg c5] at H
      exact absurd H (by simp)
end Go.Proofs.YtjpokifkbclkiaaDoor.Px
end
section
namespace Go.Proofs.YtjpokifkbclkiaaDoor.Px
open Fig Go.RowKit Go.Proofs.YtjpokifkbclkiaaDoorW.PrintWords Go.Proofs.YtjpokifkbclkiaaDoorW.PrintLast Go.Proofs.YtjpokifkbclkiaaDoorW.PrintMore
attribute [local go_sem] max2_int min2_int max_two min_two max_three min_three max_four min_four   -- for this text's walks alone
attribute [local go_sem] fieldA23_0 fieldA23_1 fieldA23_2
def rs (s : ByteArray) : List UInt8 := s.data.toList.reverse
theorem rs_len (s : ByteArray) : (rs s).length = s.size := by rw [rs, List.length_reverse, ← size_eq]
def dg (s : ByteArray) (k : Nat) : Nat := match (rs s)[k]? with | some c => c.toNat - 48 | none => 0
theorem dg_le {s : ByteArray} (h : dB s = true) (k : Nat) : dg s k ≤ 9 := by
  unfold dg
  split
  · rename_i c hc
    have : isD c = true := digL_iff.1 (show digL (rs s) = true by rw [rs, digL_reverse]; exact h) c (List.mem_of_getElem? hc)
    have := isD_iff.1 this; omega
  · omega
theorem rv_rest (s : ByteArray) (k : Nat) : rv ((rs s).drop k) = dg s k + 10 * rv ((rs s).drop (k + 1)) := by
  unfold dg
  by_cases h : k < (rs s).length
  · rw [List.drop_eq_getElem_cons h, List.getElem?_eq_getElem h]; rfl
  · rw [List.drop_of_length_le (by omega), List.drop_of_length_le (by omega), List.getElem?_eq_none (by omega)]; rfl
theorem rv_rest_end {s : ByteArray} {k : Nat} (h : s.size ≤ k) : rv ((rs s).drop k) = 0 := by
  rw [List.drop_of_length_le (by rw [rs_len]; omega)]; rfl
theorem digit_eq {s : ByteArray} (h : dB s = true) (hs : s.size ≤ 4611686018427387904) {k : Nat} (hk : k ≤ 4611686018427387904) : figureheadref01_digit.f s (k : Int) = some ((dg s k : Nat) : Int) := by
  unfold figureheadref01_digit.f
  by_cases hlt : k < s.size
  · rw [if_neg (by omega), w64 (x := (s.size : Int) - 1) (by omega) (by omega), w64 (by omega) (by omega), if_pos (by omega), if_pos (by omega)]
    have e : (s.size : Int) - 1 - (k : Int) = ((s.size - 1 - k : Nat) : Int) := by omega
    rw [e, bt_get (by omega)]
    have e2 : (rs s)[k]? = some (s.data.toList[s.size - 1 - k]'(by rw [← size_eq]; omega)) := by
      unfold rs
      rw [List.getElem?_reverse (by rw [← size_eq]; exact hlt)]
      rw [List.getElem?_eq_getElem (by rw [← size_eq]; omega)]
      congr 1
    have hd : isD (s.data.toList[s.size - 1 - k]'(by rw [← size_eq]; omega)) = true := digL_iff.1 h _ (List.getElem_mem _)
    have := isD_iff.1 hd
    unfold dg
    rw [e2]
    congr 1
    show _ = ((_ - 48 : Nat) : Int)
    omega
  · rw [if_pos (by omega)]
    unfold dg
    rw [List.getElem?_eq_none (by rw [rs_len]; omega)]; rfl
end Go.Proofs.YtjpokifkbclkiaaDoor.Px
end
section
namespace Go.Proofs.YtjpokifkbclkiaaDoor.Px
open Fig Go.RowKit Go.Proofs.YtjpokifkbclkiaaDoorW.PrintWords Go.Proofs.YtjpokifkbclkiaaDoorW.PrintLast Go.Proofs.YtjpokifkbclkiaaDoorW.PrintMore
attribute [local go_sem] max2_int min2_int max_two min_two max_three min_three max_four min_four   -- for this text's walks alone
attribute [local go_sem] fieldA23_0 fieldA23_1 fieldA23_2
def figureheadref01_Strip.l0 : Nat → ByteArray → Int → Option (ByteArray)
  | 0, _, _ => none
  | k + 1, x0, x3 => if x3 < (x0.size : Int) then (if 0 ≤ x3 then (if (bt x0 x3) = 48 then (figureheadref01_Strip.l0 k x0 (wrap64 (x3 + 1))) else (if x3 ≤ (x0.size : Int) then (some (x0.extract (x3 : Int).toNat x0.size)) else (none))) else (none)) else (if 0 ≤ x3 then (if x3 ≤ (x0.size : Int) then (some (x0.extract (x3 : Int).toNat x0.size)) else (none)) else (none))
def figureheadref01_Strip.f (k : Nat) (a0 : ByteArray) : Option (ByteArray) := figureheadref01_Strip.l0 k a0 0
theorem figureheadref01_Strip.mono_l : ∀ k, (∀ y0 y1, LeO (figureheadref01_Strip.l0 k y0 y1) (figureheadref01_Strip.l0 (k + 1) y0 y1))
  | 0 => fun _ _ r h => by simp [figureheadref01_Strip.l0] at h
  | k + 1 => by
    have ih0 := figureheadref01_Strip.mono_l k
    · intro y0 y1
      unfold figureheadref01_Strip.l0
      repeat' first
      | (with_reducible exact ih0 _ _)
      | (with_reducible exact LeO.refl _)
      | (with_reducible exact LeO.none _)
      | (with_reducible refine LeO.ite ?_ ?_)
      | (with_reducible refine LeO.bind ?_ (fun _ => ?_))
      | exact ih0 _ _
      | exact LeO.none _
      | refine LeO.ite ?_ ?_
      | refine LeO.bind ?_ (fun _ => ?_)
theorem figureheadref01_Strip.mono : ∀ a0 k, LeO (figureheadref01_Strip.f k a0) (figureheadref01_Strip.f (k + 1) a0) := by
  intro a0 k
  have ih0 := figureheadref01_Strip.mono_l k
  unfold figureheadref01_Strip.f
  repeat' first
      | (with_reducible exact ih0 _ _)
      | (with_reducible exact LeO.refl _)
      | (with_reducible exact LeO.none _)
      | (with_reducible refine LeO.ite ?_ ?_)
      | (with_reducible refine LeO.bind ?_ (fun _ => ?_))
      | exact ih0 _ _
      | exact LeO.none _
      | refine LeO.ite ?_ ?_
      | refine LeO.bind ?_ (fun _ => ?_)
set_option maxHeartbeats 8000000 in
set_option maxRecDepth 100000 in
theorem figureheadref01_Strip.calls (k : Nat) (a0 : ByteArray) (r : ByteArray) (w : World) (h : figureheadref01_Strip.f k a0 = some r) :
    Calls Tryd.prog 38 #[.string a0] w fun e w' => e = .returned (.string r) ∧ Drawn0 w w' := by
  have H : (figureheadref01_Strip.l0 k a0 0) = some r := h
  clear h
  have H' := Aside0.mk H
  clear H
  go_enter Tryd.func38, Tryd.ntmps38
  go_wp2
  go_loopg [3] k (fun kq v3 w' => ∃ (x3_1 : Int), v3 = .int .i64 x3_1 ∧ Aside0 (figureheadref01_Strip.l0 kq a0 x3_1 = some r) ∧ Aside0 (kq ≤ k) ∧ Drawn0 w w')
  case atStart => exact ⟨(0), (by first | rfl | (simp; done) | (simp [*]; done) | (simp [*, Fig.bne_nil]; done)), H', ⟨Nat.le_refl _⟩, by repeat (first | exact Drawn0.refl _ | apply Drawn0.step)⟩
  case round =>
    clear H'
    obtain ⟨x3_1, rfl, HA, HK1, ⟨m1, rfl⟩⟩ := hrel
    cases gk with
    | zero => exact absurd HA.out (by simp [figureheadref01_Strip.l0])
    | succ k1 =>
      have H := HA.out
      clear HA
      simp only [figureheadref01_Strip.l0] at H
      by_cases c2 : x3_1 < (a0.size : Int)
      · rw [if_pos c2] at H
        have c2b0 : decide (x3_1 < (a0.size : Int)) = true := decide_eq_true c2
        clear c2
        by_cases c3 : 0 ≤ x3_1
        · rw [if_pos c3] at H
          have c3b0 : decide (0 ≤ x3_1) = true := decide_eq_true c3
          clear c3
          by_cases c5 : (bt a0 x3_1) = 48
          · rw [if_pos c5] at H
            have c5b0 : ((bt a0 x3_1) == 48) = true := beq_iff_eq.mpr c5
            have c5b1 : ((bt a0 x3_1) != 48) = false := bne_eq_false_iff_eq.mpr c5
            clear c5
            have H' := Aside0.mk H
            clear H
            have p4 : 0 ≤ (x3_1 : Int) := of_decide_eq_true (by first | (with_reducible assumption) | assumption)
            have q4 : x3_1 < (a0.size : Int) := of_decide_eq_true (by first | (with_reducible assumption) | assumption)
            have hx4 := bt_at a0 x3_1
            replace p4 := eq_true p4
            replace q4 := eq_true q4
            go_wp2
            go_roundg k1
            case measure => have := HK1.out; omega
            case rel => exact ⟨(wrap64 (x3_1 + 1)), (by first | rfl | (simp; done) | (simp [*]; done) | (simp [*, Fig.bne_nil]; done)), H', ⟨by have := HK1.out; omega⟩, by repeat (first | exact Drawn0.refl _ | apply Drawn0.step)⟩
          · rw [if_neg c5] at H
            have c5b0 : ((bt a0 x3_1) == 48) = false := beq_eq_false_iff_ne.mpr c5
            have c5b1 : ((bt a0 x3_1) != 48) = true := bne_iff_ne.mpr c5
            have c6b0 := eq_true (of_decide_eq_true (by first | (with_reducible assumption) | assumption) : 0 ≤ x3_1)
            by_cases c7 : x3_1 ≤ (a0.size : Int)
            · rw [if_pos c7] at H
              have c7b0 := eq_true c7
              have c7b1 : decide (x3_1 ≤ (a0.size : Int)) = true := decide_eq_true c7
              clear c7
              obtain rfl := Option.some.inj H
              have p4 : 0 ≤ (x3_1 : Int) := of_decide_eq_true (by first | (with_reducible assumption) | assumption)
              have q4 : x3_1 < (a0.size : Int) := of_decide_eq_true (by first | (with_reducible assumption) | assumption)
              have hx4 := bt_at a0 x3_1
              replace p4 := eq_true p4
              replace q4 := eq_true q4
              go_wp2
              go_ret
              exact ⟨by first | rfl | (simp; done) | (simp [*]; done) | (simp [*, Fig.bne_nil]; done), by repeat (first | exact Drawn0.refl _ | apply Drawn0.step)⟩
            · rw [if_neg c7] at H
              exact absurd H (by simp)
        · rw [if_neg c3] at H
          exact absurd H (by simp)
      · rw [if_neg c2] at H
        have c2b0 : decide (x3_1 < (a0.size : Int)) = false := decide_eq_false c2
        clear c2
        by_cases c8 : 0 ≤ x3_1
        · rw [if_pos c8] at H
          have c8b0 := eq_true c8
          have c8b1 : decide (0 ≤ x3_1) = true := decide_eq_true c8
          clear c8
          by_cases c9 : x3_1 ≤ (a0.size : Int)
          · rw [if_pos c9] at H
            have c9b0 := eq_true c9
            have c9b1 : decide (x3_1 ≤ (a0.size : Int)) = true := decide_eq_true c9
            clear c9
            obtain rfl := Option.some.inj H
            go_wp2
            go_ret
            exact ⟨by first | rfl | (simp; done) | (simp [*]; done) | (simp [*, Fig.bne_nil]; done), by repeat (first | exact Drawn0.refl _ | apply Drawn0.step)⟩
          · rw [if_neg c9] at H
            exact absurd H (by simp)
        · rw [if_neg c8] at H
          exact absurd H (by simp)
end Go.Proofs.YtjpokifkbclkiaaDoor.Px
end
section
namespace Go.Proofs.YtjpokifkbclkiaaDoor.Px
open Fig Go.RowKit Go.Proofs.YtjpokifkbclkiaaDoorW.PrintWords Go.Proofs.YtjpokifkbclkiaaDoorW.PrintLast Go.Proofs.YtjpokifkbclkiaaDoorW.PrintMore
attribute [local go_sem] max2_int min2_int max_two min_two max_three min_three max_four min_four   -- for this text's walks alone
attribute [local go_sem] fieldA23_0 fieldA23_1 fieldA23_2
theorem Strip_loop (s : ByteArray) (hs : s.size ≤ 4611686018427387904) : ∀ (d n : Nat), s.size - n = d → n ≤ s.size → Ev (fun k => figureheadref01_Strip.l0 k s (n : Int)) (⟨(stripL (s.data.toList.drop n)).toArray⟩ : ByteArray)
  | 0, n, hd, hn => by
    refine evDone (r' := s.extract n s.size) (fun k => ?_) ?_
    · simp only [figureheadref01_Strip.l0]; rw [if_neg (by omega), if_pos (by omega), if_pos (by omega)]; simp
    · apply B_ext; rw [B_from]
      have : s.data.toList.drop n = [] := List.drop_of_length_le (by rw [← size_eq]; omega)
      rw [this]; rfl
  | d + 1, n, hd, hn => by
    have hlt : n < s.size := by omega
    have hb := bt_get hlt
    have hc := List.drop_eq_getElem_cons (l := s.data.toList) (i := n) (by rw [← size_eq]; exact hlt)
    by_cases h48 : bt s (n : Int) = 48
    · refine Ev.step (f := fun k => figureheadref01_Strip.l0 k s ((n + 1 : Nat) : Int)) (fun k => ?_) ?_
      · simp only [figureheadref01_Strip.l0]; rw [if_pos (by omega), if_pos (by omega), if_pos h48, w64 (by omega) (by omega)]; rfl
      · have := Strip_loop s hs d (n + 1) (by omega) (by omega)
        rw [hc]
        have h2 : s.data.toList[n]'(by rw [← size_eq]; exact hlt) = 48 := UInt8.toNat.inj (by rw [hb] at h48; show _ = 48; omega)
        rw [h2]
        simpa [stripL] using this
    · refine evDone (r' := s.extract n s.size) (fun k => ?_) ?_
      · simp only [figureheadref01_Strip.l0]; rw [if_pos (by omega), if_pos (by omega), if_neg h48, if_pos (by omega)]; simp
      · apply B_ext; rw [B_from]
        refine (stripL_of_head ?_).symm
        rw [hc, List.head?_cons]
        intro e
        injection e with e
        rw [hb, e] at h48; exact h48 rfl
theorem Strip_ev {s : ByteArray} (hs : s.size ≤ 4611686018427387904) : Ev (fun k => figureheadref01_Strip.f k s) (stripB s) := by
  have := Strip_loop s hs s.size 0 (by omega) (by omega)
  simpa [figureheadref01_Strip.f, stripB] using this
theorem StripD_ev {s : ByteArray} (hs : s.size ≤ 4611686018427387904) (h : dB s = true) : Ev (fun k => figureheadref01_Strip.f k s) (digB (vB s)) := by
  rw [← stripB_eq h]; exact Strip_ev hs
end Go.Proofs.YtjpokifkbclkiaaDoor.Px
end
section
namespace Go.Proofs.YtjpokifkbclkiaaDoor.Px
open Fig Go.RowKit Go.Proofs.YtjpokifkbclkiaaDoorW.PrintWords Go.Proofs.YtjpokifkbclkiaaDoorW.PrintLast Go.Proofs.YtjpokifkbclkiaaDoorW.PrintMore
attribute [local go_sem] max2_int min2_int max_two min_two max_three min_three max_four min_four   -- for this text's walks alone
attribute [local go_sem] fieldA23_0 fieldA23_1 fieldA23_2
def figureheadref01_turned.l0 : Nat → List Int → List Int → Int → Option (ByteArray)
  | 0, _, _, _ => none
  | k + 1, x0, x3, x4 => if x4 ≥ 0 then (if 0 ≤ x4 then (if x4 < (x0.length : Int) then (if x3.length < 140737488355328 then (figureheadref01_turned.l0 k x0 (x3 ++ [rd x0 x4]) (wrap64 (x4 - 1))) else (none)) else (none)) else (none)) else (some (strOfNums x3))
def figureheadref01_turned.f (k : Nat) (l0 : List Int) : Option (ByteArray) := figureheadref01_turned.l0 k l0 ([] : List Int) (wrap64 ((l0.length : Int) - 1))
theorem figureheadref01_turned.mono_l : ∀ k, (∀ y0 y1 y2, LeO (figureheadref01_turned.l0 k y0 y1 y2) (figureheadref01_turned.l0 (k + 1) y0 y1 y2))
  | 0 => fun _ _ _ r h => by simp [figureheadref01_turned.l0] at h
  | k + 1 => by
    have ih0 := figureheadref01_turned.mono_l k
    · intro y0 y1 y2
      unfold figureheadref01_turned.l0
      repeat' first
      | (with_reducible exact ih0 _ _ _)
      | (with_reducible exact LeO.refl _)
      | (with_reducible exact LeO.none _)
      | (with_reducible refine LeO.ite ?_ ?_)
      | (with_reducible refine LeO.bind ?_ (fun _ => ?_))
      | exact ih0 _ _ _
      | exact LeO.none _
      | refine LeO.ite ?_ ?_
      | refine LeO.bind ?_ (fun _ => ?_)
theorem figureheadref01_turned.mono : ∀ a0 k, LeO (figureheadref01_turned.f k a0) (figureheadref01_turned.f (k + 1) a0) := by
  intro a0 k
  have ih0 := figureheadref01_turned.mono_l k
  unfold figureheadref01_turned.f
  repeat' first
      | (with_reducible exact ih0 _ _ _)
      | (with_reducible exact LeO.refl _)
      | (with_reducible exact LeO.none _)
      | (with_reducible refine LeO.ite ?_ ?_)
      | (with_reducible refine LeO.bind ?_ (fun _ => ?_))
      | exact ih0 _ _ _
      | exact LeO.none _
      | refine LeO.ite ?_ ?_
      | refine LeO.bind ?_ (fun _ => ?_)
set_option maxHeartbeats 8000000 in
set_option maxRecDepth 100000 in
theorem figureheadref01_turned.calls (k : Nat) (A0 : Option Addr) (c0 : Nat) (l0 : List Int) (r : ByteArray) (w : World) (hr0 : Kd.C (Kd.int .u8) w A0 l0.length l0) (hc0 : l0.length ≤ c0) (h : figureheadref01_turned.f k l0 = some r) :
    Calls Tryd.prog 65 #[.slice A0 l0.length c0] w fun e w' => e = .returned (.string r) ∧ Below w.heap.size w w' := by
  have HR0 := Aside0.mk hr0
  have HC0 := Aside0.mk hc0
  clear hr0 hc0
  have HB := Aside0.mk (Below.refl w.heap.size w)
  have H : (figureheadref01_turned.l0 k l0 ([] : List Int) (wrap64 ((l0.length : Int) - 1))) = some r := h
  clear h
  have H' := Aside0.mk H
  clear H
  go_enter Tryd.func65, Tryd.ntmps65
  go_wp2
  go_loopg [3, 4] k (fun kq v3 v4 w' => ∃ (x3_1 : List Int) (x4_1 : Int), v4 = .int .i64 x4_1 ∧ Aside0 (figureheadref01_turned.l0 kq l0 x3_1 x4_1 = some r) ∧ Aside0 (kq ≤ k) ∧ Aside0 (Kd.R (Kd.int .u8) 5 w' w.heap.size (fun _ => True) v3 x3_1) ∧ Aside0 (Below w.heap.size w w'))
  case atStart => exact ⟨(([] : List Int)), (wrap64 ((l0.length : Int) - 1)), (by first | rfl | (simp; done) | (simp [*]; done) | (simp [*, Fig.bne_nil]; done)), H', ⟨Nat.le_refl _⟩, ⟨by first | exact Kd.R_nil _ _ _ _ _ | exact Kd.N_nil _ _ _ _ _ | exact Kd.V_nil _ _ _ _ _ | exact Kd.Q_nil _ _ _ _ _ | exact Kd.S_nil _ _ _ _ _⟩, ⟨by repeat (first | (with_reducible first | exact HB.out | apply below_alloc | apply pw_below_drewN | apply below_drew1) | exact HB.out)⟩⟩
  case round =>
    clear H'
    obtain ⟨x3_1, x4_1, rfl, HA, HK1, HO_3, HB⟩ := hrel
    cases gk with
    | zero => exact absurd HA.out (by simp [figureheadref01_turned.l0])
    | succ k1 =>
      have H := HA.out
      clear HA
      simp only [figureheadref01_turned.l0] at H
      by_cases c2 : x4_1 ≥ 0
      · rw [if_pos c2] at H
        have c2b0 : decide (0 ≤ x4_1) = true := decide_eq_true c2
        clear c2
        by_cases c3 : 0 ≤ x4_1
        · rw [if_pos c3] at H
          have c3b0 : decide (0 ≤ x4_1) = true := decide_eq_true c3
          clear c3
          by_cases c4 : x4_1 < (l0.length : Int)
          · rw [if_pos c4] at H
            have c4b0 : decide (x4_1 < (l0.length : Int)) = true := decide_eq_true c4
            clear c4
            by_cases c5 : x3_1.length < 140737488355328
            · rw [if_pos c5] at H
              have LMc5 := Aside0.mk c5
              clear c5
              obtain ⟨y215, hy215⟩ : ∃ y_ : List Int, y_ = (x3_1 ++ [rd l0 x4_1]) := ⟨_, rfl⟩
              replace H : (figureheadref01_turned.l0 k1 l0 y215 (wrap64 (x4_1 - 1))) = some r := by first | (rw [hy215]; with_reducible exact H) | (have H2_ := (Option.bind_some _ _).symm.trans H; rw [hy215]; with_reducible exact H2_) | (have H2_ := (Option.bind_some _ _).symm.trans H; with_reducible exact H2_) | with_reducible exact H | (rw [hy215]; exact H) | exact H
              have Ny215 := Aside0.mk hy215
              clear hy215
              have H' := Aside0.mk H
              clear H
              have p214 : 0 ≤ (x4_1 : Int) := of_decide_eq_true (by first | (with_reducible assumption) | assumption)
              have q214 : x4_1 < (l0.length : Int) := of_decide_eq_true (by first | (with_reducible assumption) | assumption)
              obtain ⟨ad214, e214, hx214_0⟩ := Kd.at_int HR0.out x4_1 p214 q214
              cases e214
              replace hx214_0 := (HB.out.cell (World.block_lt_of_cell? w _ hx214_0)).trans hx214_0
              replace p214 := eq_true p214
              replace q214 := eq_true q214
              go_wp2_with (first | ((with_reducible refine gate_builtin (b := .append) (xs := #[.tmp 12, .tmp 17]) rfl ?_); at_builtin; refine Kd.R_append (Kd.int .u8) (w0 := w) w.heap.size rfl (.tmp 12) (.tmp 17) 75 5 (.int .u8 0) 1 rfl Tryd.underlying75 info5 rfl (by decide) (by omega) u3 x3_1 (rd l0 x4_1) [.int .u8 (rd l0 x4_1)] (fun _ => True) (fun _ => False) rfl rfl ?aP (fun _ hk => hk.elim) ?aF ?aO ?aB ?aS ?aL ?_; (case aP => exact rfl); (case aB => exact (by repeat (first | (with_reducible first | exact HB.out | apply below_alloc | apply pw_below_drewN | apply below_drew1) | exact HB.out))); (case aF => exact (fun _ _ => trivial)); (case aO => exact (by (with_reducible repeat (first | apply Kd.R_alloc | apply Kd.R_drewN | apply Kd.R_drew)); exact HO_3.out)); (case aS => exact (below_size (by repeat (first | (with_reducible first | exact HB.out | apply below_alloc | apply pw_below_drewN | apply below_drew1) | exact HB.out)))); (case aL => have := LMc5.out; omega); intro v216 w6 ho hb hg hat; rw [← Ny215.out] at ho; have n0_ := Aside0.mk (hb); have n1_ := Aside0.mk (ho); clear HB; clear HO_3; have HB := n0_; have HO217 := n1_; clear n0_ n1_; clear ho hb hg hat))
              go_roundg k1
              case measure => have := HK1.out; omega
              case rel => exact ⟨(y215), (wrap64 (x4_1 - 1)), (by first | rfl | (simp; done) | (simp [*]; done) | (simp [*, Fig.bne_nil]; done)), H', ⟨by have := HK1.out; omega⟩, ⟨by (with_reducible repeat (first | apply Kd.R_alloc | apply Kd.R_drewN | apply Kd.R_drew)); exact HO217.out⟩, ⟨by repeat (first | (with_reducible first | exact HB.out | apply below_alloc | apply pw_below_drewN | apply below_drew1) | exact HB.out)⟩⟩
            · rw [if_neg c5] at H
              exact absurd H (by simp)
          · rw [if_neg c4] at H
            exact absurd H (by simp)
        · rw [if_neg c3] at H
          exact absurd H (by simp)
      · rw [if_neg c2] at H
        have c2b0 : decide (0 ≤ x4_1) = false := decide_eq_false c2
        clear c2
        obtain rfl := Option.some.inj H
        have hcv7 := own_string (P := Tryd.prog) Tryd.underlying75 Tryd.underlying5 Tryd.underlying9 (Kd.own_of_R HO_3.out)
        go_wp2
        go_ret
        exact ⟨by first | rfl | (simp [errW_none, errW_some] <;> rfl) | (simp [*, errW_none, errW_some] <;> rfl), by repeat (first | (with_reducible first | exact HB.out | apply below_alloc | apply pw_below_drewN | apply below_drew1) | exact HB.out)⟩
end Go.Proofs.YtjpokifkbclkiaaDoor.Px
end
section
namespace Go.Proofs.YtjpokifkbclkiaaDoor.Px
open Fig Go.RowKit Go.Proofs.YtjpokifkbclkiaaDoorW.PrintWords Go.Proofs.YtjpokifkbclkiaaDoorW.PrintLast Go.Proofs.YtjpokifkbclkiaaDoorW.PrintMore
attribute [local go_sem] max2_int min2_int max_two min_two max_three min_three max_four min_four   -- for this text's walks alone
attribute [local go_sem] fieldA23_0 fieldA23_1 fieldA23_2
theorem turned_loop (l : List Int) (hl : l.length ≤ 1000000000000) : ∀ (n : Nat) (x : List Int), n ≤ l.length → x.length + n = l.length → Ev (fun k => figureheadref01_turned.l0 k l x ((n : Int) - 1)) (strOfNums (x ++ (l.take n).reverse))
  | 0, x, hn, hx => by
    refine evDone (r' := strOfNums x) (fun k => ?_) (by simp)
    simp only [figureheadref01_turned.l0]; rw [if_neg (by omega)]
  | n + 1, x, hn, hx => by
    refine Ev.step (f := fun k => figureheadref01_turned.l0 k l (x ++ [rd l (n : Int)]) ((n : Int) - 1)) (fun k => ?_) ?_
    · have e : (((n + 1 : Nat) : Int) - 1) = (n : Int) := by omega
      simp only [e, figureheadref01_turned.l0]; rw [if_pos (by omega), if_pos (by omega), if_pos (by omega), if_pos (by omega), w64 (by omega) (by omega)]
    · refine evIs (turned_loop l hl n _ (by omega) (by simp; omega)) ?_
      rw [rd_get (by omega), List.append_assoc, List.take_succ_eq_append_getElem (by omega), List.reverse_append]; rfl
theorem turned_ev {l : List Int} (hl : l.length ≤ 1000000000000) : Ev (fun k => figureheadref01_turned.f k l) (strOfNums l.reverse) := by
  have := turned_loop l hl l.length [] (by omega) (by simp)
  unfold figureheadref01_turned.f
  rw [w64 (by omega) (by omega)]
  simpa using this
def ob (l : List Int) : List UInt8 := l.map fun n => UInt8.ofNat n.toNat
theorem ob_snoc (l : List Int) {c : Nat} (h : c ≤ 9) : digL (ob l) = true → digL (ob (l ++ [((48 + c : Nat) : Int)])) = true ∧ rv (ob (l ++ [((48 + c : Nat) : Int)])) = rv (ob l) + 10 ^ l.length * c := by
  intro hd
  have e2 : (UInt8.ofNat (48 + c)).toNat = 48 + c := by rw [UInt8.toNat_ofNat']; omega
  unfold ob
  rw [List.map_append, digL_append, rv_append]
  simp only [List.map_cons, List.map_nil, Int.toNat_natCast, List.length_map, rv, e2]
  refine ⟨⟨hd, ?_⟩, ?_⟩
  · rw [digL_cons, isD_iff, e2]; exact ⟨by omega, rfl⟩
  · rw [show 48 + c - 48 + 10 * 0 = c by omega]
theorem turnedStrip_ev {l : List Int} (hl : l.length ≤ 1000000000000) (hd : digL (ob l) = true) : Ev (fun k => (figureheadref01_turned.f k l).bind fun t => (figureheadref01_Strip.f k t).bind fun t2 => some t2) (digB (rv (ob l))) := by
  have e1 : (strOfNums l.reverse).data.toList = (ob l).reverse := by rw [B_nums, ob, List.map_reverse]
  refine Ev.bind (turned_ev hl) (Ev.bind (StripD_ev (by rw [strOfNums_size, List.length_reverse]; omega) (by unfold dB; rw [e1, digL_reverse]; exact hd)) ?_)
  have : vB (strOfNums l.reverse) = rv (ob l) := by unfold vB; rw [e1, List.reverse_reverse]
  rw [this]; exact Ev.now _
end Go.Proofs.YtjpokifkbclkiaaDoor.Px
end
section
namespace Go.Proofs.YtjpokifkbclkiaaDoor.Px
open Fig Go.RowKit Go.Proofs.YtjpokifkbclkiaaDoorW.PrintWords Go.Proofs.YtjpokifkbclkiaaDoorW.PrintLast Go.Proofs.YtjpokifkbclkiaaDoorW.PrintMore
attribute [local go_sem] max2_int min2_int max_two min_two max_three min_three max_four min_four   -- for this text's walks alone
attribute [local go_sem] fieldA23_0 fieldA23_1 fieldA23_2
mutual
def figureheadref01_Plus.l0 : Nat → ByteArray → ByteArray → List Int → Int → Int → Option (ByteArray)
  | 0, _, _, _, _, _ => none
  | k + 1, x0, x1, x5, x6, x7 => if x7 < (x0.size : Int) then (figureheadref01_Plus.j1 k x0 x1 x5 x6 x7 true) else (if x7 < (x1.size : Int) then (figureheadref01_Plus.j1 k x0 x1 x5 x6 x7 true) else (figureheadref01_Plus.j1 k x0 x1 x5 x6 x7 (decide (x6 > 0))))
def figureheadref01_Plus.j1 : Nat → ByteArray → ByteArray → List Int → Int → Int → Bool → Option (ByteArray)
  | 0, _, _, _, _, _, _ => none
  | k + 1, x0, x1, x5, x6, x7, x22 => if x22 = true then ((figureheadref01_digit.f x0 x7).bind fun t238 => ((figureheadref01_digit.f x1 x7).bind fun t239 => (if x5.length < 140737488355328 then (figureheadref01_Plus.l0 k x0 x1 (x5 ++ [(wrap64 (48 + (Int.tmod (wrap64 ((wrap64 (t238 + t239)) + x6)) 10))) % 256]) (wrap64 (Int.tdiv (wrap64 ((wrap64 (t238 + t239)) + x6)) 10)) (wrap64 (x7 + 1))) else (none)))) else ((figureheadref01_turned.f k x5).bind fun t243 => ((figureheadref01_Strip.f k t243).bind fun t244 => (some t244)))
end
def figureheadref01_Plus.f (k : Nat) (a0 : ByteArray) (a1 : ByteArray) : Option (ByteArray) := figureheadref01_Plus.l0 k a0 a1 ([] : List Int) 0 0
theorem figureheadref01_Plus.mono_l : ∀ k, (∀ y0 y1 y2 y3 y4, LeO (figureheadref01_Plus.l0 k y0 y1 y2 y3 y4) (figureheadref01_Plus.l0 (k + 1) y0 y1 y2 y3 y4)) ∧ (∀ y0 y1 y2 y3 y4 y5, LeO (figureheadref01_Plus.j1 k y0 y1 y2 y3 y4 y5) (figureheadref01_Plus.j1 (k + 1) y0 y1 y2 y3 y4 y5))
  | 0 => ⟨fun _ _ _ _ _ r h => by simp [figureheadref01_Plus.l0] at h, fun _ _ _ _ _ _ r h => by simp [figureheadref01_Plus.j1] at h⟩
  | k + 1 => by
    obtain ⟨ih0, ih1⟩ := figureheadref01_Plus.mono_l k
    refine ⟨?_, ?_⟩
    · intro y0 y1 y2 y3 y4
      unfold figureheadref01_Plus.l0
      repeat' first
      | (with_reducible exact ih0 _ _ _ _ _)
      | (with_reducible exact ih1 _ _ _ _ _ _)
      | (with_reducible exact figureheadref01_Strip.mono _ _)
      | (with_reducible exact figureheadref01_turned.mono _ _)
      | (with_reducible exact LeO.refl _)
      | (with_reducible exact LeO.none _)
      | (with_reducible refine LeO.ite ?_ ?_)
      | (with_reducible refine LeO.bind ?_ (fun _ => ?_))
      | exact ih0 _ _ _ _ _
      | exact ih1 _ _ _ _ _ _
      | exact figureheadref01_Strip.mono _ _
      | exact figureheadref01_turned.mono _ _
      | exact LeO.none _
      | refine LeO.ite ?_ ?_
      | refine LeO.bind ?_ (fun _ => ?_)
    · intro y0 y1 y2 y3 y4 y5
      unfold figureheadref01_Plus.j1
      repeat' first
      | (with_reducible exact ih0 _ _ _ _ _)
      | (with_reducible exact ih1 _ _ _ _ _ _)
      | (with_reducible exact figureheadref01_Strip.mono _ _)
      | (with_reducible exact figureheadref01_turned.mono _ _)
      | (with_reducible exact LeO.refl _)
      | (with_reducible exact LeO.none _)
      | (with_reducible refine LeO.ite ?_ ?_)
      | (with_reducible refine LeO.bind ?_ (fun _ => ?_))
      | exact ih0 _ _ _ _ _
      | exact ih1 _ _ _ _ _ _
      | exact figureheadref01_Strip.mono _ _
      | exact figureheadref01_turned.mono _ _
      | exact LeO.none _
      | refine LeO.ite ?_ ?_
      | refine LeO.bind ?_ (fun _ => ?_)
theorem figureheadref01_Plus.mono : ∀ a0 a1 k, LeO (figureheadref01_Plus.f k a0 a1) (figureheadref01_Plus.f (k + 1) a0 a1) := by
  intro a0 a1 k
  obtain ⟨ih0, ih1⟩ := figureheadref01_Plus.mono_l k
  unfold figureheadref01_Plus.f
  repeat' first
      | (with_reducible exact ih0 _ _ _ _ _)
      | (with_reducible exact ih1 _ _ _ _ _ _)
      | (with_reducible exact figureheadref01_Strip.mono _ _)
      | (with_reducible exact figureheadref01_turned.mono _ _)
      | (with_reducible exact LeO.refl _)
      | (with_reducible exact LeO.none _)
      | (with_reducible refine LeO.ite ?_ ?_)
      | (with_reducible refine LeO.bind ?_ (fun _ => ?_))
      | exact ih0 _ _ _ _ _
      | exact ih1 _ _ _ _ _ _
      | exact figureheadref01_Strip.mono _ _
      | exact figureheadref01_turned.mono _ _
      | exact LeO.none _
      | refine LeO.ite ?_ ?_
      | refine LeO.bind ?_ (fun _ => ?_)
set_option maxHeartbeats 8000000 in
set_option maxRecDepth 100000 in
theorem figureheadref01_Plus.calls (k : Nat) (a0 : ByteArray) (a1 : ByteArray) (r : ByteArray) (w : World) (h : figureheadref01_Plus.f k a0 a1 = some r) :
    Calls Tryd.prog 42 #[.string a0, .string a1] w fun e w' => e = .returned (.string r) ∧ Below w.heap.size w w' := by
  have HB := Aside0.mk (Below.refl w.heap.size w)
  have H : (figureheadref01_Plus.l0 k a0 a1 ([] : List Int) 0 0) = some r := h
  clear h
  have H' := Aside0.mk H
  clear H
  go_enter Tryd.func42, Tryd.ntmps42
  go_wp2
  go_loopg [5, 6, 7] k (fun kq v5 v6 v7 w' => ∃ (x5_1 : List Int) (x6_1 : Int) (x7_1 : Int), v6 = .int .i64 x6_1 ∧ v7 = .int .i64 x7_1 ∧ Aside0 (figureheadref01_Plus.l0 kq a0 a1 x5_1 x6_1 x7_1 = some r) ∧ Aside0 (kq ≤ k) ∧ Aside0 (Kd.R (Kd.int .u8) 5 w' w.heap.size (fun _ => True) v5 x5_1) ∧ Aside0 (Below w.heap.size w w'))
  case atStart => exact ⟨(([] : List Int)), (0), (0), (by first | rfl | (simp; done) | (simp [*]; done) | (simp [*, Fig.bne_nil]; done)), (by first | rfl | (simp; done) | (simp [*]; done) | (simp [*, Fig.bne_nil]; done)), H', ⟨Nat.le_refl _⟩, ⟨by first | exact Kd.R_nil _ _ _ _ _ | exact Kd.N_nil _ _ _ _ _ | exact Kd.V_nil _ _ _ _ _ | exact Kd.Q_nil _ _ _ _ _ | exact Kd.S_nil _ _ _ _ _⟩, ⟨by repeat (first | (with_reducible first | exact HB.out | apply below_alloc | apply pw_below_drewN | apply below_drew1) | exact HB.out)⟩⟩
  case round =>
    clear H'
    try clear p2
    obtain ⟨x5_1, x6_1, x7_1, rfl, rfl, HA, HK1, HO_5, HB⟩ := hrel
    cases gk with
    | zero => exact absurd HA.out (by simp [figureheadref01_Plus.l0])
    | succ k1 =>
      have H := HA.out
      clear HA
      simp only [figureheadref01_Plus.l0] at H
      have HC3 := Aside0.mk H
      clear H
      go_upto_region 4 with (fail)
      go_cut [22] (fun v22 wc => ∃ (kq : Nat) (x22_2 : Bool), v22 = .bool x22_2 ∧ Aside0 (figureheadref01_Plus.j1 kq a0 a1 x5_1 x6_1 x7_1 x22_2 = some r) ∧ Aside0 (kq ≤ k1) ∧ Aside0 (Kd.R (Kd.int .u8) 5 wc w.heap.size (fun _ => True) u5 x5_1) ∧ Aside0 (Below w.heap.size w wc))
      case first =>
        have H := HC3.out
        clear HC3
        by_cases c4 : x7_1 < (a0.size : Int)
        · rw [if_pos c4] at H
          have c4b0 : decide (x7_1 < (a0.size : Int)) = true := decide_eq_true c4
          clear c4
          (first | rw [c4b0] | (simp only [i64_w, i32_w]; rw [c4b0]) | skip)
          have H' := Aside0.mk H
          clear H
          go_wp2
          go_meet
          case rel => exact ⟨_, (true), (by first | rfl | (simp; done) | (simp [*]; done) | (simp [*, Fig.bne_nil]; done)), H', ⟨by have := HK1.out; first | omega | exact Nat.le_refl _⟩, ⟨by (with_reducible repeat (first | apply Kd.R_alloc | apply Kd.R_drewN | apply Kd.R_drew)); exact HO_5.out⟩, ⟨by repeat (first | (with_reducible first | exact HB.out | apply below_alloc | apply pw_below_drewN | apply below_drew1) | exact HB.out)⟩⟩
        · rw [if_neg c4] at H
          have c4b0 : decide (x7_1 < (a0.size : Int)) = false := decide_eq_false c4
          clear c4
          (first | rw [c4b0] | (simp only [i64_w, i32_w]; rw [c4b0]) | skip)
          by_cases c5 : x7_1 < (a1.size : Int)
          · rw [if_pos c5] at H
            have c5b0 : decide (x7_1 < (a1.size : Int)) = true := decide_eq_true c5
            clear c5
            have H' := Aside0.mk H
            clear H
            go_wp2
            go_meet
            case rel => exact ⟨_, (true), (by first | rfl | (simp; done) | (simp [*]; done) | (simp [*, Fig.bne_nil]; done)), H', ⟨by have := HK1.out; first | omega | exact Nat.le_refl _⟩, ⟨by (with_reducible repeat (first | apply Kd.R_alloc | apply Kd.R_drewN | apply Kd.R_drew)); exact HO_5.out⟩, ⟨by repeat (first | (with_reducible first | exact HB.out | apply below_alloc | apply pw_below_drewN | apply below_drew1) | exact HB.out)⟩⟩
          · rw [if_neg c5] at H
            have c5b0 : decide (x7_1 < (a1.size : Int)) = false := decide_eq_false c5
            clear c5
            have H' := Aside0.mk H
            clear H
            go_wp2
            go_meet
            case rel => exact ⟨_, (decide (x6_1 > 0)), (by first | rfl | (simp; done) | (simp [*]; done) | (simp [*, Fig.bne_nil]; done)), H', ⟨by have := HK1.out; first | omega | exact Nat.le_refl _⟩, ⟨by (with_reducible repeat (first | apply Kd.R_alloc | apply Kd.R_drewN | apply Kd.R_drew)); exact HO_5.out⟩, ⟨by repeat (first | (with_reducible first | exact HB.out | apply below_alloc | apply pw_below_drewN | apply below_drew1) | exact HB.out)⟩⟩
      case rest =>
        clear HC3
        try clear p2
        try clear c4
        try clear c4b0
        try clear c5
        try clear c5b0
        try clear p2
        obtain ⟨kq, x22_2, rfl, HA, HJ2, HO_5, HB⟩ := hcut
        cases kq with
        | zero => exact absurd HA.out (by simp [figureheadref01_Plus.j1])
        | succ kj2 =>
          have H := HA.out
          clear HA
          simp only [figureheadref01_Plus.j1] at H
          by_cases c6 : x22_2 = true
          · subst c6
            have H1 : ((figureheadref01_digit.f a0 x7_1).bind fun t238 => ((figureheadref01_digit.f a1 x7_1).bind fun t239 => (if x5_1.length < 140737488355328 then (figureheadref01_Plus.l0 kj2 a0 a1 (x5_1 ++ [(wrap64 (48 + (Int.tmod (wrap64 ((wrap64 (t238 + t239)) + x6_1)) 10))) % 256]) (wrap64 (Int.tdiv (wrap64 ((wrap64 (t238 + t239)) + x6_1)) 10)) (wrap64 (x7_1 + 1))) else (none)))) = some r := by rw [if_pos rfl] at H; exact H
            clear H
            have H := H1
            clear H1
            replace H := Option.bind_eq_some_iff.mp H
            obtain ⟨t238, A70, H⟩ := H
            replace H : ((figureheadref01_digit.f a1 x7_1).bind fun t239 => (if x5_1.length < 140737488355328 then (figureheadref01_Plus.l0 kj2 a0 a1 (x5_1 ++ [(wrap64 (48 + (Int.tmod (wrap64 ((wrap64 (t238 + t239)) + x6_1)) 10))) % 256]) (wrap64 (Int.tdiv (wrap64 ((wrap64 (t238 + t239)) + x6_1)) 10)) (wrap64 (x7_1 + 1))) else (none))) = some r := H
            have A7 := Aside0.mk A70
            clear A70
            replace H := Option.bind_eq_some_iff.mp H
            obtain ⟨t239, A80, H⟩ := H
            replace H : (if x5_1.length < 140737488355328 then (figureheadref01_Plus.l0 kj2 a0 a1 (x5_1 ++ [(wrap64 (48 + (Int.tmod (wrap64 ((wrap64 (t238 + t239)) + x6_1)) 10))) % 256]) (wrap64 (Int.tdiv (wrap64 ((wrap64 (t238 + t239)) + x6_1)) 10)) (wrap64 (x7_1 + 1))) else (none)) = some r := H
            have A8 := Aside0.mk A80
            clear A80
            by_cases c9 : x5_1.length < 140737488355328
            · rw [if_pos c9] at H
              have LMc9 := Aside0.mk c9
              clear c9
              obtain ⟨y240, hy240⟩ : ∃ y_ : List Int, y_ = (x5_1 ++ [(wrap64 (48 + (Int.tmod (wrap64 ((wrap64 (t238 + t239)) + x6_1)) 10))) % 256]) := ⟨_, rfl⟩
              replace H : (figureheadref01_Plus.l0 kj2 a0 a1 y240 (wrap64 (Int.tdiv (wrap64 ((wrap64 (t238 + t239)) + x6_1)) 10)) (wrap64 (x7_1 + 1))) = some r := by first | (rw [hy240]; with_reducible exact H) | (have H2_ := (Option.bind_some _ _).symm.trans H; rw [hy240]; with_reducible exact H2_) | (have H2_ := (Option.bind_some _ _).symm.trans H; with_reducible exact H2_) | with_reducible exact H | (rw [hy240]; exact H) | exact H
              have Ny240 := Aside0.mk hy240
              clear hy240
              have H' := Aside0.mk H
              clear H
              go_wp2_with (first | ((with_reducible refine gate_callee (f := 64) rfl ?_); refine goesL_ (some 27) rfl rfl Tryd.func64 (by kernel_rfl) rfl #[.string a0, .int .i64 x7_1] rfl (by (try simp only [List.map_toArray]); (try simp only [List.map_cons]); (try simp only [List.map_nil]); first | done | rfl | (simp only [List.length_drop, List.length_take]; rfl)) ?_; (with_reducible refine (figureheadref01_digit.calls a0 x7_1 t238 _ A7.out).mono ?_); rintro e w' ⟨rfl, ⟨nd, rfl⟩⟩; refine ⟨_, rfl, ?_⟩) | ((with_reducible refine gate_callee (f := 64) rfl ?_); refine goesL_ (some 30) rfl rfl Tryd.func64 (by kernel_rfl) rfl #[.string a1, .int .i64 x7_1] rfl (by (try simp only [List.map_toArray]); (try simp only [List.map_cons]); (try simp only [List.map_nil]); first | done | rfl | (simp only [List.length_drop, List.length_take]; rfl)) ?_; (with_reducible refine (figureheadref01_digit.calls a1 x7_1 t239 _ A8.out).mono ?_); rintro e w' ⟨rfl, ⟨nd, rfl⟩⟩; refine ⟨_, rfl, ?_⟩) | ((with_reducible refine gate_builtin (b := .append) (xs := #[.tmp 34, .tmp 39]) rfl ?_); (try (refine gate_guard (by rfl) ?_; dsimp only)); at_builtin; refine Kd.R_append (Kd.int .u8) (w0 := w) w.heap.size rfl (.tmp 34) (.tmp 39) 75 5 (.int .u8 0) 1 rfl Tryd.underlying75 info5 rfl (by decide) (by omega) u5 x5_1 ((wrap64 (48 + (Int.tmod (wrap64 ((wrap64 (t238 + t239)) + x6_1)) 10))) % 256) [.int .u8 ((wrap64 (48 + (Int.tmod (wrap64 ((wrap64 (t238 + t239)) + x6_1)) 10))) % 256)] (fun _ => True) (fun _ => False) rfl rfl ?aP (fun _ hk => hk.elim) ?aF ?aO ?aB ?aS ?aL ?_; (case aP => exact rfl); (case aB => exact (by repeat (first | (with_reducible first | exact HB.out | apply below_alloc | apply pw_below_drewN | apply below_drew1) | exact HB.out))); (case aF => exact (fun _ _ => trivial)); (case aO => exact (by (with_reducible repeat (first | apply Kd.R_alloc | apply Kd.R_drewN | apply Kd.R_drew)); exact HO_5.out)); (case aS => exact (below_size (by repeat (first | (with_reducible first | exact HB.out | apply below_alloc | apply pw_below_drewN | apply below_drew1) | exact HB.out)))); (case aL => have := LMc9.out; omega); intro v241 w10 ho hb hg hat; rw [← Ny240.out] at ho; have n0_ := Aside0.mk (hb); have n1_ := Aside0.mk (ho); clear HB; clear HO_5; have HB := n0_; have HO242 := n1_; clear n0_ n1_; clear ho hb hg hat))
              go_roundg kj2
              case measure => have := HK1.out; have := HJ2.out; omega
              case rel => exact ⟨(y240), (wrap64 (Int.tdiv (wrap64 ((wrap64 (t238 + t239)) + x6_1)) 10)), (wrap64 (x7_1 + 1)), (by first | rfl | (simp; done) | (simp [*]; done) | (simp [*, Fig.bne_nil]; done)), (by first | rfl | (simp; done) | (simp [*]; done) | (simp [*, Fig.bne_nil]; done)), H', ⟨by have := HK1.out; have := HJ2.out; omega⟩, ⟨by (with_reducible repeat (first | apply Kd.R_alloc | apply Kd.R_drewN | apply Kd.R_drew)); exact HO242.out⟩, ⟨by repeat (first | (with_reducible first | exact HB.out | apply below_alloc | apply pw_below_drewN | apply below_drew1) | exact HB.out)⟩⟩
            · rw [if_neg c9] at H
              exact absurd H (by simp)
          · replace c6 := Bool.eq_false_iff.mpr c6
            subst c6
            have H1 : ((figureheadref01_turned.f kj2 x5_1).bind fun t243 => ((figureheadref01_Strip.f kj2 t243).bind fun t244 => (some t244))) = some r := by rw [if_neg (show ¬ (false = true) by decide)] at H; exact H
            clear H
            have H := H1
            clear H1
            replace H := Option.bind_eq_some_iff.mp H
            obtain ⟨t243, A110, H⟩ := H
            replace H : ((figureheadref01_Strip.f kj2 t243).bind fun t244 => (some t244)) = some r := H
            have A11 := Aside0.mk A110
            clear A110
            replace H := Option.bind_eq_some_iff.mp H
            obtain ⟨t244, A120, H⟩ := H
            replace H : (some t244) = some r := H
            have A12 := Aside0.mk A120
            clear A120
            obtain rfl := Option.some.inj H
            obtain ⟨Ao13, co13, eo13⟩ := Kd.R_slice HO_5.out
            subst eo13
            go_wp2_with (first | ((with_reducible refine gate_callee (f := 65) rfl ?_); refine goesL_ (some 44) rfl rfl Tryd.func65 (by kernel_rfl) rfl #[.slice Ao13 x5_1.length co13] rfl (by (try simp only [List.map_toArray]); (try simp only [List.map_cons]); (try simp only [List.map_nil]); first | done | rfl | (simp only [List.length_drop, List.length_take]; rfl)) ?_; (with_reducible refine (figureheadref01_turned.calls kj2 _ _ x5_1 t243 _ ?side1 ?side2 A11.out).mono ?_); (case side1 => repeat (first | exact (Kd.R_reads' HO_5.out).2.2 | (with_reducible refine Kd.C_alloc ?_ _) | (with_reducible refine Kd.C_drewN ?_ _) | (with_reducible refine Kd.C_drew ?_))); (case side2 => exact (Kd.R_reads' HO_5.out).2.1); rintro e w14 ⟨rfl, hb⟩; refine ⟨_, rfl, ?_⟩; have n0_ := Aside0.mk (Kd.R_below (by (with_reducible repeat (first | apply Kd.R_alloc | apply Kd.R_drewN | apply Kd.R_drew)); exact HO_5.out) hb); have n1_ := Aside0.mk (below_step (by repeat (first | (with_reducible first | exact HB.out | apply below_alloc | apply pw_below_drewN | apply below_drew1) | exact HB.out)) hb); clear HO_5; clear HB; have HO_5 := n0_; have HB := n1_; clear n0_ n1_; (try clear hb); (try clear hb2); (try clear hk); (try clear hi)) | ((with_reducible refine gate_callee (f := 38) rfl ?_); refine goesL_ (some 45) rfl rfl Tryd.func38 (by kernel_rfl) rfl #[.string t243] rfl (by (try simp only [List.map_toArray]); (try simp only [List.map_cons]); (try simp only [List.map_nil]); first | done | rfl | (simp only [List.length_drop, List.length_take]; rfl)) ?_; (with_reducible refine (figureheadref01_Strip.calls kj2 t243 t244 _ A12.out).mono ?_); rintro e w' ⟨rfl, ⟨nd, rfl⟩⟩; refine ⟨_, rfl, ?_⟩))
            go_ret
            exact ⟨by first | rfl | (simp [errW_none, errW_some] <;> rfl) | (simp [*, errW_none, errW_some] <;> rfl), by repeat (first | (with_reducible first | exact HB.out | apply below_alloc | apply pw_below_drewN | apply below_drew1) | exact HB.out)⟩
end Go.Proofs.YtjpokifkbclkiaaDoor.Px
end
section
namespace Go.Proofs.YtjpokifkbclkiaaDoor.Px
open Fig Go.RowKit Go.Proofs.YtjpokifkbclkiaaDoorW.PrintWords Go.Proofs.YtjpokifkbclkiaaDoorW.PrintLast Go.Proofs.YtjpokifkbclkiaaDoorW.PrintMore
attribute [local go_sem] max2_int min2_int max_two min_two max_three min_three max_four min_four   -- for this text's walks alone
attribute [local go_sem] fieldA23_0 fieldA23_1 fieldA23_2
theorem dg_zero {s : ByteArray} {k : Nat} (h : s.size ≤ k) : dg s k = 0 := by unfold dg; rw [List.getElem?_eq_none (by rw [rs_len]; omega)]
theorem add_step (p q c : Nat) (hp : p ≤ 9) (hq : q ≤ 9) (hc : c ≤ 1) : wrap64 (wrap64 ((p : Int) + (q : Int)) + (c : Int)) = ((p + q + c : Nat) : Int) := by
  rw [w64 (x := (p : Int) + (q : Int)) (by omega) (by omega), w64 (by omega) (by omega)]; omega
theorem code_mod (n : Nat) (h : n ≤ 1000000000000000000) : (wrap64 (48 + Int.tmod (n : Int) 10)) % 256 = ((48 + n % 10 : Nat) : Int) := by
  rw [Int.tmod_eq_emod_of_nonneg (by omega), w64 (by omega) (by omega)]; omega
theorem code_div (n : Nat) (h : n ≤ 1000000000000000000) : wrap64 (Int.tdiv (n : Int) 10) = ((n / 10 : Nat) : Int) := by
  rw [Int.tdiv_eq_ediv_of_nonneg (by omega), w64 (by omega) (by omega)]; omega
theorem plus_sum (p q c X Y : Nat) : c + (p + 10 * X) + (q + 10 * Y) = (p + q + c) % 10 + 10 * ((p + q + c) / 10 + X + Y) := by omega
theorem Plus_loop (a b : ByteArray) (ha : dB a = true) (hb : dB b = true) (m : Nat) (la : a.size ≤ m) (lb : b.size ≤ m) (hm : m ≤ 100000000000) : ∀ (d k : Nat) (x : List Int) (c : Nat), m + 1 - k = d → k ≤ m + 1 → (k = m + 1 → c = 0) → c ≤ 1 → x.length = k → digL (ob x) = true →
    Ev (fun j => figureheadref01_Plus.l0 j a b x (c : Int) (k : Int)) (digB (rv (ob x) + 10 ^ k * (c + rv ((rs a).drop k) + rv ((rs b).drop k)))) := by
  intro d
  induction d with
  | zero =>
    intro k x c h1 h2 h3 hc hx hd
    obtain rfl := h3 (by omega)
    refine evIs (Ev.step (f := fun j => (figureheadref01_Plus.j1 j a b x ((0 : Nat) : Int) (k : Int) false)) (fun j => ?_) (Ev.step (fun j => ?_) (turnedStrip_ev (by omega) hd))) ?_
    · simp only [figureheadref01_Plus.l0]; rw [if_neg (by omega), if_neg (by omega), show decide (((0 : Nat) : Int) > 0) = false from rfl]
    · simp only [figureheadref01_Plus.j1]; rw [if_neg (by simp)]
    · rw [rv_rest_end (by omega), rv_rest_end (by omega)]; simp
  | succ d ih =>
    intro k x c h1 h2 h3 hc hx hd
    by_cases hgo : k < a.size ∨ k < b.size ∨ 0 < c
    · have da := dg_le ha k
      have db := dg_le hb k
      have hj : ∀ j, figureheadref01_Plus.l0 (j + 1) a b x (c : Int) (k : Int) = figureheadref01_Plus.j1 j a b x (c : Int) (k : Int) true := by
        intro j
        simp only [figureheadref01_Plus.l0]
        by_cases g1 : k < a.size
        · rw [if_pos (by omega)]
        · rw [if_neg (by omega)]
          by_cases g2 : k < b.size
          · rw [if_pos (by omega)]
          · rw [if_neg (by omega), show decide ((c : Int) > 0) = true by rw [decide_eq_true_eq]; omega]
      have h10 : k = m → dg a k = 0 ∧ dg b k = 0 := fun e => ⟨dg_zero (by omega), dg_zero (by omega)⟩
      have hn0 : k = m → (dg a k + dg b k + c) / 10 = 0 := fun e => by have := h10 e; omega
      have hn1 : (dg a k + dg b k + c) / 10 ≤ 1 := by omega
      obtain ⟨o1, o2⟩ := ob_snoc x (c := (dg a k + dg b k + c) % 10) (by omega) hd
      refine Ev.step hj (Ev.step (f := fun j => figureheadref01_Plus.l0 j a b (x ++ [((48 + (dg a k + dg b k + c) % 10 : Nat) : Int)]) (((dg a k + dg b k + c) / 10 : Nat) : Int) ((k + 1 : Nat) : Int)) (fun j => ?_) ?_)
      · simp only [figureheadref01_Plus.j1, if_true]
        rw [digit_eq ha (by omega) (by omega), digit_eq hb (by omega) (by omega)]
        simp only [Option.bind_some]
        rw [if_pos (by omega), add_step _ _ _ da db hc, code_mod _ (by omega), code_div _ (by omega), w64 (by omega) (by omega)]; rfl
      · refine evIs (ih (k + 1) _ _ (by omega) (by omega) (fun e => hn0 (by omega)) hn1 (by simp [hx]) o1) ?_
        rw [o2, rv_rest a k, rv_rest b k, hx, Nat.pow_succ, plus_sum, Nat.mul_add (10 ^ k) ((dg a k + dg b k + c) % 10), ← Nat.mul_assoc, Nat.add_assoc]
    · have hc0 : c = 0 := by omega
      subst hc0
      refine evIs (Ev.step (f := fun j => (figureheadref01_Plus.j1 j a b x ((0 : Nat) : Int) (k : Int) false)) (fun j => ?_) (Ev.step (fun j => ?_) (turnedStrip_ev (by omega) hd))) ?_
      · simp only [figureheadref01_Plus.l0]; rw [if_neg (by omega), if_neg (by omega), show decide (((0 : Nat) : Int) > 0) = false from rfl]
      · simp only [figureheadref01_Plus.j1]; rw [if_neg (by simp)]
      · rw [rv_rest_end (by omega), rv_rest_end (by omega)]; simp
theorem Plus_ev {a b : ByteArray} (ha : dB a = true) (hb : dB b = true) (la : a.size ≤ 100000000000) (lb : b.size ≤ 100000000000) : Ev (fun k => figureheadref01_Plus.f k a b) (digB (vB a + vB b)) := by
  refine evIs (Plus_loop a b ha hb (max a.size b.size) (by omega) (by omega) (by omega) _ 0 [] 0 rfl (by omega) (by omega) (by omega) rfl rfl) ?_
  simp [ob, rv, vB, rs]
end Go.Proofs.YtjpokifkbclkiaaDoor.Px
end
section
namespace Go.Proofs.YtjpokifkbclkiaaDoor.Px
open Fig Go.RowKit Go.Proofs.YtjpokifkbclkiaaDoorW.PrintWords Go.Proofs.YtjpokifkbclkiaaDoorW.PrintLast Go.Proofs.YtjpokifkbclkiaaDoorW.PrintMore
attribute [local go_sem] max2_int min2_int max_two min_two max_three min_three max_four min_four   -- for this text's walks alone
attribute [local go_sem] fieldA23_0 fieldA23_1 fieldA23_2
mutual
def figureheadref01_Times.l0 : Nat → ByteArray → ByteArray → List Int → Int → Option (ByteArray)
  | 0, _, _, _, _ => none
  | k + 1, x0, x1, x5, x6 => if x6 < (x0.size : Int) then (figureheadref01_Times.l1 k x0 x1 x5 x6 0) else (figureheadref01_Times.l2 k x5 ([] : List Int) 0 0)
def figureheadref01_Times.l1 : Nat → ByteArray → ByteArray → List Int → Int → Int → Option (ByteArray)
  | 0, _, _, _, _, _ => none
  | k + 1, x0, x1, x5, x6, x7 => if x7 < (x1.size : Int) then (if 0 ≤ (wrap64 (x6 + x7)) then (if (wrap64 (x6 + x7)) < (x5.length : Int) then ((figureheadref01_digit.f x0 x6).bind fun t253 => ((figureheadref01_digit.f x1 x7).bind fun t254 => (figureheadref01_Times.l1 k x0 x1 (x5.set ((wrap64 (x6 + x7)) : Int).toNat (wrap64 ((rd x5 (wrap64 (x6 + x7))) + (wrap64 (t253 * t254))))) x6 (wrap64 (x7 + 1))))) else (none)) else (none)) else (figureheadref01_Times.l0 k x0 x1 x5 (wrap64 (x6 + 1)))
def figureheadref01_Times.l2 : Nat → List Int → List Int → Int → Int → Option (ByteArray)
  | 0, _, _, _, _ => none
  | k + 1, x5, x8, x9, x10 => if x10 < (x5.length : Int) then (if 0 ≤ x10 then (if x8.length < 140737488355328 then (figureheadref01_Times.l2 k x5 (x8 ++ [(wrap64 (48 + (Int.tmod (wrap64 ((rd x5 x10) + x9)) 10))) % 256]) (wrap64 (Int.tdiv (wrap64 ((rd x5 x10) + x9)) 10)) (wrap64 (x10 + 1))) else (none)) else (none)) else ((figureheadref01_turned.f k x8).bind fun t260 => ((figureheadref01_Strip.f k t260).bind fun t261 => (some t261)))
end
def figureheadref01_Times.f (k : Nat) (a0 : ByteArray) (a1 : ByteArray) : Option (ByteArray) := if 0 ≤ (wrap64 ((wrap64 ((a0.size : Int) + (a1.size : Int))) + 1)) then (if (wrap64 ((wrap64 ((a0.size : Int) + (a1.size : Int))) + 1) : Int).toNat ≤ 35184372088832 then (figureheadref01_Times.l0 k a0 a1 (List.replicate (wrap64 ((wrap64 ((a0.size : Int) + (a1.size : Int))) + 1) : Int).toNat 0) 0) else (none)) else (none)
theorem figureheadref01_Times.mono_l : ∀ k, (∀ y0 y1 y2 y3, LeO (figureheadref01_Times.l0 k y0 y1 y2 y3) (figureheadref01_Times.l0 (k + 1) y0 y1 y2 y3)) ∧ (∀ y0 y1 y2 y3 y4, LeO (figureheadref01_Times.l1 k y0 y1 y2 y3 y4) (figureheadref01_Times.l1 (k + 1) y0 y1 y2 y3 y4)) ∧ (∀ y0 y1 y2 y3, LeO (figureheadref01_Times.l2 k y0 y1 y2 y3) (figureheadref01_Times.l2 (k + 1) y0 y1 y2 y3))
  | 0 => ⟨fun _ _ _ _ r h => by simp [figureheadref01_Times.l0] at h, fun _ _ _ _ _ r h => by simp [figureheadref01_Times.l1] at h, fun _ _ _ _ r h => by simp [figureheadref01_Times.l2] at h⟩
  | k + 1 => by
    obtain ⟨ih0, ih1, ih2⟩ := figureheadref01_Times.mono_l k
    refine ⟨?_, ?_, ?_⟩
    · intro y0 y1 y2 y3
      unfold figureheadref01_Times.l0
      repeat' first
      | (with_reducible exact ih0 _ _ _ _)
      | (with_reducible exact ih1 _ _ _ _ _)
      | (with_reducible exact ih2 _ _ _ _)
      | (with_reducible exact figureheadref01_Strip.mono _ _)
      | (with_reducible exact figureheadref01_turned.mono _ _)
      | (with_reducible exact LeO.refl _)
      | (with_reducible exact LeO.none _)
      | (with_reducible refine LeO.ite ?_ ?_)
      | (with_reducible refine LeO.bind ?_ (fun _ => ?_))
      | exact ih0 _ _ _ _
      | exact ih1 _ _ _ _ _
      | exact ih2 _ _ _ _
      | exact figureheadref01_Strip.mono _ _
      | exact figureheadref01_turned.mono _ _
      | exact LeO.none _
      | refine LeO.ite ?_ ?_
      | refine LeO.bind ?_ (fun _ => ?_)
    · intro y0 y1 y2 y3 y4
      unfold figureheadref01_Times.l1
      repeat' first
      | (with_reducible exact ih0 _ _ _ _)
      | (with_reducible exact ih1 _ _ _ _ _)
      | (with_reducible exact ih2 _ _ _ _)
      | (with_reducible exact figureheadref01_Strip.mono _ _)
      | (with_reducible exact figureheadref01_turned.mono _ _)
      | (with_reducible exact LeO.refl _)
      | (with_reducible exact LeO.none _)
      | (with_reducible refine LeO.ite ?_ ?_)
      | (with_reducible refine LeO.bind ?_ (fun _ => ?_))
      | exact ih0 _ _ _ _
      | exact ih1 _ _ _ _ _
      | exact ih2 _ _ _ _
      | exact figureheadref01_Strip.mono _ _
      | exact figureheadref01_turned.mono _ _
      | exact LeO.none _
      | refine LeO.ite ?_ ?_
      | refine LeO.bind ?_ (fun _ => ?_)
    · intro y0 y1 y2 y3
      unfold figureheadref01_Times.l2
      repeat' first
      | (with_reducible exact ih0 _ _ _ _)
      | (with_reducible exact ih1 _ _ _ _ _)
      | (with_reducible exact ih2 _ _ _ _)
      | (with_reducible exact figureheadref01_Strip.mono _ _)
      | (with_reducible exact figureheadref01_turned.mono _ _)
      | (with_reducible exact LeO.refl _)
      | (with_reducible exact LeO.none _)
      | (with_reducible refine LeO.ite ?_ ?_)
      | (with_reducible refine LeO.bind ?_ (fun _ => ?_))
      | exact ih0 _ _ _ _
      | exact ih1 _ _ _ _ _
      | exact ih2 _ _ _ _
      | exact figureheadref01_Strip.mono _ _
      | exact figureheadref01_turned.mono _ _
      | exact LeO.none _
      | refine LeO.ite ?_ ?_
      | refine LeO.bind ?_ (fun _ => ?_)
theorem figureheadref01_Times.mono : ∀ a0 a1 k, LeO (figureheadref01_Times.f k a0 a1) (figureheadref01_Times.f (k + 1) a0 a1) := by
  intro a0 a1 k
  obtain ⟨ih0, ih1, ih2⟩ := figureheadref01_Times.mono_l k
  unfold figureheadref01_Times.f
  repeat' first
      | (with_reducible exact ih0 _ _ _ _)
      | (with_reducible exact ih1 _ _ _ _ _)
      | (with_reducible exact ih2 _ _ _ _)
      | (with_reducible exact figureheadref01_Strip.mono _ _)
      | (with_reducible exact figureheadref01_turned.mono _ _)
      | (with_reducible exact LeO.refl _)
      | (with_reducible exact LeO.none _)
      | (with_reducible refine LeO.ite ?_ ?_)
      | (with_reducible refine LeO.bind ?_ (fun _ => ?_))
      | exact ih0 _ _ _ _
      | exact ih1 _ _ _ _ _
      | exact ih2 _ _ _ _
      | exact figureheadref01_Strip.mono _ _
      | exact figureheadref01_turned.mono _ _
      | exact LeO.none _
      | refine LeO.ite ?_ ?_
      | refine LeO.bind ?_ (fun _ => ?_)
def figureheadref01_Times.T8 : Bool × List (List Nat × List Nat) := (true, [([], []), ([], []), ([], []), ([1, 2], [1, 2]), ([], []), ([], []), ([], []), ([5, 6], [5, 6]), ([4, 7], [4, 7]), ([8], [8]), ([], []), ([], []), ([10, 11], [10, 11]), ([], []), ([], []), ([13, 14, 12], [13, 14]), ([12, 15], [12, 15]), ([9, 16], [9, 16]), ([0, 3, 0, 1, 2, 3, 4, 5, 6, 7, 8, 9, 10, 11, 12, 13, 14, 15, 16, 17], [0, 3]), ([18, 17, 15, 0, 1, 2, 3, 4, 5, 6, 7, 8, 9, 10, 11, 12, 13, 14, 15, 16, 17], [17, 18])])
def figureheadref01_Times.B8 : List Nat := [0, 0, 0, 6, 0, 0, 0, 96, 240, 496, 0, 0, 3072, 0, 0, 31744, 64512, 131056, 262143, 524287]
theorem figureheadref01_Times.tab8 : rtab .any (opsOf Tryd.f46 8) = figureheadref01_Times.T8 := by kernel_rfl
theorem figureheadref01_Times.bits8 : waitsOk figureheadref01_Times.T8.2 figureheadref01_Times.B8 = true := by kernel_rfl
set_option maxHeartbeats 8000000 in
set_option maxRecDepth 100000 in
theorem figureheadref01_Times.calls (k : Nat) (a0 : ByteArray) (a1 : ByteArray) (r : ByteArray) (w : World) (h : figureheadref01_Times.f k a0 a1 = some r) :
    Calls Tryd.prog 46 #[.string a0, .string a1] w fun e w' => e = .returned (.string r) ∧ Below w.heap.size w w' := by
  have HB := Aside0.mk (Below.refl w.heap.size w)
  have H : (if 0 ≤ (wrap64 ((wrap64 ((a0.size : Int) + (a1.size : Int))) + 1)) then (if (wrap64 ((wrap64 ((a0.size : Int) + (a1.size : Int))) + 1) : Int).toNat ≤ 35184372088832 then (figureheadref01_Times.l0 k a0 a1 (List.replicate (wrap64 ((wrap64 ((a0.size : Int) + (a1.size : Int))) + 1) : Int).toNat 0) 0) else (none)) else (none)) = some r := h
  clear h
  obtain ⟨ji3, hji3⟩ : ∃ j_ : Int, (wrap64 ((wrap64 ((a0.size : Int) + (a1.size : Int))) + 1)) = j_ := ⟨_, rfl⟩
  replace H : (if 0 ≤ (ji3) then (if (ji3 : Int).toNat ≤ 35184372088832 then (figureheadref01_Times.l0 k a0 a1 (List.replicate (ji3 : Int).toNat 0) 0) else (none)) else (none)) = some r := by first | (rw [hji3] at H; exact H) | (simp only [hji3] at H ⊢; exact H)
  have hji3w : (IntKind.i64.wrap ((wrap64 ((a0.size : Int) + (a1.size : Int))) + 1)) = ji3 := (i64_w _).trans hji3
  by_cases c4 : 0 ≤ (ji3)
  · rw [if_pos c4] at H
    have c4b0 := eq_true c4
    have c4b1 : decide (0 ≤ (ji3)) = true := decide_eq_true c4
    clear c4
    by_cases c5 : (ji3 : Int).toNat ≤ 35184372088832
    · rw [if_pos c5] at H
      have c5b0 := eq_true c5
      have c5b1 : decide ((ji3 : Int).toNat ≤ 35184372088832) = true := decide_eq_true c5
      clear c5
      obtain ⟨y249, hy249⟩ : ∃ y_ : List Int, y_ = (List.replicate (ji3 : Int).toNat 0) := ⟨_, rfl⟩
      replace H : (figureheadref01_Times.l0 k a0 a1 y249 0) = some r := by first | (rw [hy249]; with_reducible exact H) | (have H2_ := (Option.bind_some _ _).symm.trans H; rw [hy249]; with_reducible exact H2_) | (have H2_ := (Option.bind_some _ _).symm.trans H; with_reducible exact H2_) | with_reducible exact H | (rw [hy249]; exact H) | exact H
      have Ny249 := Aside0.mk hy249
      clear hy249
      have H' := Aside0.mk H
      clear H
      go_enter Tryd.func46, Tryd.ntmps46
      go_wp2_with (first | ((with_reducible refine gate_dst (N := 18) rfl ?_); refine Kd.R_make (Kd.int .i64) _ 3 rfl (N := 18) rfl 89 _ _ rfl ji3 rfl rfl Tryd.underlying89 (.int .i64 0) 8 info3 rfl (by decide) (by omega) 0 (ok := fun _ => True) (okp := fun _ => True) rfl (fun _ hk => hk) trivial (of_decide_eq_true (by first | (with_reducible assumption) | assumption)) (Nat.le_trans (Nat.mul_le_mul_right _ (of_decide_eq_true (by first | (with_reducible assumption) | assumption) : ji3.toNat ≤ 35184372088832)) (by omega)) (Below.refl _ _) (Nat.le_refl _) ?_; intro v250 w6 ho7 hb hg_ hnew_; clear hg_ hnew_; (first | rw [← Ny249.out] at ho7 | (simp only [Int.reduceToNat] at ho7; rw [← Ny249.out] at ho7)); have n0_ := Aside0.mk (Kd.R_lower ho7 (below_size (by repeat (first | (with_reducible first | exact HB.out | apply below_alloc | apply pw_below_drewN | apply below_drew1) | exact HB.out)))); have n1_ := Aside0.mk (below_step (by repeat (first | (with_reducible first | exact HB.out | apply below_alloc | apply pw_below_drewN | apply below_drew1) | exact HB.out)) hb); clear HB; have HO251 := n0_; have HB := n1_; clear n0_ n1_; clear hb ho7))
      go_loopg [6] k (fun kq v6 w' => ∃ (x5_1 : List Int) (x6_1 : Int), v6 = .int .i64 x6_1 ∧ Aside0 (figureheadref01_Times.l0 kq a0 a1 x5_1 x6_1 = some r) ∧ Aside0 (kq ≤ k) ∧ Aside0 (Kd.R (Kd.int .i64) 3 w' w.heap.size (fun _ => True) v250 x5_1) ∧ Aside0 (Below w.heap.size w w'))
      case atStart => exact ⟨(y249), (0), (by first | rfl | (simp; done) | (simp [*]; done) | (simp [*, Fig.bne_nil]; done)), H', ⟨Nat.le_refl _⟩, ⟨by (with_reducible repeat (first | apply Kd.R_alloc | apply Kd.R_drewN | apply Kd.R_drew)); exact HO251.out⟩, ⟨by repeat (first | (with_reducible first | exact HB.out | apply below_alloc | apply pw_below_drewN | apply below_drew1) | exact HB.out)⟩⟩
      case round =>
        clear H'
        try clear p2
        try clear c4
        try clear c4b0
        try clear c4b1
        try clear c5
        try clear c5b0
        try clear c5b1
        try clear p6
        obtain ⟨x5_1, x6_1, rfl, HA, HK1, HO_5, HB⟩ := hrel
        cases gk with
        | zero => exact absurd HA.out (by simp [figureheadref01_Times.l0])
        | succ k1 =>
          have H := HA.out
          clear HA
          simp only [figureheadref01_Times.l0] at H
          by_cases c8 : x6_1 < (a0.size : Int)
          · rw [if_pos c8] at H
            have c8b0 : decide (x6_1 < (a0.size : Int)) = true := decide_eq_true c8
            clear c8
            have H' := Aside0.mk H
            clear H
            go_wp2
            go_loopg [7] k1 (fun kq v7 w' => ∃ (x5_2 : List Int) (x7_2 : Int), v7 = .int .i64 x7_2 ∧ Aside0 (figureheadref01_Times.l1 kq a0 a1 x5_2 x6_1 x7_2 = some r) ∧ Aside0 (kq ≤ k1) ∧ Aside0 (Kd.R (Kd.int .i64) 3 w' w.heap.size (fun _ => True) v250 x5_2) ∧ Aside0 (Below w.heap.size w w'))
            case atStart => exact ⟨(x5_1), (0), (by first | rfl | (simp; done) | (simp [*]; done) | (simp [*, Fig.bne_nil]; done)), H', ⟨Nat.le_refl _⟩, ⟨by (with_reducible repeat (first | apply Kd.R_alloc | apply Kd.R_drewN | apply Kd.R_drew)); exact HO_5.out⟩, ⟨by repeat (first | (with_reducible first | exact HB.out | apply below_alloc | apply pw_below_drewN | apply below_drew1) | exact HB.out)⟩⟩
            case round =>
              clear H'
              try clear p2
              try clear c4
              try clear c4b0
              try clear c4b1
              try clear c5
              try clear c5b0
              try clear c5b1
              try clear p6
              try clear c8
              try clear c8b0
              try clear p2
              try clear p6
              obtain ⟨x5_2, x7_2, rfl, HA, HK2, HO_5, HB⟩ := hrel
              cases gk with
              | zero => exact absurd HA.out (by simp [figureheadref01_Times.l1])
              | succ k2 =>
                have H := HA.out
                clear HA
                simp only [figureheadref01_Times.l1] at H
                by_cases c9 : x7_2 < (a1.size : Int)
                · rw [if_pos c9] at H
                  have c9b0 : decide (x7_2 < (a1.size : Int)) = true := decide_eq_true c9
                  clear c9
                  obtain ⟨ji10, hji10⟩ : ∃ j_ : Int, (wrap64 (x6_1 + x7_2)) = j_ := ⟨_, rfl⟩
                  replace H : (if 0 ≤ (ji10) then (if (ji10) < (x5_2.length : Int) then ((figureheadref01_digit.f a0 x6_1).bind fun t253 => ((figureheadref01_digit.f a1 x7_2).bind fun t254 => (figureheadref01_Times.l1 k2 a0 a1 (x5_2.set ((ji10) : Int).toNat (wrap64 ((rd x5_2 (ji10)) + (wrap64 (t253 * t254))))) x6_1 (wrap64 (x7_2 + 1))))) else (none)) else (none)) = some r := by first | (rw [hji10] at H; exact H) | (simp only [hji10] at H ⊢; exact H)
                  have hji10w : (IntKind.i64.wrap (x6_1 + x7_2)) = ji10 := (i64_w _).trans hji10
                  by_cases c11 : 0 ≤ (ji10)
                  · rw [if_pos c11] at H
                    have c11b0 : decide (0 ≤ (ji10)) = true := decide_eq_true c11
                    clear c11
                    by_cases c12 : (ji10) < (x5_2.length : Int)
                    · rw [if_pos c12] at H
                      have c12b0 : decide ((ji10) < (x5_2.length : Int)) = true := decide_eq_true c12
                      clear c12
                      replace H := Option.bind_eq_some_iff.mp H
                      obtain ⟨t253, A130, H⟩ := H
                      replace H : ((figureheadref01_digit.f a1 x7_2).bind fun t254 => (figureheadref01_Times.l1 k2 a0 a1 (x5_2.set ((ji10) : Int).toNat (wrap64 ((rd x5_2 (ji10)) + (wrap64 (t253 * t254))))) x6_1 (wrap64 (x7_2 + 1)))) = some r := H
                      have A13 := Aside0.mk A130
                      clear A130
                      replace H := Option.bind_eq_some_iff.mp H
                      obtain ⟨t254, A140, H⟩ := H
                      replace H : (figureheadref01_Times.l1 k2 a0 a1 (x5_2.set ((ji10) : Int).toNat (wrap64 ((rd x5_2 (ji10)) + (wrap64 (t253 * t254))))) x6_1 (wrap64 (x7_2 + 1))) = some r := H
                      have A14 := Aside0.mk A140
                      clear A140
                      obtain ⟨y255, hy255⟩ : ∃ y_ : List Int, y_ = (x5_2.set ((ji10) : Int).toNat (wrap64 ((rd x5_2 (ji10)) + (wrap64 (t253 * t254))))) := ⟨_, rfl⟩
                      replace H : (figureheadref01_Times.l1 k2 a0 a1 y255 x6_1 (wrap64 (x7_2 + 1))) = some r := by first | (rw [hy255]; with_reducible exact H) | (have H2_ := (Option.bind_some _ _).symm.trans H; rw [hy255]; with_reducible exact H2_) | (have H2_ := (Option.bind_some _ _).symm.trans H; with_reducible exact H2_) | with_reducible exact H | (rw [hy255]; exact H) | exact H
                      have Ny255 := Aside0.mk hy255
                      clear hy255
                      have H' := Aside0.mk H
                      clear H
                      try go_wp2
                      (try (rw [drewN_self wr]; generalize hq_ : World.drewN wr _ = wr; have n0_ : Aside0 (Kd.R (Kd.int .i64) 3 wr w.heap.size (fun _ => True) v250 x5_2) := ⟨by rw [← hq_]; exact (by (with_reducible repeat (first | apply Kd.R_alloc | apply Kd.R_drewN | apply Kd.R_drew)); exact HO_5.out)⟩; have n1_ : Aside0 (Below w.heap.size w wr) := ⟨by rw [← hq_]; exact (by repeat (first | (with_reducible first | exact HB.out | apply below_alloc | apply pw_below_drewN | apply below_drew1) | exact HB.out))⟩; clear HO_5 HB hq_; have HO_5 := n0_; have HB := n1_; clear n0_ n1_))
                      have n0_ := Aside0.mk (Kd.R_drew HO_5.out)
                      have n1_ := Aside0.mk (below_drew1 HB.out)
                      clear HO_5
                      clear HB
                      have HO_5 := n0_
                      have HB := n1_
                      clear n0_ n1_
                      obtain ⟨Ao17, co17, eo17⟩ := Kd.R_slice HO_5.out
                      (first | subst eo17 | (injection eo17 with f1_ f2_ f3_; have f4_ := f1_.symm; have f5_ := f3_.symm; clear f1_ f2_ f3_; subst f4_; subst f5_))
                      have p252 : 0 ≤ ((ji10) : Int) := of_decide_eq_true (by first | (with_reducible assumption) | assumption)
                      have q252 : (ji10) < (x5_2.length : Int) := of_decide_eq_true (by first | (with_reducible assumption) | assumption)
                      obtain ⟨ad252, e252, hx252_0⟩ := Kd.at_int (Kd.R_reads' HO_5.out).2.2 (ji10) p252 q252
                      cases e252
                      replace p252 := eq_true p252
                      replace q252 := eq_true q252
                      refine start_ (n := 20) (S := fun w' => w'.cell? (ad252.add ((ji10)).toNat) = some (.int .i64 (rd x5_2 (ji10)))) (ds := [19]) #[false, false, false, false, false, false, false, false, false, false, false, false, false, false, false, false, false, false, false, false] (by kernel_rfl) rfl rfl (hx252_0) (fun hHeld => ?_); refine with_tabW figureheadref01_Times.tab8 figureheadref01_Times.bits8 (fun HT_ HW_ => ?_)
                      generalize wr.drew = w16 at HO_5 HB hx252_0 hHeld ⊢
                      refine pure_ (i := 0) (N := some 31) (v := ?_) (a' := ?_) #[true, false, false, false, false, false, false, false, false, false, false, false, false, false, false, false, false, false, false, false] rfl rfl (any_of HT_.out (by kernel_rfl)) (fun _ _ _ h => h) (Or.inl ⟨by rfl, ?_⟩) ?_ ?_
                      rotate_left
                      · intro w'
                        go_simp
                        with_reducible rfl
                      rotate_left
                      · simp only [Act.put, List.setIfInBounds_toArray, List.set_cons_zero, List.set_cons_succ]; (try simp only [i64_w]); (try simp only [i32_w])
                        rfl
                      refine pure_ (i := 1) (N := some 32) (v := ?_) (a' := ?_) #[true, true, false, false, false, false, false, false, false, false, false, false, false, false, false, false, false, false, false, false] rfl rfl (any_of HT_.out (by kernel_rfl)) (fun _ _ _ h => h) (Or.inl ⟨by rfl, ?_⟩) ?_ ?_
                      rotate_left
                      · intro w'
                        go_simp
                        with_reducible rfl
                      rotate_left
                      · simp only [Act.put, List.setIfInBounds_toArray, List.set_cons_zero, List.set_cons_succ]; (try simp only [i64_w]); (try simp only [i32_w])
                        rfl
                      refine pure_ (i := 2) (N := some 33) (v := ?_) (a' := ?_) #[true, true, true, false, false, false, false, false, false, false, false, false, false, false, false, false, false, false, false, false] rfl rfl (any_of HT_.out (by kernel_rfl)) (fun _ _ _ h => h) (Or.inl ⟨by rfl, ?_⟩) ?_ ?_
                      rotate_left
                      · intro w'
                        go_simp
                        with_reducible rfl
                      rotate_left
                      · simp only [Act.put, List.setIfInBounds_toArray, List.set_cons_zero, List.set_cons_succ]; (try simp only [i64_w]); (try simp only [i32_w])
                        rfl
                      refine pure_ (i := 3) (N := some 34) (v := ?_) (a' := ?_) #[true, true, true, true, false, false, false, false, false, false, false, false, false, false, false, false, false, false, false, false] rfl rfl (any_of HT_.out (by kernel_rfl)) (fun _ _ _ h => h) (Or.inl ⟨by rfl, ?_⟩) ?_ ?_
                      rotate_left
                      · intro w'
                        go_simp
                        with_reducible rfl
                      rotate_left
                      · simp only [Act.put, List.setIfInBounds_toArray, List.set_cons_zero, List.set_cons_succ]; (try simp only [i64_w]); (try simp only [i32_w])
                        rfl
                      refine pure_ (i := 4) (N := some 35) (v := ?_) (a' := ?_) #[true, true, true, true, true, false, false, false, false, false, false, false, false, false, false, false, false, false, false, false] rfl rfl (any_of HT_.out (by kernel_rfl)) (fun _ _ _ h => h) (Or.inl ⟨by rfl, ?_⟩) ?_ ?_
                      rotate_left
                      · intro w'
                        go_simp
                        with_reducible rfl
                      rotate_left
                      · simp only [Act.put, List.setIfInBounds_toArray, List.set_cons_zero, List.set_cons_succ]; (try simp only [i64_w]); (try simp only [i32_w])
                        rfl
                      refine pure_ (i := 5) (N := some 36) (v := ?_) (a' := ?_) #[true, true, true, true, true, true, false, false, false, false, false, false, false, false, false, false, false, false, false, false] rfl rfl (any_of HT_.out (by kernel_rfl)) (fun _ _ _ h => h) (Or.inl ⟨by rfl, ?_⟩) ?_ ?_
                      rotate_left
                      · intro w'
                        go_simp
                        with_reducible rfl
                      rotate_left
                      · simp only [Act.put, List.setIfInBounds_toArray, List.set_cons_zero, List.set_cons_succ]; (try simp only [i64_w]); (try simp only [i32_w])
                        rfl
                      refine pure_ (i := 6) (N := some 37) (v := ?_) (a' := ?_) #[true, true, true, true, true, true, true, false, false, false, false, false, false, false, false, false, false, false, false, false] rfl rfl (any_of HT_.out (by kernel_rfl)) (fun _ _ _ h => h) (Or.inl ⟨by rfl, ?_⟩) ?_ ?_
                      rotate_left
                      · intro w'
                        go_simp
                        with_reducible rfl
                      rotate_left
                      · simp only [Act.put, List.setIfInBounds_toArray, List.set_cons_zero, List.set_cons_succ]; (try simp only [i64_w]); (try simp only [i32_w])
                        rfl
                      refine pure_ (i := 7) (N := some 38) (v := ?_) (a' := ?_) #[true, true, true, true, true, true, true, true, false, false, false, false, false, false, false, false, false, false, false, false] rfl rfl (any_of HT_.out (by kernel_rfl)) (fun _ _ _ h => h) (Or.inl ⟨by rfl, ?_⟩) ?_ ?_
                      rotate_left
                      · intro w'
                        go_simp
                        with_reducible rfl
                      rotate_left
                      · simp only [Act.put, List.setIfInBounds_toArray, List.set_cons_zero, List.set_cons_succ]; (try simp only [i64_w]); (try simp only [i32_w])
                        rfl
                      refine pure_ (i := 8) (N := some 39) (v := ?_) (a' := ?_) #[true, true, true, true, true, true, true, true, true, false, false, false, false, false, false, false, false, false, false, false] rfl rfl (any_of HT_.out (by kernel_rfl)) (fun _ _ _ h => h) (Or.inl ⟨by rfl, ?_⟩) ?_ ?_
                      rotate_left
                      · intro w'
                        go_simp
                        with_reducible rfl
                      rotate_left
                      · simp only [Act.put, List.setIfInBounds_toArray, List.set_cons_zero, List.set_cons_succ]; (try simp only [i64_w]); (try simp only [i32_w])
                        rfl
                      refine pure_ (i := 10) (N := some 41) (v := ?_) (a' := ?_) #[true, true, true, true, true, true, true, true, true, false, true, false, false, false, false, false, false, false, false, false] rfl rfl (any_of HT_.out (by kernel_rfl)) (fun _ _ _ h => h) (Or.inl ⟨by rfl, ?_⟩) ?_ ?_
                      rotate_left
                      · intro w'
                        go_simp
                        with_reducible rfl
                      rotate_left
                      · simp only [Act.put, List.setIfInBounds_toArray, List.set_cons_zero, List.set_cons_succ]; (try simp only [i64_w]); (try simp only [i32_w])
                        rfl
                      refine pure_ (i := 11) (N := some 42) (v := ?_) (a' := ?_) #[true, true, true, true, true, true, true, true, true, false, true, true, false, false, false, false, false, false, false, false] rfl rfl (any_of HT_.out (by kernel_rfl)) (fun _ _ _ h => h) (Or.inl ⟨by rfl, ?_⟩) ?_ ?_
                      rotate_left
                      · intro w'
                        go_simp
                        with_reducible rfl
                      rotate_left
                      · simp only [Act.put, List.setIfInBounds_toArray, List.set_cons_zero, List.set_cons_succ]; (try simp only [i64_w]); (try simp only [i32_w])
                        rfl
                      refine pure_ (i := 13) (N := some 44) (v := ?_) (a' := ?_) #[true, true, true, true, true, true, true, true, true, false, true, true, false, true, false, false, false, false, false, false] rfl rfl (any_of HT_.out (by kernel_rfl)) (fun _ _ _ h => h) (Or.inl ⟨by rfl, ?_⟩) ?_ ?_
                      rotate_left
                      · intro w'
                        go_simp
                        with_reducible rfl
                      rotate_left
                      · simp only [Act.put, List.setIfInBounds_toArray, List.set_cons_zero, List.set_cons_succ]; (try simp only [i64_w]); (try simp only [i32_w])
                        rfl
                      refine pure_ (i := 14) (N := some 45) (v := ?_) (a' := ?_) #[true, true, true, true, true, true, true, true, true, false, true, true, false, true, true, false, false, false, false, false] rfl rfl (any_of HT_.out (by kernel_rfl)) (fun _ _ _ h => h) (Or.inl ⟨by rfl, ?_⟩) ?_ ?_
                      rotate_left
                      · intro w'
                        go_simp
                        with_reducible rfl
                      rotate_left
                      · simp only [Act.put, List.setIfInBounds_toArray, List.set_cons_zero, List.set_cons_succ]; (try simp only [i64_w]); (try simp only [i32_w])
                        rfl
                      refine take_ (i := 9) (N := some 40) (v := ?_) (a' := ?_) #[true, true, true, true, true, true, true, true, true, true, true, true, false, true, true, false, false, false, false, false] rfl rfl (take_ofW HT_.out HW_.out (by kernel_rfl)) (fun _ _ _ h => h) (Or.inl ⟨by rfl, ?_⟩) hHeld ?_ ?_
                      rotate_left
                      · intro w' s0
                        go_simp
                        with_reducible rfl
                      rotate_left
                      · simp only [Act.put, List.setIfInBounds_toArray, List.set_cons_zero, List.set_cons_succ]; (try simp only [i64_w]); (try simp only [i32_w])
                        rfl
                      refine one_ (i := 12) (N := some 43) #[true, true, true, true, true, true, true, true, true, true, true, true, true, true, true, false, false, false, false, false] rfl rfl (one_of HT_.out (by kernel_rfl)) (by decide) (fun K hK => ?_)
                      refine goes_ Tryd.func64 (by kernel_rfl) rfl #[.string a0, .int .i64 x6_1] (by rfl) rfl rfl (by (try simp only [List.map_toArray]); (try simp only [List.map_cons]); (try simp only [List.map_nil]); first | done | rfl | (simp only [List.length_drop, List.length_take]; rfl)) ?_
                      with_reducible refine (figureheadref01_digit.calls a0 x6_1 t253 _ A13.out).mono ?_
                      rintro e w' ⟨rfl, ⟨nd, rfl⟩⟩
                      refine ⟨_, rfl, ?_⟩
                      refine hK.out _ _ (hHeld) (fun hHeld => ?_)
                      clear hK K
                      refine norm_ (a' := ?_) ?_ ?_
                      rotate_left
                      · show Act.put _ (some 43) _ = _
                        simp only [Act.put, List.setIfInBounds_toArray, List.set_cons_zero, List.set_cons_succ]; (try simp only [i64_w]); (try simp only [i32_w])
                        rfl
                      refine one_ (i := 15) (N := some 46) #[true, true, true, true, true, true, true, true, true, true, true, true, true, true, true, true, false, false, false, false] rfl rfl (one_of HT_.out (by kernel_rfl)) (by decide) (fun K hK => ?_)
                      refine goes_ Tryd.func64 (by kernel_rfl) rfl #[.string a1, .int .i64 x7_2] (by rfl) rfl rfl (by (try simp only [List.map_toArray]); (try simp only [List.map_cons]); (try simp only [List.map_nil]); first | done | rfl | (simp only [List.length_drop, List.length_take]; rfl)) ?_
                      with_reducible refine (figureheadref01_digit.calls a1 x7_2 t254 _ A14.out).mono ?_
                      rintro e w' ⟨rfl, ⟨nd, rfl⟩⟩
                      refine ⟨_, rfl, ?_⟩
                      have p15 : 0 ≤ ((ji10) : Int) := of_decide_eq_true (by first | (with_reducible assumption) | assumption)
                      have q15 : ((ji10) : Int) < ((x5_2.length : Int) : Int) := of_decide_eq_true (by first | (with_reducible assumption) | assumption)
                      obtain ⟨go15, co15, eo15, gb15, gl15, cl15, HG15⟩ := Kd.R_form HO_5.out (by omega)
                      (first | cases eo15 | (injection eo15 with ea_ en_ ec_; (first | subst ea_ | (injection ea_ with ea_; subst ea_)); subst ec_; clear en_))
                      have GB15 := Aside0.mk gb15
                      have GG15 := Aside0.mk HG15
                      clear gb15 gl15 HG15
                      (first | simp only [add_plain] at hx252_0 | skip)
                      obtain ⟨hx15_0, hf15_0⟩ := Kd.R_celln 0 HO_5.out ((ji10) : Int) p15 q15
                      replace p15 := eq_true p15
                      replace q15 := eq_true q15
                      have HP18 := Kd.R_putn HO_5.out ((ji10) : Int) (wrap64 ((rd x5_2 (ji10)) + (wrap64 (t253 * t254))))
                      rw [← Ny255.out] at HP18
                      have HQ18 := Aside0.mk HP18
                      clear HP18
                      refine hK.out _ _ (hHeld) (fun hHeld => ?_)
                      clear hK K
                      refine norm_ (a' := ?_) ?_ ?_
                      rotate_left
                      · show Act.put _ (some 46) _ = _
                        simp only [Act.put, List.setIfInBounds_toArray, List.set_cons_zero, List.set_cons_succ]; (try simp only [i64_w]); (try simp only [i32_w])
                        rfl
                      refine pure_ (i := 16) (N := some 47) (v := ?_) (a' := ?_) #[true, true, true, true, true, true, true, true, true, true, true, true, true, true, true, true, true, false, false, false] rfl rfl (any_of HT_.out (by kernel_rfl)) (fun _ _ _ h => h) (Or.inl ⟨by rfl, ?_⟩) ?_ ?_
                      rotate_left
                      · intro w'
                        go_simp
                        with_reducible rfl
                      rotate_left
                      · simp only [Act.put, List.setIfInBounds_toArray, List.set_cons_zero, List.set_cons_succ]; (try simp only [i64_w]); (try simp only [i32_w])
                        rfl
                      refine pure_ (i := 17) (N := some 48) (v := ?_) (a' := ?_) #[true, true, true, true, true, true, true, true, true, true, true, true, true, true, true, true, true, true, false, false] rfl rfl (any_of HT_.out (by kernel_rfl)) (fun _ _ _ h => h) (Or.inl ⟨by rfl, ?_⟩) ?_ ?_
                      rotate_left
                      · intro w'
                        go_simp
                        with_reducible rfl
                      rotate_left
                      · simp only [Act.put, List.setIfInBounds_toArray, List.set_cons_zero, List.set_cons_succ]; (try simp only [i64_w]); (try simp only [i32_w])
                        rfl
                      refine pure_ (i := 18) (N := some 49) (v := ?_) (a' := ?_) #[true, true, true, true, true, true, true, true, true, true, true, true, true, true, true, true, true, true, true, false] rfl rfl (any_of HT_.out (by kernel_rfl)) (fun _ _ _ h => h) (Or.inl ⟨by rfl, ?_⟩) ?_ ?_
                      rotate_left
                      · intro w'
                        go_simp
                        with_reducible rfl
                      rotate_left
                      · simp only [Act.put, List.setIfInBounds_toArray, List.set_cons_zero, List.set_cons_succ]; (try simp only [i64_w]); (try simp only [i32_w])
                        rfl
                      refine last_ (i := 19) (N := none) #[true, true, true, true, true, true, true, true, true, true, true, true, true, true, true, true, true, true, true, true] rfl rfl (one_of HT_.out (by kernel_rfl)) (by decide) (fun K hK => ?_)
                      refine skip_ (w1 := ?_) (by rfl) rfl ?_ ?_
                      rotate_left
                      · go_simp
                        rfl
                      refine hK.out _ _ ?_
                      clear hK K
                      refine done_ (done_of HT_.out (by kernel_rfl)) ?_
                      try go_wp2
                      go_roundg k2
                      case measure => have := HK1.out; have := HK2.out; omega
                      case rel => exact ⟨(y255), (wrap64 (x7_2 + 1)), (by first | rfl | (simp; done) | (simp [*]; done) | (simp [*, Fig.bne_nil]; done)), H', ⟨by have := HK1.out; have := HK2.out; omega⟩, ⟨by (with_reducible repeat (first | apply Kd.R_alloc | apply Kd.R_drewN | apply Kd.R_drew)); exact HQ18.out⟩, ⟨by repeat (first | (with_reducible first | exact HB.out | apply below_alloc | apply pw_below_drewN | apply below_drew1 | refine below_set ?_ GB15.out) | exact HB.out)⟩⟩
                    · rw [if_neg c12] at H
                      exact absurd H (by simp)
                  · rw [if_neg c11] at H
                    exact absurd H (by simp)
                · rw [if_neg c9] at H
                  have c9b0 : decide (x7_2 < (a1.size : Int)) = false := decide_eq_false c9
                  clear c9
                  have H' := Aside0.mk H
                  clear H
                  go_wp2
                  go_roundg k2
                  case measure => have := HK1.out; have := HK2.out; omega
                  case rel => exact ⟨(x5_2), (wrap64 (x6_1 + 1)), (by first | rfl | (simp; done) | (simp [*]; done) | (simp [*, Fig.bne_nil]; done)), H', ⟨by have := HK1.out; have := HK2.out; omega⟩, ⟨by (with_reducible repeat (first | apply Kd.R_alloc | apply Kd.R_drewN | apply Kd.R_drew)); exact HO_5.out⟩, ⟨by repeat (first | (with_reducible first | exact HB.out | apply below_alloc | apply pw_below_drewN | apply below_drew1) | exact HB.out)⟩⟩
          · rw [if_neg c8] at H
            have c8b0 : decide (x6_1 < (a0.size : Int)) = false := decide_eq_false c8
            clear c8
            have H' := Aside0.mk H
            clear H
            go_wp2
            go_loopg [8, 9, 10] k1 (fun kq v8 v9 v10 w' => ∃ (x8_2 : List Int) (x9_2 : Int) (x10_2 : Int), v9 = .int .i64 x9_2 ∧ v10 = .int .i64 x10_2 ∧ Aside0 (figureheadref01_Times.l2 kq x5_1 x8_2 x9_2 x10_2 = some r) ∧ Aside0 (kq ≤ k1) ∧ Aside0 (Kd.R (Kd.int .i64) 3 w' w.heap.size (fun _ => True) v250 x5_1) ∧ Aside0 (Kd.R (Kd.int .u8) 5 w' w.heap.size (fun _ => True) v8 x8_2) ∧ Aside0 (Below w.heap.size w w'))
            case atStart => exact ⟨(([] : List Int)), (0), (0), (by first | rfl | (simp; done) | (simp [*]; done) | (simp [*, Fig.bne_nil]; done)), (by first | rfl | (simp; done) | (simp [*]; done) | (simp [*, Fig.bne_nil]; done)), H', ⟨Nat.le_refl _⟩, ⟨by (with_reducible repeat (first | apply Kd.R_alloc | apply Kd.R_drewN | apply Kd.R_drew)); exact HO_5.out⟩, ⟨by first | exact Kd.R_nil _ _ _ _ _ | exact Kd.N_nil _ _ _ _ _ | exact Kd.V_nil _ _ _ _ _ | exact Kd.Q_nil _ _ _ _ _ | exact Kd.S_nil _ _ _ _ _⟩, ⟨by repeat (first | (with_reducible first | exact HB.out | apply below_alloc | apply pw_below_drewN | apply below_drew1) | exact HB.out)⟩⟩
            case round =>
              clear H'
              try clear c1
              try clear p1
              try clear q1
              try clear hx1
              try clear p2
              try clear q2
              try clear hx2
              try clear c4
              try clear c4b0
              try clear c4b1
              try clear c5
              try clear c5b0
              try clear c5b1
              try clear c6
              try clear p6
              try clear c8
              try clear c8b0
              try clear c9
              try clear c9b0
              try clear c11
              try clear c11b0
              try clear c12
              try clear c12b0
              try clear p15
              try clear q15
              try clear hx15
              try clear hf15
              try clear hx15_0
              try clear hx252_0
              try clear p15
              try clear p2
              try clear p252
              try clear p6
              try clear q15
              try clear q252
              obtain ⟨x8_2, x9_2, x10_2, rfl, rfl, HA, HK2, HO_5, HO_8, HB⟩ := hrel
              cases gk with
              | zero => exact absurd HA.out (by simp [figureheadref01_Times.l2])
              | succ k2 =>
                have H := HA.out
                clear HA
                simp only [figureheadref01_Times.l2] at H
                by_cases c19 : x10_2 < (x5_1.length : Int)
                · rw [if_pos c19] at H
                  have c19b0 : decide (x10_2 < (x5_1.length : Int)) = true := decide_eq_true c19
                  clear c19
                  by_cases c20 : 0 ≤ x10_2
                  · rw [if_pos c20] at H
                    have c20b0 : decide (0 ≤ x10_2) = true := decide_eq_true c20
                    clear c20
                    by_cases c21 : x8_2.length < 140737488355328
                    · rw [if_pos c21] at H
                      have LMc21 := Aside0.mk c21
                      clear c21
                      obtain ⟨y257, hy257⟩ : ∃ y_ : List Int, y_ = (x8_2 ++ [(wrap64 (48 + (Int.tmod (wrap64 ((rd x5_1 x10_2) + x9_2)) 10))) % 256]) := ⟨_, rfl⟩
                      replace H : (figureheadref01_Times.l2 k2 x5_1 y257 (wrap64 (Int.tdiv (wrap64 ((rd x5_1 x10_2) + x9_2)) 10)) (wrap64 (x10_2 + 1))) = some r := by first | (rw [hy257]; with_reducible exact H) | (have H2_ := (Option.bind_some _ _).symm.trans H; rw [hy257]; with_reducible exact H2_) | (have H2_ := (Option.bind_some _ _).symm.trans H; with_reducible exact H2_) | with_reducible exact H | (rw [hy257]; exact H) | exact H
                      have Ny257 := Aside0.mk hy257
                      clear hy257
                      have H' := Aside0.mk H
                      clear H
                      obtain ⟨Ao22, co22, eo22⟩ := Kd.R_slice HO_5.out
                      subst eo22
                      have p256 : 0 ≤ (x10_2 : Int) := of_decide_eq_true (by first | (with_reducible assumption) | assumption)
                      have q256 : x10_2 < (x5_1.length : Int) := of_decide_eq_true (by first | (with_reducible assumption) | assumption)
                      obtain ⟨ad256, e256, hx256_0⟩ := Kd.at_int (Kd.R_reads' HO_5.out).2.2 x10_2 p256 q256
                      cases e256
                      replace p256 := eq_true p256
                      replace q256 := eq_true q256
                      go_wp2_with (first | ((with_reducible refine gate_builtin (b := .append) (xs := #[.tmp 62, .tmp 67]) rfl ?_); at_builtin; refine Kd.R_append (Kd.int .u8) (w0 := w) w.heap.size rfl (.tmp 62) (.tmp 67) 75 5 (.int .u8 0) 1 rfl Tryd.underlying75 info5 rfl (by decide) (by omega) u8 x8_2 ((wrap64 (48 + (Int.tmod (wrap64 ((rd x5_1 x10_2) + x9_2)) 10))) % 256) [.int .u8 ((wrap64 (48 + (Int.tmod (wrap64 ((rd x5_1 x10_2) + x9_2)) 10))) % 256)] (fun _ => True) (fun _ => False) rfl rfl ?aP (fun _ hk => hk.elim) ?aF ?aO ?aB ?aS ?aL ?_; (case aP => exact rfl); (case aB => exact (by repeat (first | (with_reducible first | exact HB.out | apply below_alloc | apply pw_below_drewN | apply below_drew1) | exact HB.out))); (case aF => exact (fun _ _ => trivial)); (case aO => exact (by (with_reducible repeat (first | apply Kd.R_alloc | apply Kd.R_drewN | apply Kd.R_drew)); exact HO_8.out)); (case aS => exact (below_size (by repeat (first | (with_reducible first | exact HB.out | apply below_alloc | apply pw_below_drewN | apply below_drew1) | exact HB.out)))); (case aL => have := LMc21.out; omega); intro v258 w23 ho hb hg hat; rw [← Ny257.out] at ho; have n0_ := Aside0.mk (Kd.R_over' (by (with_reducible repeat (first | apply Kd.R_alloc | apply Kd.R_drewN | apply Kd.R_drew)); exact HO_5.out) (Kd.R_typed (by (with_reducible repeat (first | apply Kd.R_alloc | apply Kd.R_drewN | apply Kd.R_drew)); exact HO_8.out)) (by decide) hg); have n1_ := Aside0.mk (hb); have n2_ := Aside0.mk (ho); clear HO_5; clear HB; clear HO_8; have HO_5 := n0_; have HB := n1_; have HO259 := n2_; clear n0_ n1_ n2_; clear ho hb hg hat))
                      go_roundg k2
                      case measure => have := HK1.out; have := HK2.out; omega
                      case rel => exact ⟨(y257), (wrap64 (Int.tdiv (wrap64 ((rd x5_1 x10_2) + x9_2)) 10)), (wrap64 (x10_2 + 1)), (by first | rfl | (simp; done) | (simp [*]; done) | (simp [*, Fig.bne_nil]; done)), (by first | rfl | (simp; done) | (simp [*]; done) | (simp [*, Fig.bne_nil]; done)), H', ⟨by have := HK1.out; have := HK2.out; omega⟩, ⟨by (with_reducible repeat (first | apply Kd.R_alloc | apply Kd.R_drewN | apply Kd.R_drew)); exact HO_5.out⟩, ⟨by (with_reducible repeat (first | apply Kd.R_alloc | apply Kd.R_drewN | apply Kd.R_drew)); exact HO259.out⟩, ⟨by repeat (first | (with_reducible first | exact HB.out | apply below_alloc | apply pw_below_drewN | apply below_drew1) | exact HB.out)⟩⟩
                    · rw [if_neg c21] at H
                      exact absurd H (by simp)
                  · rw [if_neg c20] at H
                    exact absurd H (by simp)
                · rw [if_neg c19] at H
                  have c19b0 : decide (x10_2 < (x5_1.length : Int)) = false := decide_eq_false c19
                  clear c19
                  replace H := Option.bind_eq_some_iff.mp H
                  obtain ⟨t260, A240, H⟩ := H
                  replace H : ((figureheadref01_Strip.f k2 t260).bind fun t261 => (some t261)) = some r := H
                  have A24 := Aside0.mk A240
                  clear A240
                  replace H := Option.bind_eq_some_iff.mp H
                  obtain ⟨t261, A250, H⟩ := H
                  replace H : (some t261) = some r := H
                  have A25 := Aside0.mk A250
                  clear A250
                  obtain rfl := Option.some.inj H
                  obtain ⟨Ao26, co26, eo26⟩ := Kd.R_slice HO_5.out
                  subst eo26
                  obtain ⟨Ao27, co27, eo27⟩ := Kd.R_slice HO_8.out
                  subst eo27
                  go_wp2_with (first | ((with_reducible refine gate_callee (f := 65) rfl ?_); refine goesL_ (some 72) rfl rfl Tryd.func65 (by kernel_rfl) rfl #[.slice Ao27 x8_2.length co27] rfl (by (try simp only [List.map_toArray]); (try simp only [List.map_cons]); (try simp only [List.map_nil]); first | done | rfl | (simp only [List.length_drop, List.length_take]; rfl)) ?_; (with_reducible refine (figureheadref01_turned.calls k2 _ _ x8_2 t260 _ ?side1 ?side2 A24.out).mono ?_); (case side1 => repeat (first | exact (Kd.R_reads' HO_8.out).2.2 | (with_reducible refine Kd.C_alloc ?_ _) | (with_reducible refine Kd.C_drewN ?_ _) | (with_reducible refine Kd.C_drew ?_))); (case side2 => exact (Kd.R_reads' HO_8.out).2.1); rintro e w28 ⟨rfl, hb⟩; refine ⟨_, rfl, ?_⟩; have n0_ := Aside0.mk (Kd.R_below (by (with_reducible repeat (first | apply Kd.R_alloc | apply Kd.R_drewN | apply Kd.R_drew)); exact HO_5.out) hb); have n1_ := Aside0.mk (Kd.R_below (by (with_reducible repeat (first | apply Kd.R_alloc | apply Kd.R_drewN | apply Kd.R_drew)); exact HO_8.out) hb); have n2_ := Aside0.mk (below_step (by repeat (first | (with_reducible first | exact HB.out | apply below_alloc | apply pw_below_drewN | apply below_drew1) | exact HB.out)) hb); clear HO_5; clear HO_8; clear HB; have HO_5 := n0_; have HO_8 := n1_; have HB := n2_; clear n0_ n1_ n2_; (try clear hb); (try clear hb2); (try clear hk); (try clear hi)) | ((with_reducible refine gate_callee (f := 38) rfl ?_); refine goesL_ (some 73) rfl rfl Tryd.func38 (by kernel_rfl) rfl #[.string t260] rfl (by (try simp only [List.map_toArray]); (try simp only [List.map_cons]); (try simp only [List.map_nil]); first | done | rfl | (simp only [List.length_drop, List.length_take]; rfl)) ?_; (with_reducible refine (figureheadref01_Strip.calls k2 t260 t261 _ A25.out).mono ?_); rintro e w' ⟨rfl, ⟨nd, rfl⟩⟩; refine ⟨_, rfl, ?_⟩))
                  go_ret
                  exact ⟨by first | rfl | (simp [errW_none, errW_some] <;> rfl) | (simp only [← hji3]; first | rfl | (simp [errW_none, errW_some] <;> rfl)) | (simp [*, errW_none, errW_some] <;> rfl), by repeat (first | (with_reducible first | exact HB.out | apply below_alloc | apply pw_below_drewN | apply below_drew1) | exact HB.out)⟩
    · rw [if_neg c5] at H
      exact absurd H (by simp)
  · rw [if_neg c4] at H
    exact absurd H (by simp)
end Go.Proofs.YtjpokifkbclkiaaDoor.Px
end
section
namespace Go.Proofs.YtjpokifkbclkiaaDoor.Px
open Fig Go.RowKit Go.Proofs.YtjpokifkbclkiaaDoorW.PrintWords Go.Proofs.YtjpokifkbclkiaaDoorW.PrintLast Go.Proofs.YtjpokifkbclkiaaDoorW.PrintMore
attribute [local go_sem] max2_int min2_int max_two min_two max_three min_three max_four min_four   -- for this text's walks alone
attribute [local go_sem] fieldA23_0 fieldA23_1 fieldA23_2
def va : List Int → Nat
  | [] => 0
  | x :: l => x.toNat + 10 * va l
end Go.Proofs.YtjpokifkbclkiaaDoor.Px
end
section
namespace Go.Proofs.YtjpokifkbclkiaaDoor.Px
open Fig Go.RowKit Go.Proofs.YtjpokifkbclkiaaDoorW.PrintWords Go.Proofs.YtjpokifkbclkiaaDoorW.PrintLast Go.Proofs.YtjpokifkbclkiaaDoorW.PrintMore
attribute [local go_sem] max2_int min2_int max_two min_two max_three min_three max_four min_four   -- for this text's walks alone
attribute [local go_sem] fieldA23_0 fieldA23_1 fieldA23_2
theorem small_len (p : Nat) (hp : p ≤ 1000000) : wrap64 ((p : Int) + 2) = ((p + 2 : Nat) : Int) := by rw [w64 (by omega) (by omega)]; omega
theorem Small_ev {a : List Int} {y m : Nat} (ga : goodL a = true) (la : a.length ≤ 1000000) (hy : y < 1000000000) (hm : m < 1000000000) : Ev (fun k => mul_Small.f k a (y : Int) (m : Int)) (limbs (valL a * y + m)) := by
  unfold mul_Small.f
  rw [small_len _ la]
  have c1 : (0 : Int) ≤ ((a.length + 2 : Nat) : Int) := by omega
  have c2 : a.length + 2 ≤ 70368744177664 := by omega
  simp only [Int.toNat_natCast, c1, c2, if_true, Option.bind_some]
  have c3 : (0 : Int) < (((List.replicate (a.length + 2) (0 : Int)).length : Nat) : Int) := by simp; omega
  simp only [c3, if_true]
  have e1 : (List.replicate (a.length + 2) (0 : Int)).set (0 : Int).toNat (m : Int) = (m : Int) :: List.replicate (a.length + 1) 0 := by rw [List.replicate_succ]; rfl
  rw [e1]
  have g1 : goodL ((m : Int) :: List.replicate (a.length + 1) 0) = true := goodL_cons.2 ⟨by omega, goodL_replicate _⟩
  have v1 : valL ((m : Int) :: List.replicate (a.length + 1) 0) = m := by simp [valL, valL_replicate]
  have l1 : ((m : Int) :: List.replicate (a.length + 1) 0).length = a.length + 2 := by simp
  have hlt : valL ((m : Int) :: List.replicate (a.length + 1) 0) + 1000000000 ^ 0 * (valL a * y) < 1000000000 ^ ((m : Int) :: List.replicate (a.length + 1) 0).length := by
    rw [v1, l1, Nat.pow_zero, Nat.one_mul]
    have va := valL_lt ga
    have h3 : valL a * y ≤ 1000000000 ^ a.length * 999999999 := Nat.mul_le_mul (by omega) (by omega)
    have h4 : 1000000000 ^ (a.length + 2) = 1000000000 ^ a.length * 1000000000 * 1000000000 := by rw [Nat.pow_succ, Nat.pow_succ]
    have h5 : 1 ≤ 1000000000 ^ a.length := Nat.one_le_pow _ _ (by omega)
    omega
  obtain ⟨r, hr, g2, g3, g4⟩ := row_ev (p := 0) g1 ga hy (by rw [l1]; omega) (by rw [l1]; omega) hlt
  refine Ev.bind hr ?_
  simp only [nat_Trim.f]
  rw [trimF_eq g2 (by rw [g3, l1]; omega)]
  refine evIs (Ev.now _) ?_
  rw [g4, v1, Nat.pow_zero, Nat.one_mul, Nat.add_comm]
end Go.Proofs.YtjpokifkbclkiaaDoor.Px
end
section
namespace Go.Proofs.YtjpokifkbclkiaaDoor.Px
open Fig Go.RowKit Go.Proofs.YtjpokifkbclkiaaDoorW.PrintWords Go.Proofs.YtjpokifkbclkiaaDoorW.PrintLast Go.Proofs.YtjpokifkbclkiaaDoorW.PrintMore
attribute [local go_sem] max2_int min2_int max_two min_two max_three min_three max_four min_four   -- for this text's walks alone
attribute [local go_sem] fieldA23_0 fieldA23_1 fieldA23_2
set_option maxRecDepth 100000
def ten_Shift.f (l0 : List Int) (a1 : Int) : Option (List Int) := if goodL l0 = true ∧ l0.length ≤ 500000 ∧ a1 ≤ 1000000 then some (limbs (valL l0 * 10 ^ a1.toNat)) else none
theorem R_made (W : World) (base m : Nat) (e : TypeId) (hb : base ≤ W.heap.size) (hm : m ≤ 281474976710656) : Kd.R (Kd.int .u32) e (W.alloc (.cells (madeCells #[.int .u32 0] m) e)) base (fun _ => True) (.slice (some ⟨W.heap.size, 0, none⟩) m m) (List.replicate m 0) := by
  rw [← Nat.mul_one m, show #[Value.int .u32 0] = (Value.int .u32 0).cells from rfl, Nat.mul_one]
  refine ⟨fun _ _ => trivial, (madeCells (Value.int .u32 0).cells (m * 1)).toList, ⟨?_, .inr ⟨W.heap.size, m, _, ?_, hb, by simpa using heap_alloc_new W _, ?_, ?_, ?_, ?_⟩⟩, Kd.reps_made (z := .int .u32 0) (size := 1) (z0 := 0) rfl (by decide) rfl m⟩
  · simp [size_madeCells, show (Kd.int .u32).sz = 1 from rfl]
  · rw [List.length_replicate]
  · rw [List.length_replicate]; exact Nat.le_refl _
  · unfold maxLen; omega
  · simp [size_madeCells, show (Kd.int .u32).sz = 1 from rfl]
  · rw [List.length_replicate, List.take_of_length_le (by simp [size_madeCells, show (Kd.int .u32).sz = 1 from rfl]), Nat.mul_one]
set_option maxHeartbeats 4000000 in
theorem ten_Shift.calls (A0 : Option Addr) (c0 : Nat) (l0 : List Int) (a1 : Int) (r : List Int) (w : World) (hG : Fig.Glob w) (hr0 : Kd.C (Kd.int .u32) w A0 l0.length l0) (hc0 : l0.length ≤ c0) (h : ten_Shift.f l0 a1 = some r) :
    Calls Tryd.prog 35 #[.slice A0 l0.length c0, .int .i64 a1] w fun e w' => ∃ v0_ : Value, e = .returned (v0_) ∧ Kd.R (Kd.int .u32) 50 w' w.heap.size (fun _ => True) v0_ r ∧ Below w.heap.size w w' := by
  unfold ten_Shift.f at h
  by_cases hg : goodL l0 = true ∧ l0.length ≤ 500000 ∧ a1 ≤ 1000000
  · rw [if_pos hg] at h
    obtain rfl := Option.some.inj h
    obtain ⟨g0, z0, z1⟩ := hg
    obtain ⟨m, hm⟩ : ∃ m : Nat, m = a1.toNat := ⟨_, rfl⟩
    rw [← hm]
    by_cases ha : a1 < 0
    · obtain rfl : m = 0 := by omega
      have e0 : IntKind.i64.wrap 0 = 0 := by rw [IntKind.wrap_i64]; rfl
      have HR0 := Aside0.mk hr0
      have HC0 := Aside0.mk hc0
      have HG := Aside0.mk hG
      have G0 := Aside0.mk g0
      have hcell := hG.pows 0 (by omega)
      have HT := Aside0.mk (trimF_eq g0 (by omega))
      have hlt : (limbs (valL l0)).length ≤ l0.length := limbs_len_le (valL_lt g0)
      clear hr0 hc0 hG g0 h hm
      go_enter Tryd.func35, Tryd.ntmps35
      go_wp2_with (first
        | (go_at_call 58; (with_reducible refine (nat_Trim.calls A0 c0 l0 (limbs (valL l0)) _ ?side1 ?side2 ?side3).mono ?_); (case side3 => exact HT.out); (case side1 => exact HR0.out); (case side2 => exact HC0.out); rintro e w1 ⟨v0, rfl, ho, hb⟩; obtain ⟨A1, c1, rfl⟩ := Kd.R_slice ho; have HO := Aside0.mk ho; have HB := Aside0.mk hb; clear ho hb))
      · rename_i hz
        have hz0 : limbs (valL l0) = [] := List.eq_nil_of_length_eq_zero (by simpa using hz)
        have hv : valL l0 = 0 := by have := limbs_val (valL l0); rw [hz0] at this; exact this.symm
        go_ret
        refine ⟨_, rfl, ?_, HB.out⟩
        rw [hv, Nat.zero_mul, limbs_zero]
        exact Kd.R_nil _ _ _ _ _
      · skip
        have hc1 : w1.cell? ⟨0, 0, none⟩ = some (.int .u32 (([1, 10, 100, 1000, 10000, 100000, 1000000, 10000000, 100000000] : List Int).getD 0 0)) := (HB.out.cell (World.block_lt_of_cell? w _ hcell)).trans hcell
        obtain ⟨p, hp⟩ : ∃ p : Nat, p = 10 ^ 0 := ⟨_, rfl⟩
        have hpp : ([1, 10, 100, 1000, 10000, 100000, 1000000, 10000000, 100000000] : List Int).getD 0 0 = (p : Int) := by rw [hp]; rfl
        rw [hpp] at hc1
        rw [hpp] at hcell
        have HCW := Aside0.mk hcell
        have hc2 : ∀ o : Obj, (w1.alloc o).cell? ⟨0, 0, none⟩ = some (.int .u32 (p : Int)) := fun o => (World.cell?_alloc_lt _ _ _ (World.block_lt_of_cell? _ _ hc1)).trans hc1
        obtain ⟨i0, hi0, hi1⟩ := info_parts info50
        have hmk : ∀ W : World, (Instr.makeSlice 44 (.int .i64 0) (.int .i64 0)).run Tryd.prog W = .ok (.slice (some ⟨W.heap.size, 0, none⟩) 0 0) (W.alloc (.cells (madeCells (Value.int .u32 0).cells (0 * 1)) 50)) := fun W => by
          have := run_make (P := Tryd.prog) W 44 50 i0 (.int .u32 0) Tryd.underlying44 hi0 hi1.1 .i64 .i64 0 0 (by omega) (by omega) (by rw [hi1.2.2]; omega) (by omega)
          rw [hi1.2.1] at this; exact this
        have HPP := Aside0.mk hp
        clear hpp hp hcell
        obtain ⟨y, hy⟩ : ∃ y, y = List.replicate 0 0 ++ limbs (valL l0) := ⟨_, rfl⟩
        have HY := Aside0.mk hy
        have hyl : y.length ≤ 1000000 := by rw [hy, List.length_append, List.length_replicate]; omega
        have hyg : goodL y = true := by rw [hy]; exact goodL_append.2 ⟨goodL_replicate 0, limbs_good _⟩
        have hyv : valL y = 1000000000 ^ 0 * valL l0 := by rw [hy, valL_append, valL_replicate, List.length_replicate, limbs_val, Nat.zero_add]
        have hp9 : p < 1000000000 := by rw [HPP.out]; exact Nat.lt_of_lt_of_le (Nat.pow_lt_pow_right (by decide) (show 0 < 9 by decide)) (by decide)
        obtain ⟨k, hk⟩ := Ev.rounds (Small_ev (m := 0) hyg hyl hp9 (by decide))
        have HK := Aside0.mk hk
        have HL := Aside0.mk (show ((List.replicate 0 (0 : Int)).length + (limbs (valL l0)).length) * 4 ≤ 140737488355328 by rw [List.length_replicate]; omega)
        have HV := Aside0.mk hyv
        clear hy hyl hyg hyv hk hlt
        go_region_law (first
          | (refine Kd.R_append_rows_step (Kd.int .u32) (w0 := w) w.heap.size (by rfl) (.tmp 14) (.tmp 15) 44 50 (.int .u32 0) 4 rfl Tryd.underlying44 info50 rfl (by decide) (by omega) (.slice (some ⟨w1.heap.size, 0, none⟩) 0 0) (List.replicate 0 0) (limbs (valL l0)) A1 (limbs (valL l0)).length c1 (fun _ => True) (fun _ => False) (by simp [Act.eval]) (by simp [Act.eval]) ?aO ?aR (fun _ _ h => h) (fun _ h => h.elim) (fun _ _ => trivial) ?aB ?aS ?aL ?_
             (case aO => exact Kd.R_drew (R_made w1 w.heap.size 0 50 HB.out.size (by omega)))
             (case aR => exact Kd.C_drew (Kd.C_alloc (Kd.R_reads' HO.out).2.2 _))
             (case aB => exact (HB.out.alloc HB.out.size _).drew)
             (case aS => exact ((HB.out.alloc HB.out.size _).drew (B := w.heap.size)).size)
             (case aL => exact HL.out)
             intro v1 w2 ho2 hb2 hg2 hat2
             rw [← HY.out] at ho2
             obtain ⟨A2, c2, rfl⟩ := Kd.R_slice ho2
             have HO2 := Aside0.mk ho2
             have HB2 := Aside0.mk hb2
             have hc3 := (hb2.cell (World.block_lt_of_cell? w _ HCW.out)).trans HCW.out
             clear ho2 hb2 hg2 hat2)
          | (go_simp
             go_wp2_with (go_at_call 59; (with_reducible refine (mul_Small.calls k A2 c2 y (p : Int) 0 (limbs (valL y * p + 0)) _ ?side1 ?side2 ?side3).mono ?_); (case side1 => exact (Kd.R_reads' HO2.out).2.2); (case side2 => exact (Kd.R_reads' HO2.out).2.1); (case side3 => exact HK.out); rintro e w3 ⟨v3, rfl, ho3, hb3⟩; have HO3 := Aside0.mk ho3; have HB3 := Aside0.mk hb3; clear ho3 hb3)))
        all_goals
          go_wp2
          go_ret
          refine ⟨_, rfl, ?_, HB2.out.trans (HB3.out.mono HB2.out.size)⟩
          have e : limbs (valL l0 * 10 ^ 0) = limbs (valL y * p + 0) := by
            rw [HV.out, HPP.out, Nat.add_zero, pow9, Nat.mul_comm (10 ^ (9 * 0)), Nat.mul_assoc, ← Nat.pow_add]
          rw [e]
          exact Kd.R_lower HO3.out HB2.out.size
    obtain rfl : a1 = (m : Int) := by omega
    have hm6 : m ≤ 1000000 := by omega
    obtain ⟨n9, hn9⟩ : ∃ n9, n9 = m / 9 := ⟨_, rfl⟩
    obtain ⟨q9, hq9⟩ : ∃ q9, q9 = m % 9 := ⟨_, rfl⟩
    have e9 : IntKind.i64.wrap ((m : Int) / 9) = (n9 : Int) := by rw [IntKind.wrap_i64]; omega
    have r9 : (m : Int).tmod 9 = (q9 : Int) := by rw [Int.tmod_eq_emod_of_nonneg (by omega)]; omega
    have hq : q9 < 9 := by omega
    have hn : n9 ≤ 200000 := by omega
    have HN9 := Aside0.mk hn9
    have HQ9 := Aside0.mk hq9
    have HR0 := Aside0.mk hr0
    have HC0 := Aside0.mk hc0
    have HG := Aside0.mk hG
    have G0 := Aside0.mk g0
    have hcell := hG.pows q9 hq
    have HT := Aside0.mk (trimF_eq g0 (by omega))
    have hlt : (limbs (valL l0)).length ≤ l0.length := limbs_len_le (valL_lt g0)
    clear hr0 hc0 hG g0 h hm hn9 hq9
    go_enter Tryd.func35, Tryd.ntmps35
    go_wp2_with (first
      | (go_at_call 58; (with_reducible refine (nat_Trim.calls A0 c0 l0 (limbs (valL l0)) _ ?side1 ?side2 ?side3).mono ?_); (case side3 => exact HT.out); (case side1 => exact HR0.out); (case side2 => exact HC0.out); rintro e w1 ⟨v0, rfl, ho, hb⟩; obtain ⟨A1, c1, rfl⟩ := Kd.R_slice ho; have HO := Aside0.mk ho; have HB := Aside0.mk hb; clear ho hb))
    · rename_i hz
      have hz0 : limbs (valL l0) = [] := List.eq_nil_of_length_eq_zero (by simpa using hz)
      have hv : valL l0 = 0 := by have := limbs_val (valL l0); rw [hz0] at this; exact this.symm
      go_ret
      refine ⟨_, rfl, ?_, HB.out⟩
      rw [hv, Nat.zero_mul, limbs_zero]
      exact Kd.R_nil _ _ _ _ _
    · skip
      have hc1 : w1.cell? ⟨0, q9, none⟩ = some (.int .u32 (([1, 10, 100, 1000, 10000, 100000, 1000000, 10000000, 100000000] : List Int).getD q9 0)) := (HB.out.cell (World.block_lt_of_cell? w _ hcell)).trans hcell
      obtain ⟨p, hp⟩ : ∃ p : Nat, p = 10 ^ q9 := ⟨_, rfl⟩
      have hpp : ([1, 10, 100, 1000, 10000, 100000, 1000000, 10000000, 100000000] : List Int).getD q9 0 = (p : Int) := by
        rw [hp]
        match q9, hq with
        | 0, _ => rfl
        | 1, _ => rfl
        | 2, _ => rfl
        | 3, _ => rfl
        | 4, _ => rfl
        | 5, _ => rfl
        | 6, _ => rfl
        | 7, _ => rfl
        | 8, _ => rfl
        | q + 9, h => exact absurd h (by omega)
      rw [hpp] at hc1
      rw [hpp] at hcell
      have HCW := Aside0.mk hcell
      have hc2 : ∀ o : Obj, (w1.alloc o).cell? ⟨0, q9, none⟩ = some (.int .u32 (p : Int)) := fun o => (World.cell?_alloc_lt _ _ _ (World.block_lt_of_cell? _ _ hc1)).trans hc1
      obtain ⟨i0, hi0, hi1⟩ := info_parts info50
      have hmk : ∀ W : World, (Instr.makeSlice 44 (.int .i64 (n9 : Int)) (.int .i64 (n9 : Int))).run Tryd.prog W = .ok (.slice (some ⟨W.heap.size, 0, none⟩) n9 n9) (W.alloc (.cells (madeCells (Value.int .u32 0).cells (n9 * 1)) 50)) := fun W => by
        have := run_make (P := Tryd.prog) W 44 50 i0 (.int .u32 0) Tryd.underlying44 hi0 hi1.1 .i64 .i64 (n9 : Int) (n9 : Int) (by omega) (by omega) (by rw [hi1.2.2]; omega) (by omega)
        rw [hi1.2.1, Int.toNat_natCast] at this; exact this
      have hd1 : decide ((q9 : Int) < 9) = true := decide_eq_true (by omega)
      have hd2 : ((q9 : Int) < 9) = True := eq_true (by omega)
      have HPP := Aside0.mk hp
      clear hpp hp hcell
      obtain ⟨y, hy⟩ : ∃ y, y = List.replicate n9 0 ++ limbs (valL l0) := ⟨_, rfl⟩
      have HY := Aside0.mk hy
      have hyl : y.length ≤ 1000000 := by rw [hy, List.length_append, List.length_replicate]; omega
      have hyg : goodL y = true := by rw [hy]; exact goodL_append.2 ⟨goodL_replicate n9, limbs_good _⟩
      have hyv : valL y = 1000000000 ^ n9 * valL l0 := by rw [hy, valL_append, valL_replicate, List.length_replicate, limbs_val, Nat.zero_add]
      have hp9 : p < 1000000000 := by rw [HPP.out]; exact Nat.lt_of_lt_of_le (Nat.pow_lt_pow_right (by decide) hq) (by decide)
      obtain ⟨k, hk⟩ := Ev.rounds (Small_ev (m := 0) hyg hyl hp9 (by decide))
      have HK := Aside0.mk hk
      have HL := Aside0.mk (show ((List.replicate n9 (0 : Int)).length + (limbs (valL l0)).length) * 4 ≤ 140737488355328 by rw [List.length_replicate]; omega)
      have HV := Aside0.mk hyv
      clear hy hyl hyg hyv hk hlt
      go_region_law (first
        | (refine Kd.R_append_rows_step (Kd.int .u32) (w0 := w) w.heap.size (by rfl) (.tmp 14) (.tmp 15) 44 50 (.int .u32 0) 4 rfl Tryd.underlying44 info50 rfl (by decide) (by omega) (.slice (some ⟨w1.heap.size, 0, none⟩) n9 n9) (List.replicate n9 0) (limbs (valL l0)) A1 (limbs (valL l0)).length c1 (fun _ => True) (fun _ => False) (by simp [Act.eval]) (by simp [Act.eval]) ?aO ?aR (fun _ _ h => h) (fun _ h => h.elim) (fun _ _ => trivial) ?aB ?aS ?aL ?_
           (case aO => exact Kd.R_drew (R_made w1 w.heap.size n9 50 HB.out.size (by omega)))
           (case aR => exact Kd.C_drew (Kd.C_alloc (Kd.R_reads' HO.out).2.2 _))
           (case aB => exact (HB.out.alloc HB.out.size _).drew)
           (case aS => exact ((HB.out.alloc HB.out.size _).drew (B := w.heap.size)).size)
           (case aL => exact HL.out)
           intro v1 w2 ho2 hb2 hg2 hat2
           rw [← HY.out] at ho2
           obtain ⟨A2, c2, rfl⟩ := Kd.R_slice ho2
           have HO2 := Aside0.mk ho2
           have HB2 := Aside0.mk hb2
           have hc3 := (hb2.cell (World.block_lt_of_cell? w _ HCW.out)).trans HCW.out
           clear ho2 hb2 hg2 hat2)
        | (go_simp
           go_wp2_with (go_at_call 59; (with_reducible refine (mul_Small.calls k A2 c2 y (p : Int) 0 (limbs (valL y * p + 0)) _ ?side1 ?side2 ?side3).mono ?_); (case side1 => exact (Kd.R_reads' HO2.out).2.2); (case side2 => exact (Kd.R_reads' HO2.out).2.1); (case side3 => exact HK.out); rintro e w3 ⟨v3, rfl, ho3, hb3⟩; have HO3 := Aside0.mk ho3; have HB3 := Aside0.mk hb3; clear ho3 hb3)))
      all_goals
        go_wp2
        go_ret
        refine ⟨_, rfl, ?_, HB2.out.trans (HB3.out.mono HB2.out.size)⟩
        have e : limbs (valL l0 * 10 ^ m) = limbs (valL y * p + 0) := by
          rw [HV.out, HPP.out, Nat.add_zero, pow9, Nat.mul_comm (10 ^ (9 * n9)), Nat.mul_assoc, ← Nat.pow_add, HN9.out, HQ9.out, Nat.div_add_mod]
        rw [e]
        exact Kd.R_lower HO3.out HB2.out.size
  · rw [if_neg hg] at h; cases h
end Go.Proofs.YtjpokifkbclkiaaDoor.Px
end
section
namespace Go.Proofs.YtjpokifkbclkiaaDoor.Px
open Fig Go.RowKit Go.Proofs.YtjpokifkbclkiaaDoorW.PrintWords Go.Proofs.YtjpokifkbclkiaaDoorW.PrintLast Go.Proofs.YtjpokifkbclkiaaDoorW.PrintMore
attribute [local go_sem] max2_int min2_int max_two min_two max_three min_three max_four min_four   -- for this text's walks alone
attribute [local go_sem] fieldA23_0 fieldA23_1 fieldA23_2
def div_Small.l0 : Nat → List Int → Int → List Int → Int → Int → Option (List Int × Int × Bool)
  | 0, _, _, _, _, _ => none
  | k + 1, x0, x1, x4, x7, x8 => if x8 ≥ 0 then (if 0 ≤ x8 then (if x8 < (x0.length : Int) then (if (IntKind.u64.wrap (x1)) = 0 then (none) else (if x8 < (x4.length : Int) then (div_Small.l0 k x0 x1 (x4.set (x8 : Int).toNat ((IntKind.u64.wrap (Int.tdiv (IntKind.u64.wrap ((IntKind.u64.wrap (x7 * 1000000000)) + (IntKind.u64.wrap (rd x0 x8)))) (IntKind.u64.wrap (x1)))) % 4294967296)) (Int.tmod (IntKind.u64.wrap ((IntKind.u64.wrap (x7 * 1000000000)) + (IntKind.u64.wrap (rd x0 x8)))) (IntKind.u64.wrap (x1))) (wrap64 (x8 - 1))) else (none))) else (none)) else (none)) else ((nat_Trim.f x4).bind fun t111 => (some (t111, (x7) % 4294967296, true)))
def div_Small.f (k : Nat) (l0 : List Int) (a1 : Int) : Option (List Int × Int × Bool) := if a1 = 0 then (some (([] : List Int), 0, false)) else (if 0 ≤ (l0.length : Int) then (if ((l0.length : Int) : Int).toNat ≤ 70368744177664 then (div_Small.l0 k l0 a1 (List.replicate ((l0.length : Int) : Int).toNat 0) 0 (wrap64 ((l0.length : Int) - 1))) else (none)) else (none))
theorem div_Small.mono_l : ∀ k, (∀ y0 y1 y2 y3 y4, LeO (div_Small.l0 k y0 y1 y2 y3 y4) (div_Small.l0 (k + 1) y0 y1 y2 y3 y4))
  | 0 => fun _ _ _ _ _ r h => by simp [div_Small.l0] at h
  | k + 1 => by
    have ih0 := div_Small.mono_l k
    · intro y0 y1 y2 y3 y4
      unfold div_Small.l0
      repeat' first
      | (with_reducible exact ih0 _ _ _ _ _)
      | (with_reducible exact LeO.refl _)
      | (with_reducible exact LeO.none _)
      | (with_reducible refine LeO.ite ?_ ?_)
      | (with_reducible refine LeO.bind ?_ (fun _ => ?_))
      | exact ih0 _ _ _ _ _
      | exact LeO.none _
      | refine LeO.ite ?_ ?_
      | refine LeO.bind ?_ (fun _ => ?_)
theorem div_Small.mono : ∀ a0 a1 k, LeO (div_Small.f k a0 a1) (div_Small.f (k + 1) a0 a1) := by
  intro a0 a1 k
  have ih0 := div_Small.mono_l k
  unfold div_Small.f
  repeat' first
      | (with_reducible exact ih0 _ _ _ _ _)
      | (with_reducible exact LeO.refl _)
      | (with_reducible exact LeO.none _)
      | (with_reducible refine LeO.ite ?_ ?_)
      | (with_reducible refine LeO.bind ?_ (fun _ => ?_))
      | exact ih0 _ _ _ _ _
      | exact LeO.none _
      | refine LeO.ite ?_ ?_
      | refine LeO.bind ?_ (fun _ => ?_)
set_option maxHeartbeats 8000000 in
set_option maxRecDepth 100000 in
theorem div_Small.calls (k : Nat) (A0 : Option Addr) (c0 : Nat) (l0 : List Int) (a1 : Int) (r1 : List Int) (r2 : Int) (r3 : Bool) (w : World) (hr0 : Kd.C (Kd.int .u32) w A0 l0.length l0) (hc0 : l0.length ≤ c0) (h : div_Small.f k l0 a1 = some (r1, r2, r3)) :
    Calls Tryd.prog 73 #[.slice A0 l0.length c0, .int .u32 a1] w fun e w' => ∃ v0_ : Value, e = .returned (.tuple #[v0_, .int .u32 r2, .bool r3]) ∧ Kd.R (Kd.int .u32) 50 w' w.heap.size (fun _ => True) v0_ r1 ∧ Below w.heap.size w w' := by
  have HR0 := Aside0.mk hr0
  have HC0 := Aside0.mk hc0
  clear hr0 hc0
  have HB := Aside0.mk (Below.refl w.heap.size w)
  have H : (if a1 = 0 then (some (([] : List Int), 0, false)) else (if 0 ≤ (l0.length : Int) then (if ((l0.length : Int) : Int).toNat ≤ 70368744177664 then (div_Small.l0 k l0 a1 (List.replicate ((l0.length : Int) : Int).toNat 0) 0 (wrap64 ((l0.length : Int) - 1))) else (none)) else (none))) = some (r1, r2, r3) := h
  clear h
  by_cases c3 : a1 = 0
  · rw [if_pos c3] at H
    have c3b0 : (a1 == 0) = true := beq_iff_eq.mpr c3
    have c3b1 : (a1 != 0) = false := bne_eq_false_iff_eq.mpr c3
    clear c3
    simp only [Option.some.injEq, Prod.mk.injEq] at H
    obtain ⟨rfl, rfl, rfl⟩ := H
    go_enter Tryd.func73, Tryd.ntmps73
    go_wp2
    go_ret3
    exact ⟨_, by first | rfl | (simp [errW_none, errW_some] <;> rfl) | (simp [*, errW_none, errW_some] <;> rfl), by first | exact Kd.R_nil _ _ _ _ _ | exact Kd.N_nil _ _ _ _ _ | exact Kd.V_nil _ _ _ _ _ | exact Kd.Q_nil _ _ _ _ _ | exact Kd.S_nil _ _ _ _ _, by repeat (first | (with_reducible first | exact HB.out | apply below_alloc | apply pw_below_drewN | apply below_drew1) | exact HB.out)⟩
  · rw [if_neg c3] at H
    have c3b0 : (a1 == 0) = false := beq_eq_false_iff_ne.mpr c3
    have c3b1 : (a1 != 0) = true := bne_iff_ne.mpr c3
    by_cases c4 : 0 ≤ (l0.length : Int)
    · rw [if_pos c4] at H
      have c4b0 := eq_true c4
      have c4b1 : decide (0 ≤ (l0.length : Int)) = true := decide_eq_true c4
      clear c4
      by_cases c5 : ((l0.length : Int) : Int).toNat ≤ 70368744177664
      · rw [if_pos c5] at H
        have c5b0 := eq_true c5
        have c5b1 : decide (((l0.length : Int) : Int).toNat ≤ 70368744177664) = true := decide_eq_true c5
        clear c5
        obtain ⟨y106, hy106⟩ : ∃ y_ : List Int, y_ = (List.replicate ((l0.length : Int) : Int).toNat 0) := ⟨_, rfl⟩
        replace H : (div_Small.l0 k l0 a1 y106 0 (wrap64 ((l0.length : Int) - 1))) = some (r1, r2, r3) := by first | (rw [hy106]; with_reducible exact H) | (have H2_ := (Option.bind_some _ _).symm.trans H; rw [hy106]; with_reducible exact H2_) | (have H2_ := (Option.bind_some _ _).symm.trans H; with_reducible exact H2_) | with_reducible exact H | (rw [hy106]; exact H) | exact H
        have Ny106 := Aside0.mk hy106
        clear hy106
        have H' := Aside0.mk H
        clear H
        go_enter Tryd.func73, Tryd.ntmps73
        go_wp2_with (first | ((with_reducible refine gate_dst (N := 13) rfl ?_); refine Kd.R_make (Kd.int .u32) _ 50 rfl (N := 13) rfl 44 _ _ rfl (l0.length : Int) rfl rfl Tryd.underlying44 (.int .u32 0) 4 info50 rfl (by decide) (by omega) 0 (ok := fun _ => True) (okp := fun _ => True) rfl (fun _ hk => hk) trivial (of_decide_eq_true (by first | (with_reducible assumption) | assumption)) (Nat.le_trans (Nat.mul_le_mul_right _ (of_decide_eq_true (by first | (with_reducible assumption) | assumption) : (l0.length : Int).toNat ≤ 70368744177664)) (by omega)) (Below.refl _ _) (Nat.le_refl _) ?_; intro v107 w6 ho7 hb hg_ hnew_; clear hg_ hnew_; (first | rw [← Ny106.out] at ho7 | (simp only [Int.reduceToNat] at ho7; rw [← Ny106.out] at ho7)); have n0_ := Aside0.mk (Kd.R_lower ho7 (below_size (by repeat (first | (with_reducible first | exact HB.out | apply below_alloc | apply pw_below_drewN | apply below_drew1) | exact HB.out)))); have n1_ := Aside0.mk (below_step (by repeat (first | (with_reducible first | exact HB.out | apply below_alloc | apply pw_below_drewN | apply below_drew1) | exact HB.out)) hb); clear HB; have HO108 := n0_; have HB := n1_; clear n0_ n1_; clear hb ho7))
        go_loopg [7, 8] k (fun kq v7 v8 w' => ∃ (x4_1 : List Int) (x7_1 : Int) (x8_1 : Int), v7 = .int .u64 x7_1 ∧ v8 = .int .i64 x8_1 ∧ Aside0 (div_Small.l0 kq l0 a1 x4_1 x7_1 x8_1 = some (r1, r2, r3)) ∧ Aside0 (kq ≤ k) ∧ Aside0 (Kd.R (Kd.int .u32) 50 w' w.heap.size (fun _ => True) v107 x4_1) ∧ Aside0 (Below w.heap.size w w'))
        case atStart => exact ⟨(y106), (0), (wrap64 ((l0.length : Int) - 1)), (by first | rfl | (simp; done) | (simp [*]; done) | (simp [*, Fig.bne_nil]; done)), (by first | rfl | (simp; done) | (simp [*]; done) | (simp [*, Fig.bne_nil]; done)), H', ⟨Nat.le_refl _⟩, ⟨by (with_reducible repeat (first | apply Kd.R_alloc | apply Kd.R_drewN | apply Kd.R_drew)); exact HO108.out⟩, ⟨by repeat (first | (with_reducible first | exact HB.out | apply below_alloc | apply pw_below_drewN | apply below_drew1) | exact HB.out)⟩⟩
        case round =>
          clear H'
          try clear p2
          try clear c3
          try clear c3b0
          try clear c3b1
          try clear c4
          try clear c4b0
          try clear c4b1
          try clear c5
          try clear c5b0
          try clear c5b1
          try clear p6
          try clear c7
          obtain ⟨x4_1, x7_1, x8_1, rfl, rfl, HA, HK1, HO_4, HB⟩ := hrel
          cases gk with
          | zero => exact absurd HA.out (by simp [div_Small.l0])
          | succ k1 =>
            have H := HA.out
            clear HA
            simp only [div_Small.l0] at H
            by_cases c8 : x8_1 ≥ 0
            · rw [if_pos c8] at H
              have c8b0 : decide (0 ≤ x8_1) = true := decide_eq_true c8
              clear c8
              by_cases c9 : 0 ≤ x8_1
              · rw [if_pos c9] at H
                have c9b0 : decide (0 ≤ x8_1) = true := decide_eq_true c9
                clear c9
                by_cases c10 : x8_1 < (l0.length : Int)
                · rw [if_pos c10] at H
                  have c10b0 : decide (x8_1 < (l0.length : Int)) = true := decide_eq_true c10
                  clear c10
                  by_cases c11 : (IntKind.u64.wrap (a1)) = 0
                  · rw [if_pos c11] at H
                    exact absurd H (by simp)
                  · rw [if_neg c11] at H
                    have c11b0 : ((IntKind.u64.wrap (a1)) == 0) = false := beq_eq_false_iff_ne.mpr c11
                    have c11b1 : ((IntKind.u64.wrap (a1)) != 0) = true := bne_iff_ne.mpr c11
                    by_cases c12 : x8_1 < (x4_1.length : Int)
                    · rw [if_pos c12] at H
                      have c12b0 : decide (x8_1 < (x4_1.length : Int)) = true := decide_eq_true c12
                      clear c12
                      obtain ⟨y110, hy110⟩ : ∃ y_ : List Int, y_ = (x4_1.set (x8_1 : Int).toNat ((IntKind.u64.wrap (Int.tdiv (IntKind.u64.wrap ((IntKind.u64.wrap (x7_1 * 1000000000)) + (IntKind.u64.wrap (rd l0 x8_1)))) (IntKind.u64.wrap (a1)))) % 4294967296)) := ⟨_, rfl⟩
                      replace H : (div_Small.l0 k1 l0 a1 y110 (Int.tmod (IntKind.u64.wrap ((IntKind.u64.wrap (x7_1 * 1000000000)) + (IntKind.u64.wrap (rd l0 x8_1)))) (IntKind.u64.wrap (a1))) (wrap64 (x8_1 - 1))) = some (r1, r2, r3) := by first | (rw [hy110]; with_reducible exact H) | (have H2_ := (Option.bind_some _ _).symm.trans H; rw [hy110]; with_reducible exact H2_) | (have H2_ := (Option.bind_some _ _).symm.trans H; with_reducible exact H2_) | with_reducible exact H | (rw [hy110]; exact H) | exact H
                      have Ny110 := Aside0.mk hy110
                      clear hy110
                      have H' := Aside0.mk H
                      clear H
                      have p109 : 0 ≤ (x8_1 : Int) := of_decide_eq_true (by first | (with_reducible assumption) | assumption)
                      have q109 : x8_1 < (l0.length : Int) := of_decide_eq_true (by first | (with_reducible assumption) | assumption)
                      obtain ⟨ad109, e109, hx109_0⟩ := Kd.at_int HR0.out x8_1 p109 q109
                      cases e109
                      replace hx109_0 := (HB.out.cell (World.block_lt_of_cell? w _ hx109_0)).trans hx109_0
                      replace p109 := eq_true p109
                      replace q109 := eq_true q109
                      have p13 : 0 ≤ (x8_1 : Int) := of_decide_eq_true (by first | (with_reducible assumption) | assumption)
                      have q13 : (x8_1 : Int) < ((x4_1.length : Int) : Int) := of_decide_eq_true (by first | (with_reducible assumption) | assumption)
                      obtain ⟨go13, co13, eo13, gb13, gl13, cl13, HG13⟩ := Kd.R_form HO_4.out (by omega)
                      (first | cases eo13 | (injection eo13 with ea_ en_ ec_; (first | subst ea_ | (injection ea_ with ea_; subst ea_)); subst ec_; clear en_))
                      have GB13 := Aside0.mk gb13
                      have GG13 := Aside0.mk HG13
                      clear gb13 gl13 HG13
                      obtain ⟨hx13_0, hf13_0⟩ := Kd.R_celln 0 HO_4.out (x8_1 : Int) p13 q13
                      replace p13 := eq_true p13
                      replace q13 := eq_true q13
                      have HP14 := Kd.R_putg HO_4.out (x8_1 : Int) ((IntKind.u64.wrap (Int.tdiv (IntKind.u64.wrap ((IntKind.u64.wrap (x7_1 * 1000000000)) + (IntKind.u64.wrap (rd l0 x8_1)))) (IntKind.u64.wrap (a1)))) % 4294967296)
                      go_wp2_with (first | ((with_reducible refine gate_store (t := 50) (p := 36) rfl ?_); refine store_event (t := 50) (p := 36) (v := ?vo_w15) (w1 := (wr.setCell ⟨go13, (x8_1 : Int).toNat, none⟩ (.int .u32 ((IntKind.u64.wrap (Int.tdiv (IntKind.u64.wrap ((IntKind.u64.wrap (x7_1 * 1000000000)) + (IntKind.u64.wrap (rd l0 x8_1)))) (IntKind.u64.wrap (a1)))) % 4294967296)))) ?hg ?ho ?hn ?hr ?_; (case ho => rfl); (case hg => rfl); (case hn => rfl); (case hr => first | (go_simp; done) | (go_simp; rfl)); intro w15 hw; have hg : wr.grownBy w15 (some go13) := (by rw [hw]; exact HP14.2); have hp_ : Kd.R (Kd.int .u32) 50 w15 w.heap.size (fun _ => True) (.slice (some ⟨go13, 0, none⟩) x4_1.length co13) y110 := (by rw [hw, Ny110.out]; exact HP14.1); clear HP14; have n0_ := Aside0.mk (hp_); have n1_ := Aside0.mk ((by rw [hw]; exact below_set (HB.out) GB13.out : Below w.heap.size w w15)); clear HO_4; clear HB; have HO_4 := n0_; have HB := n1_; clear n0_ n1_; clear hg hw hp_))
                      go_roundg k1
                      case measure => have := HK1.out; omega
                      case rel => exact ⟨(y110), (Int.tmod (IntKind.u64.wrap ((IntKind.u64.wrap (x7_1 * 1000000000)) + (IntKind.u64.wrap (rd l0 x8_1)))) (IntKind.u64.wrap (a1))), (wrap64 (x8_1 - 1)), (by first | rfl | (simp; done) | (simp [*]; done) | (simp [*, Fig.bne_nil]; done)), (by first | rfl | (simp; done) | (simp [*]; done) | (simp [*, Fig.bne_nil]; done)), H', ⟨by have := HK1.out; omega⟩, ⟨by (with_reducible repeat (first | apply Kd.R_alloc | apply Kd.R_drewN | apply Kd.R_drew)); exact HO_4.out⟩, ⟨by repeat (first | (with_reducible first | exact HB.out | apply below_alloc | apply pw_below_drewN | apply below_drew1) | exact HB.out)⟩⟩
                    · rw [if_neg c12] at H
                      exact absurd H (by simp)
                · rw [if_neg c10] at H
                  exact absurd H (by simp)
              · rw [if_neg c9] at H
                exact absurd H (by simp)
            · rw [if_neg c8] at H
              have c8b0 : decide (0 ≤ x8_1) = false := decide_eq_false c8
              clear c8
              replace H := Option.bind_eq_some_iff.mp H
              obtain ⟨t111, A160, H⟩ := H
              replace H : (some (t111, (x7_1) % 4294967296, true)) = some (r1, r2, r3) := H
              have A16 := Aside0.mk A160
              clear A160
              simp only [Option.some.injEq, Prod.mk.injEq] at H
              obtain ⟨rfl, rfl, rfl⟩ := H
              obtain ⟨Ao17, co17, eo17⟩ := Kd.R_slice HO_4.out
              subst eo17
              go_wp2_with (first | ((with_reducible refine gate_callee (f := 58) rfl ?_); refine goesL_ (some 42) rfl rfl Tryd.func58 (by kernel_rfl) rfl #[.slice Ao17 x4_1.length co17] rfl (by (try simp only [List.map_toArray]); (try simp only [List.map_cons]); (try simp only [List.map_nil]); first | done | rfl | (simp only [List.length_drop, List.length_take]; rfl)) ?_; (with_reducible refine (nat_Trim.calls _ _ x4_1 t111 _ ?side1 ?side2 A16.out).mono ?_); (case side1 => repeat (first | exact (Kd.R_reads' HO_4.out).2.2 | (with_reducible refine Kd.C_alloc ?_ _) | (with_reducible refine Kd.C_drewN ?_ _) | (with_reducible refine Kd.C_drew ?_))); (case side2 => exact (Kd.R_reads' HO_4.out).2.1); rintro e w18 ⟨v112, rfl, ho0, hb⟩; refine ⟨_, rfl, ?_⟩; have n0_ := Aside0.mk (Kd.R_elder' (by (with_reducible repeat (first | apply Kd.R_alloc | apply Kd.R_drewN | apply Kd.R_drew)); exact HO_4.out) (Kd.R_base ho0) hb); have n1_ := Aside0.mk (Kd.R_lower (Kd.R_new' ho0 (Kd.R_lt (by (with_reducible repeat (first | apply Kd.R_alloc | apply Kd.R_drewN | apply Kd.R_drew)); exact HO_4.out))) (below_size (by repeat (first | (with_reducible first | exact HB.out | apply below_alloc | apply pw_below_drewN | apply below_drew1) | exact HB.out)))); have n2_ := Aside0.mk (below_step (by repeat (first | (with_reducible first | exact HB.out | apply below_alloc | apply pw_below_drewN | apply below_drew1) | exact HB.out)) hb); clear HO_4; clear HB; have HO_4 := n0_; have HO113 := n1_; have HB := n2_; clear n0_ n1_ n2_; (try clear hb); (try clear hb2); (try clear hk); (try clear hi); (try clear ho0)))
              go_ret3
              exact ⟨_, by first | rfl | (simp [errW_none, errW_some] <;> rfl) | (simp [*, errW_none, errW_some] <;> rfl), by (with_reducible repeat (first | apply Kd.R_alloc | apply Kd.R_drewN | apply Kd.R_drew)); exact Kd.R_mono HO113.out (fun _ hk => trivial), by repeat (first | (with_reducible first | exact HB.out | apply below_alloc | apply pw_below_drewN | apply below_drew1) | exact HB.out)⟩
      · rw [if_neg c5] at H
        exact absurd H (by simp)
    · rw [if_neg c4] at H
      exact absurd H (by simp)
end Go.Proofs.YtjpokifkbclkiaaDoor.Px
end
section
namespace Go.Proofs.YtjpokifkbclkiaaDoor.Px
open Fig Go.RowKit Go.Proofs.YtjpokifkbclkiaaDoorW.PrintWords Go.Proofs.YtjpokifkbclkiaaDoorW.PrintLast Go.Proofs.YtjpokifkbclkiaaDoorW.PrintMore
attribute [local go_sem] max2_int min2_int max_two min_two max_three min_three max_four min_four   -- for this text's walks alone
attribute [local go_sem] fieldA23_0 fieldA23_1 fieldA23_2
theorem cast_bd {x : Nat} (h : x < 1000000000) : (0 : Int) ≤ (x : Int) ∧ (x : Int) < 1000000000 := by omega
theorem divs_step (r p y : Nat) (hy0 : 0 < y) (hy : y < 1000000000) (hr : r < y) (hp : p < 1000000000) : IntKind.u64.wrap ((IntKind.u64.wrap ((r : Int) * 1000000000)) + (IntKind.u64.wrap (p : Int))) = ((r * 1000000000 + p : Nat) : Int) := by
  rw [u64w (x := (r : Int) * 1000000000) (by omega) (by omega), u64w (x := (p : Int)) (by omega) (by omega), u64w (by omega) (by omega)]; omega
theorem divs_quo (r p y : Nat) (hy0 : 0 < y) (hy : y < 1000000000) (hr : r < y) (hp : p < 1000000000) : (r * 1000000000 + p) / y < 1000000000 := by
  rw [Nat.div_lt_iff_lt_mul hy0]
  have : (r + 1) * 1000000000 ≤ y * 1000000000 := Nat.mul_le_mul_right _ hr
  rw [Nat.mul_comm]; omega
theorem u64_nat (p : Nat) (hp : p ≤ 18446744073709551615) : IntKind.u64.wrap (p : Int) = (p : Int) := u64w (by omega) (by omega)
theorem divs_low (t y : Nat) (ht : t ≤ 18446744073709551615) (h : t / y < 1000000000) : (IntKind.u64.wrap (Int.tdiv (t : Int) (y : Int))) % 4294967296 = ((t / y : Nat) : Int) := by
  rw [← Int.ofNat_tdiv, u64_nat _ (by have := Nat.div_le_self t y; omega)]; generalize t / y = u at *; omega
theorem divs_mod (t y : Nat) : Int.tmod (t : Int) (y : Int) = ((t % y : Nat) : Int) := (Int.ofNat_tmod t y).symm
theorem drop_set_self : ∀ (q : List Int) (n : Nat) (v : Int), n < q.length → (q.set n v).drop n = v :: q.drop (n + 1)
  | x :: q, 0, v, h => rfl
  | x :: q, n + 1, v, h => by simpa using drop_set_self q n v (by simpa using h)
theorem divs_val (A V y p r X : Nat) (hy : 0 < y) (h : X * y + r = V) : (((r * 1000000000 + p) / y) + 1000000000 * X) * y + (r * 1000000000 + p) % y = p + 1000000000 * V := by
  have := Nat.div_add_mod (r * 1000000000 + p) y
  rw [Nat.add_mul, Nat.mul_assoc, Nat.mul_comm _ y, ← h, Nat.mul_add]; omega
theorem Small_div_loop (a : List Int) (ga : goodL a = true) (la : a.length ≤ 1000000000000) (y : Nat) (hy0 : 0 < y) (hy : y < 1000000000) : ∀ (n : Nat) (q : List Int) (r : Nat), n ≤ a.length → q.length = a.length → goodL q = true → r < y → valL (q.drop n) * y + r = valL (a.drop n) →
    Ev (fun k => div_Small.l0 k a (y : Int) q (r : Int) ((n : Int) - 1)) (limbs (valL a / y), ((valL a % y : Nat) : Int), true)
  | 0, q, r, hn, hq, gq, hr, hv => by
    rw [List.drop_zero, List.drop_zero] at hv
    have e1 : valL q = valL a / y := by rw [← hv, Nat.mul_comm, Nat.mul_add_div hy0, Nat.div_eq_of_lt hr]; rfl
    have e2 : r = valL a % y := by rw [← hv, Nat.mul_comm, Nat.mul_add_mod, Nat.mod_eq_of_lt hr]
    refine evIs (Ev.step (f := fun _ => (nat_Trim.f q).bind fun t => some (t, ((r : Nat) : Int) % 4294967296, true)) (fun k => ?_) (Ev.bind (evSome fun _ => trimF_eq gq (by omega)) (Ev.now _))) ?_
    · simp only [div_Small.l0]; rw [if_neg (by omega)]
    · rw [e1, ← e2]
      have : ((r : Nat) : Int) % 4294967296 = (r : Int) := by omega
      rw [this]
  | n + 1, q, r, hn, hq, gq, hr, hv => by
    have hna : n < a.length := by omega
    have hnq : n < q.length := by omega
    have pa := goodL_iff.1 ga _ (List.getElem_mem hna)
    obtain ⟨p, hp⟩ : ∃ v : Nat, a[n] = (v : Int) := ⟨a[n].toNat, by omega⟩
    have hp9 : p < 1000000000 := by omega
    have hqb := divs_quo r p y hy0 hy hr hp9
    have hmod := Nat.mod_lt (r * 1000000000 + p) hy0
    have ht : r * 1000000000 + p ≤ 18446744073709551615 := by omega
    have ex : (((n + 1 : Nat) : Int) - 1) = (n : Int) := by omega
    refine Ev.step (f := fun k => div_Small.l0 k a (y : Int) (q.set n (((r * 1000000000 + p) / y : Nat) : Int)) (((r * 1000000000 + p) % y : Nat) : Int) ((n : Int) - 1)) (fun k => ?_) (Small_div_loop a ga la y hy0 hy n _ _ (by omega) (by simpa using hq) (goodL_set gq n (cast_bd hqb)) hmod ?_)
    · simp only [ex, div_Small.l0]
      rw [if_pos (by omega), if_pos (by omega), if_pos (by omega), u64_nat y (by omega), if_neg (by omega), if_pos (by omega), rd_get hna, hp, divs_step r p y hy0 hy hr hp9, divs_low _ _ ht hqb, divs_mod, w64 (x := (n : Int) - 1) (by omega) (by omega), Int.toNat_natCast]
    · rw [drop_set_self q n _ hnq, List.drop_eq_getElem_cons hna, hp]
      exact divs_val 0 _ y p r _ hy0 hv
theorem DivSmall_ev {a : List Int} {y : Nat} (ga : goodL a = true) (la : a.length ≤ 1000000000000) (hy0 : 0 < y) (hy : y < 1000000000) : Ev (fun k => div_Small.f k a (y : Int)) (limbs (valL a / y), ((valL a % y : Nat) : Int), true) := by
  have h0 : ¬ (y : Int) = 0 := by omega
  have h1 : (0 : Int) ≤ (a.length : Int) := by omega
  have h2 : a.length ≤ 70368744177664 := by omega
  unfold div_Small.f
  simp only [h0, h1, if_true, if_false, Int.toNat_natCast, h2]
  rw [w64 (by omega) (by omega)]
  refine Small_div_loop a ga la y hy0 hy a.length _ 0 (Nat.le_refl _) (by simp) (goodL_replicate _) hy0 ?_
  rw [List.drop_of_length_le (by simp), List.drop_of_length_le (Nat.le_refl _)]; simp [valL]
end Go.Proofs.YtjpokifkbclkiaaDoor.Px
end
section
namespace Go.Proofs.YtjpokifkbclkiaaDoor.Px
open Fig Go.RowKit Go.Proofs.YtjpokifkbclkiaaDoorW.PrintWords Go.Proofs.YtjpokifkbclkiaaDoorW.PrintLast Go.Proofs.YtjpokifkbclkiaaDoorW.PrintMore
attribute [local go_sem] max2_int min2_int max_two min_two max_three min_three max_four min_four   -- for this text's walks alone
attribute [local go_sem] fieldA23_0 fieldA23_1 fieldA23_2
set_option maxRecDepth 100000
theorem R_lit0 (w : World) : Kd.R (Kd.int .u32) 50 (w.alloc (.cells #[] 50)) w.heap.size (fun _ => True) (.slice (some ⟨w.heap.size, 0, none⟩) 0 0) [] := by
  have := R_made w w.heap.size 0 50 (Nat.le_refl _) (by omega)
  rw [show madeCells #[Value.int .u32 0] 0 = #[] from Array.eq_empty_of_size_eq_zero (size_madeCells _ _)] at this
  exact this
set_option maxHeartbeats 2000000 in
theorem clone_calls (A : Option Addr) (c : Nat) (xs : List Int) (w : World) (hr : Kd.C (Kd.int .u32) w A xs.length xs) (hlen : xs.length ≤ 1000000) :
    Calls Tryd.prog 74 #[.slice A xs.length c] w fun e w' => ∃ v : Value, e = .returned v ∧ Kd.R (Kd.int .u32) 50 w' w.heap.size (fun _ => True) v xs ∧ Below w.heap.size w w' := by
  have HR := Aside0.mk hr
  cases A with
  | none =>
    have h0 : xs = [] := by
      cases xs with
      | nil => rfl
      | cons x xs => exact absurd (hr.2.2 (by simp)) (by rintro ⟨ad, h, _⟩; cases h)
    subst h0
    clear hr
    have hq := fun W => Lib.run_eql_slice_nil (P := Tryd.prog) W 44 50 none 0 c 0 0 Tryd.underlying44
    go_enter Tryd.func74, Tryd.ntmps74
    go_wp2
    go_ret
    exact ⟨_, rfl, Kd.R_nil _ _ _ _ _, Below.refl _ _⟩
  | some ad =>
    have HL := Aside0.mk (show (([] : List Int).length + xs.length) * 4 ≤ 140737488355328 by simp; omega)
    clear hr
    have hq := fun W => Lib.run_eql_slice_nil (P := Tryd.prog) W 44 50 (some ad) xs.length c 0 0 Tryd.underlying44
    go_enter Tryd.func74, Tryd.ntmps74
    go_wp2_with ((with_reducible refine gate_builtin (b := .append) (xs := #[.tmp 5, .tmp 6]) rfl ?_); at_builtin; (refine Kd.R_append_rows (Kd.int .u32) (w0 := w) w.heap.size rfl (.tmp 5) (.tmp 6) 44 50 (.int .u32 0) 4 rfl Tryd.underlying44 info50 rfl (by decide) (by omega) (.slice (some ⟨w.heap.size, 0, none⟩) 0 0) [] xs (some ad) xs.length c (fun _ => True) (fun _ => False) rfl rfl ?aO ?aR (fun _ _ h => h) (fun _ h => h.elim) (fun _ _ => trivial) ?aB ?aS ?aL ?_; (case aO => exact R_lit0 w); (case aR => exact Kd.C_alloc HR.out _); (case aB => exact (Below.refl _ w).alloc (Nat.le_refl _) _); (case aS => exact ((Below.refl w.heap.size w).alloc (Nat.le_refl _) _).size); (case aL => exact HL.out); intro v1 w2 ho2 hb2 hg2 hat2; rw [List.nil_append] at ho2; have HO2 := Aside0.mk ho2; have HB2 := Aside0.mk hb2; clear ho2 hb2 hg2 hat2))
    go_ret
    exact ⟨_, rfl, HO2.out, HB2.out⟩
theorem pow_tab (q p : Nat) (hq : q < 9) (hp : p = 10 ^ q) : ([1, 10, 100, 1000, 10000, 100000, 1000000, 10000000, 100000000] : List Int).getD q 0 = (p : Int) := by
  rw [hp]
  match q, hq with
  | 0, _ => rfl
  | 1, _ => rfl
  | 2, _ => rfl
  | 3, _ => rfl
  | 4, _ => rfl
  | 5, _ => rfl
  | 6, _ => rfl
  | 7, _ => rfl
  | 8, _ => rfl
  | q + 9, h => exact absurd h (by omega)
def ten_Cut.f (l0 : List Int) (a1 : Int) : Option (List Int × List Int) := if goodL l0 = true ∧ l0.length ≤ 500000 ∧ a1 ≤ 1000000 then some (limbs (valL l0 / 10 ^ a1.toNat), limbs (valL l0 % 10 ^ a1.toNat)) else none
set_option maxHeartbeats 4000000 in
theorem ten_Cut.calls (A0 : Option Addr) (c0 : Nat) (l0 : List Int) (a1 : Int) (r1 r2 : List Int) (w : World) (hG : Fig.Glob w) (hr0 : Kd.C (Kd.int .u32) w A0 l0.length l0) (hc0 : l0.length ≤ c0) (h : ten_Cut.f l0 a1 = some (r1, r2)) :
    Calls Tryd.prog 53 #[.slice A0 l0.length c0, .int .i64 a1] w fun e w' => ∃ v0_ v1_ : Value, e = .returned (.tuple #[v0_, v1_]) ∧ Kd.R (Kd.int .u32) 50 w' w.heap.size (fun k_ => some k_ ≠ (v1_ : Value).ownBlock) v0_ r1 ∧ Kd.R (Kd.int .u32) 50 w' w.heap.size (fun k_ => some k_ ≠ (v0_ : Value).ownBlock) v1_ r2 ∧ Below w.heap.size w w' := by
  unfold ten_Cut.f at h
  by_cases hg : goodL l0 = true ∧ l0.length ≤ 500000 ∧ a1 ≤ 1000000
  · rw [if_pos hg] at h
    obtain ⟨rfl, rfl⟩ := Prod.mk.inj (Option.some.inj h)
    obtain ⟨g0, z0, z1⟩ := hg
    obtain ⟨m, hm⟩ : ∃ m : Nat, m = a1.toNat := ⟨_, rfl⟩
    rw [← hm]
    have HR0 := Aside0.mk hr0
    have HC0 := Aside0.mk hc0
    have HG := Aside0.mk hG
    have G0 := Aside0.mk g0
    have HT := Aside0.mk (trimF_eq g0 (by omega))
    by_cases ha : a1 < 0
    · obtain rfl : m = 0 := by omega
      have e0 : IntKind.i64.wrap 0 = 0 := by rw [IntKind.wrap_i64]; rfl
      have hcell := hG.pows 0 (by omega)
      have hle : 0 ≤ l0.length := by omega
      obtain ⟨i0, hi0, hi1, hsz, _⟩ := info_parts info50
      obtain ⟨A1, hdr, hdc, hdl⟩ := print_drop_of (P := Tryd.prog) (Value.int .u32) 0 44 50 .i64 Tryd.underlying44 hi0 hsz A0 c0 l0 0 (by omega) (by omega) hc0
      obtain ⟨htr, htc, htl⟩ := print_take_of (P := Tryd.prog) (Value.int .u32) 0 44 50 .i64 Tryd.underlying44 hi0 hsz A0 c0 l0 0 (by omega) (by omega) hc0
      rw [show (0 : Int).toNat = 0 from rfl] at hdr hdc hdl htr htc htl
      have HCD := Aside0.mk (Kd.C_of_reads (d := (0 : Int)) (h1 := fun _ => rfl) (hdc w (Kd.reads_of_C (enc := Value.int .u32) (d := (0 : Int)) (h1 := fun _ => rfl) hr0)))
      have HCT := Aside0.mk (Kd.C_of_reads (d := (0 : Int)) (h1 := fun _ => rfl) (htc w (Kd.reads_of_C (enc := Value.int .u32) (d := (0 : Int)) (h1 := fun _ => rfl) hr0)))
      have HDL := Aside0.mk hdl
      have HTL := Aside0.mk htl
      obtain ⟨p, hp⟩ : ∃ p : Nat, p = 10 ^ 0 := ⟨_, rfl⟩
      rw [pow_tab 0 p (by decide) hp] at hcell
      obtain ⟨y, hy⟩ : ∃ y, y = l0.drop 0 := ⟨_, rfl⟩
      obtain ⟨x, hx⟩ : ∃ x, x = l0.take 0 := ⟨_, rfl⟩
      rw [← hy] at hdr HCD HDL
      rw [← hx] at htr HCT HTL
      have hyg : goodL y = true := by rw [hy]; exact goodL_drop g0 0
      have hxg : goodL x = true := by rw [hx]; exact goodL_take g0 0
      have hyl : y.length ≤ 500000 := by rw [hy, List.length_drop]; omega
      have hxl : x.length = 0 := by rw [hx, List.length_take]; omega
      have hxy : valL l0 = valL x + 1000000000 ^ 0 * valL y := by
        have e := valL_append x y
        rw [hxl, hx, hy, List.take_append_drop] at e; rw [e, hx, hy]
      have hp0 : 0 < p := by rw [hp]; exact Nat.pow_pos (by decide)
      have hp9 : p < 1000000000 := by rw [hp]; exact Nat.lt_of_lt_of_le (Nat.pow_lt_pow_right (by decide) (show 0 < 9 by decide)) (by decide)
      obtain ⟨k, hk⟩ := Ev.rounds (DivSmall_ev hyg (by omega) hp0 hp9)
      have HK := Aside0.mk hk
      have HXG := Aside0.mk hxg
      have HXY := Aside0.mk hxy
      have HXL := Aside0.mk hxl
      have HPP := Aside0.mk (And.intro hp (And.intro hp0 hp9))
      have hc1 : w.drew.cell? ⟨0, 0, none⟩ = some (.int .u32 (p : Int)) := hcell
      clear hr0 hc0 hG g0 h hm hdc htc hdl htl hy hx hyg hxg hyl hxl hxy hp0 hp9 hk hp
      go_enter Tryd.func53, Tryd.ntmps53
      go_wp2
      go_region_law (go_simp; go_wp2_with (go_at_call 73; (with_reducible refine (div_Small.calls k A1 c0 y (p : Int) (limbs (valL y / p)) ((valL y % p : Nat) : Int) true _ ?side1 ?side2 ?side3).mono ?_); (case side1 => exact Kd.C_drew HCD.out); (case side2 => exact HDL.out); (case side3 => exact HK.out); rintro e w1 ⟨v0, rfl, ho, hb⟩; have HO := Aside0.mk ho; have HB := Aside0.mk hb; clear ho hb))
      have HB1 := Aside0.mk (((Below.refl w.heap.size w).drew).trans HB.out)
      have HLX := Aside0.mk (show x.length ≤ 1000000 ∧ (x.length + 1) * 4 ≤ 140737488355328 ∧ goodL (x ++ [((valL y % p : Nat) : Int)]) = true ∧ (x ++ [((valL y % p : Nat) : Int)]).length ≤ 20000000000000 by
        have h1 := HXL.out
        have h2 := HPP.out
        have h3 := Nat.mod_lt (valL y) h2.2.1
        refine ⟨by omega, by omega, goodL_append.2 ⟨HXG.out, goodL_cons.2 ⟨by omega, rfl⟩⟩, by simp; omega⟩)
      obtain ⟨l, hl⟩ : ∃ l, l = valL y % p := ⟨_, rfl⟩
      obtain ⟨z, hz⟩ : ∃ z, z = x ++ [(l : Int)] := ⟨_, rfl⟩
      rw [← hl, ← hz] at HLX
      have HLL := Aside0.mk hl
      have HZ := Aside0.mk hz
      have hl2 : ((valL y : Int) % (p : Int)) = (l : Int) := by rw [hl]; rfl
      clear hl hz
      go_wp2_with (first
        | (go_at_call 74; go_loud ((with_reducible refine (clone_calls A0 c0 x _ ?side1 ?side2).mono ?_); (case side1 => exact Kd.C_below HCT.out HB1.out); (case side2 => exact HLX.out.1); rintro e w2 ⟨v2, rfl, ho, hb⟩; have HO2 := Aside0.mk ho; have HB2 := Aside0.mk hb; clear ho hb))
        | ((with_reducible refine gate_builtin (b := .append) (xs := #[.tmp 39, .tmp 41]) rfl ?_); at_builtin; go_loud (refine Kd.R_append (Kd.int .u32) (w0 := w1) w1.heap.size rfl (.tmp 39) (.tmp 41) 44 50 (.int .u32 0) 4 rfl Tryd.underlying44 info50 rfl (by decide) (by omega) v2 x (l : Int) [.int .u32 (l : Int)] (fun _ => True) (fun _ => False) rfl rfl rfl (fun _ hk => hk.elim) (fun _ _ => trivial) HO2.out HB2.out HB2.out.size HLX.out.2.1 ?_; intro v3 w3 ho hb hg hat; rw [← HZ.out] at ho; obtain ⟨A3, c3, rfl⟩ := Kd.R_slice ho; have HO3 := Aside0.mk ho; have HB3 := Aside0.mk hb; clear ho hb hg hat))
        | (go_at_call 58; go_loud ((with_reducible refine (nat_Trim.calls A3 c3 z (limbs (valL z)) _ ?side1 ?side2 ?side3).mono ?_); (case side3 => exact trimF_eq HLX.out.2.2.1 HLX.out.2.2.2); (case side1 => exact (Kd.R_reads' HO3.out).2.2); (case side2 => exact (Kd.R_reads' HO3.out).2.1); rintro e w4 ⟨v4, rfl, ho, hb⟩; have HO4 := Aside0.mk ho; have HB4 := Aside0.mk hb; clear ho hb)))
      have hq := Kd.R_bound HO.out
      have hr := Kd.R_bound HO4.out
      have hb14 : Below w1.heap.size w1 w4 := HB3.out.trans (HB4.out.mono HB3.out.size)
      have hvz : valL z = valL x + 1000000000 ^ 0 * l := by
        rw [HZ.out, valL_append, HXL.out]; simp [valL]
      have hp1 : p = 1 := HPP.out.1
      have hx0 : valL x = 0 := by have := valL_lt HXG.out; rw [HXL.out] at this; simpa using this
      have ed : valL l0 / 10 ^ 0 = valL y / p := by rw [HXY.out, hx0, hp1]; simp
      have em : valL l0 % 10 ^ 0 = valL z := by rw [hvz, HXY.out, hx0, HLL.out, hp1]; simp [Nat.mod_one]
      go_ret2
      rw [ed, em]
      refine ⟨v0, v4, rfl, ?_, ?_, HB1.out.trans (hb14.mono HB1.out.size)⟩
      · refine Kd.R_mono (Kd.R_below hq hb14) (fun k_ hk he => ?_)
        have := hr.1 k_ he.symm
        have h3 := HB3.out.size
        omega
      · refine Kd.R_mono (Kd.R_lower hr (Nat.le_trans HB1.out.size HB3.out.size)) (fun k_ hk he => ?_)
        have := hq.1 k_ he.symm
        have h3 := HB3.out.size
        omega
    obtain rfl : a1 = (m : Int) := by omega
    have hm6 : m ≤ 1000000 := by omega
    obtain ⟨n9, hn9⟩ : ∃ n9, n9 = m / 9 := ⟨_, rfl⟩
    obtain ⟨q9, hq9⟩ : ∃ q9, q9 = m % 9 := ⟨_, rfl⟩
    have e9 : IntKind.i64.wrap ((m : Int) / 9) = (n9 : Int) := by rw [IntKind.wrap_i64]; omega
    have r9 : (m : Int).tmod 9 = (q9 : Int) := by rw [Int.tmod_eq_emod_of_nonneg (by omega)]; omega
    have hq : q9 < 9 := by omega
    have hn : n9 ≤ 200000 := by omega
    have HN9 := Aside0.mk hn9
    have HQ9 := Aside0.mk hq9
    have hcell := hG.pows q9 hq
    by_cases hnl : l0.length < n9
    · have d1 : decide (l0.length < n9) = true := decide_eq_true hnl
      clear hr0 hc0 hG g0 h hm hn9 hq9 hcell
      go_enter Tryd.func53, Tryd.ntmps53
      go_wp2_with (go_at_call 58; (with_reducible refine (nat_Trim.calls A0 c0 l0 (limbs (valL l0)) _ ?side1 ?side2 ?side3).mono ?_); (case side3 => exact HT.out); (case side1 => exact HR0.out); (case side2 => exact HC0.out); rintro e w1 ⟨v0, rfl, ho, hb⟩; have HO := Aside0.mk ho; have HB := Aside0.mk hb; clear ho hb)
      have hlt : valL l0 < 10 ^ m := by
        refine Nat.lt_of_lt_of_le (valL_lt G0.out) ?_
        rw [pow9]; exact Nat.pow_le_pow_right (by decide) (by have := HN9.out; omega)
      go_ret2
      refine ⟨_, v0, rfl, ?_, ?_, HB.out⟩
      · rw [Nat.div_eq_of_lt hlt, limbs_zero]; exact Kd.R_nil _ _ _ _ _
      · rw [Nat.mod_eq_of_lt hlt]
        exact Kd.R_mono HO.out (fun k_ _ => by simp [Value.ownBlock])
    · have d1 : decide (l0.length < n9) = false := decide_eq_false hnl
      have hle : n9 ≤ l0.length := by omega
      obtain ⟨i0, hi0, hi1, hsz, _⟩ := info_parts info50
      obtain ⟨A1, hdr, hdc, hdl⟩ := print_drop_of (P := Tryd.prog) (Value.int .u32) 0 44 50 .i64 Tryd.underlying44 hi0 hsz A0 c0 l0 (n9 : Int) (by omega) (by omega) hc0
      obtain ⟨htr, htc, htl⟩ := print_take_of (P := Tryd.prog) (Value.int .u32) 0 44 50 .i64 Tryd.underlying44 hi0 hsz A0 c0 l0 (n9 : Int) (by omega) (by omega) hc0
      rw [Int.toNat_natCast] at hdr hdc hdl htr htc htl
      have HCD := Aside0.mk (Kd.C_of_reads (d := (0 : Int)) (h1 := fun _ => rfl) (hdc w (Kd.reads_of_C (enc := Value.int .u32) (d := (0 : Int)) (h1 := fun _ => rfl) hr0)))
      have HCT := Aside0.mk (Kd.C_of_reads (d := (0 : Int)) (h1 := fun _ => rfl) (htc w (Kd.reads_of_C (enc := Value.int .u32) (d := (0 : Int)) (h1 := fun _ => rfl) hr0)))
      have HDL := Aside0.mk hdl
      have HTL := Aside0.mk htl
      obtain ⟨p, hp⟩ : ∃ p : Nat, p = 10 ^ q9 := ⟨_, rfl⟩
      rw [pow_tab q9 p hq hp] at hcell
      have hd2 : ((q9 : Int) < 9) = True := eq_true (by omega)
      obtain ⟨y, hy⟩ : ∃ y, y = l0.drop n9 := ⟨_, rfl⟩
      obtain ⟨x, hx⟩ : ∃ x, x = l0.take n9 := ⟨_, rfl⟩
      rw [← hy] at hdr HCD HDL
      rw [← hx] at htr HCT HTL
      have hyg : goodL y = true := by rw [hy]; exact goodL_drop g0 n9
      have hxg : goodL x = true := by rw [hx]; exact goodL_take g0 n9
      have hyl : y.length ≤ 500000 := by rw [hy, List.length_drop]; omega
      have hxl : x.length = n9 := by rw [hx, List.length_take]; omega
      have hxy : valL l0 = valL x + 1000000000 ^ n9 * valL y := by
        have e := valL_append x y
        rw [hxl, hx, hy, List.take_append_drop] at e; rw [e, hx, hy]
      have hp0 : 0 < p := by rw [hp]; exact Nat.pow_pos (by decide)
      have hp9 : p < 1000000000 := by rw [hp]; exact Nat.lt_of_lt_of_le (Nat.pow_lt_pow_right (by decide) hq) (by decide)
      obtain ⟨k, hk⟩ := Ev.rounds (DivSmall_ev hyg (by omega) hp0 hp9)
      have HK := Aside0.mk hk
      have HXG := Aside0.mk hxg
      have HXY := Aside0.mk hxy
      have HXL := Aside0.mk hxl
      have HPP := Aside0.mk (And.intro hp (And.intro hp0 hp9))
      have hc1 : w.drew.cell? ⟨0, q9, none⟩ = some (.int .u32 (p : Int)) := hcell
      clear hr0 hc0 hG g0 h hm hn9 hq9 hnl hdc htc hdl htl hy hx hyg hxg hyl hxl hxy hp0 hp9 hk hp
      go_enter Tryd.func53, Tryd.ntmps53
      go_wp2
      go_region_law (go_simp; go_wp2_with (go_at_call 73; (with_reducible refine (div_Small.calls k A1 (c0 - n9) y (p : Int) (limbs (valL y / p)) ((valL y % p : Nat) : Int) true _ ?side1 ?side2 ?side3).mono ?_); (case side1 => exact Kd.C_drew HCD.out); (case side2 => exact HDL.out); (case side3 => exact HK.out); rintro e w1 ⟨v0, rfl, ho, hb⟩; have HO := Aside0.mk ho; have HB := Aside0.mk hb; clear ho hb))
      have HB1 := Aside0.mk (((Below.refl w.heap.size w).drew).trans HB.out)
      have HLX := Aside0.mk (show x.length ≤ 1000000 ∧ (x.length + 1) * 4 ≤ 140737488355328 ∧ goodL (x ++ [((valL y % p : Nat) : Int)]) = true ∧ (x ++ [((valL y % p : Nat) : Int)]).length ≤ 20000000000000 by
        have h1 := HXL.out
        have h2 := HPP.out
        have h3 := Nat.mod_lt (valL y) h2.2.1
        refine ⟨by omega, by omega, goodL_append.2 ⟨HXG.out, goodL_cons.2 ⟨by omega, rfl⟩⟩, by simp; omega⟩)
      obtain ⟨l, hl⟩ : ∃ l, l = valL y % p := ⟨_, rfl⟩
      obtain ⟨z, hz⟩ : ∃ z, z = x ++ [(l : Int)] := ⟨_, rfl⟩
      rw [← hl, ← hz] at HLX
      have HLL := Aside0.mk hl
      have HZ := Aside0.mk hz
      have hl2 : ((valL y : Int) % (p : Int)) = (l : Int) := by rw [hl]; rfl
      clear hl hz
      go_wp2_with (first
        | (go_at_call 74; go_loud ((with_reducible refine (clone_calls A0 c0 x _ ?side1 ?side2).mono ?_); (case side1 => exact Kd.C_below HCT.out HB1.out); (case side2 => exact HLX.out.1); rintro e w2 ⟨v2, rfl, ho, hb⟩; have HO2 := Aside0.mk ho; have HB2 := Aside0.mk hb; clear ho hb))
        | ((with_reducible refine gate_builtin (b := .append) (xs := #[.tmp 39, .tmp 41]) rfl ?_); at_builtin; go_loud (refine Kd.R_append (Kd.int .u32) (w0 := w1) w1.heap.size rfl (.tmp 39) (.tmp 41) 44 50 (.int .u32 0) 4 rfl Tryd.underlying44 info50 rfl (by decide) (by omega) v2 x (l : Int) [.int .u32 (l : Int)] (fun _ => True) (fun _ => False) rfl rfl rfl (fun _ hk => hk.elim) (fun _ _ => trivial) HO2.out HB2.out HB2.out.size HLX.out.2.1 ?_; intro v3 w3 ho hb hg hat; rw [← HZ.out] at ho; obtain ⟨A3, c3, rfl⟩ := Kd.R_slice ho; have HO3 := Aside0.mk ho; have HB3 := Aside0.mk hb; clear ho hb hg hat))
        | (go_at_call 58; go_loud ((with_reducible refine (nat_Trim.calls A3 c3 z (limbs (valL z)) _ ?side1 ?side2 ?side3).mono ?_); (case side3 => exact trimF_eq HLX.out.2.2.1 HLX.out.2.2.2); (case side1 => exact (Kd.R_reads' HO3.out).2.2); (case side2 => exact (Kd.R_reads' HO3.out).2.1); rintro e w4 ⟨v4, rfl, ho, hb⟩; have HO4 := Aside0.mk ho; have HB4 := Aside0.mk hb; clear ho hb)))
      have hq := Kd.R_bound HO.out
      have hr := Kd.R_bound HO4.out
      have hb14 : Below w1.heap.size w1 w4 := HB3.out.trans (HB4.out.mono HB3.out.size)
      have hvz : valL z = valL x + 1000000000 ^ n9 * l := by
        rw [HZ.out, valL_append, HXL.out]; simp [valL]
      have e1 : 10 ^ m = 1000000000 ^ n9 * p := by
        rw [pow9, HPP.out.1, ← Nat.pow_add, HN9.out, HQ9.out, Nat.div_add_mod]
      have hxlt : valL x < 1000000000 ^ n9 := by have := valL_lt HXG.out; rwa [HXL.out] at this
      have hB0 : 0 < 1000000000 ^ n9 := Nat.pow_pos (by decide)
      have ed : valL l0 / 10 ^ m = valL y / p := by
        rw [HXY.out, e1, ← Nat.div_div_eq_div_mul, Nat.add_mul_div_left _ _ hB0, Nat.div_eq_of_lt hxlt, Nat.zero_add]
      have em : valL l0 % 10 ^ m = valL z := by
        rw [hvz, HXY.out, e1, Nat.mod_mul, Nat.add_mul_mod_self_left, Nat.mod_eq_of_lt hxlt, Nat.add_mul_div_left _ _ hB0, Nat.div_eq_of_lt hxlt, Nat.zero_add, HLL.out]
      go_ret2
      rw [ed, em]
      refine ⟨v0, v4, rfl, ?_, ?_, HB1.out.trans (hb14.mono HB1.out.size)⟩
      · refine Kd.R_mono (Kd.R_below hq hb14) (fun k_ hk he => ?_)
        have := hr.1 k_ he.symm
        have h3 := HB3.out.size
        omega
      · refine Kd.R_mono (Kd.R_lower hr (Nat.le_trans HB1.out.size HB3.out.size)) (fun k_ hk he => ?_)
        have := hq.1 k_ he.symm
        have h3 := HB3.out.size
        omega
  · rw [if_neg hg] at h; cases h
end Go.Proofs.YtjpokifkbclkiaaDoor.Px
end
section
namespace Go.Proofs.YtjpokifkbclkiaaDoor.Px
open Fig Go.RowKit Go.Proofs.YtjpokifkbclkiaaDoorW.PrintWords Go.Proofs.YtjpokifkbclkiaaDoorW.PrintLast Go.Proofs.YtjpokifkbclkiaaDoorW.PrintMore
attribute [local go_sem] max2_int min2_int max_two min_two max_three min_three max_four min_four   -- for this text's walks alone
attribute [local go_sem] fieldA23_0 fieldA23_1 fieldA23_2
set_option maxRecDepth 100000
theorem digL_take {l : List UInt8} (h : digL l = true) (n : Nat) : digL (l.take n) = true := by
  unfold digL at h ⊢; rw [List.all_eq_true] at h ⊢; exact fun x hx => h x (List.mem_of_mem_take hx)
theorem num_step (n c : Nat) (h1 : 48 ≤ c) (h2 : c ≤ 57) (hn : n < 100000000) : (((n : Int) * 10 % 4294967296 + wrap32 ((c : Int) - 48) % 4294967296) % 4294967296) = ((10 * n + (c - 48) : Nat) : Int) := by
  have e : wrap32 ((c : Int) - 48) = ((c - 48 : Nat) : Int) := by unfold wrap32; omega
  rw [e]; omega
def ten_Number.f (s : ByteArray) : Option (List Int × Bool) := if s.size ≤ 140737488351232 then some (if dB s = true ∧ s.size ≠ 0 then (limbs (vB s), true) else ([], false)) else none
theorem byte_at (s : ByteArray) (i : Nat) (h : i < s.size) : s.data.toList[i]'(by rw [← size_eq]; exact h) = s[i]'h := rfl
theorem take_digits (s : ByteArray) (i : Nat) (h : i < s.size) : digL (s.data.toList.take (i + 1)) = (digL (s.data.toList.take i) && isD (s[i]'h)) := by
  rw [List.take_succ_eq_append_getElem (by rw [← size_eq]; exact h)]
  unfold digL
  rw [List.all_append]; simp; rfl
theorem not_digits (s : ByteArray) (i : Nat) (h : i < s.size) (hc : isD (s[i]'h) = false) : dB s = false := by
  unfold dB digL
  rw [Bool.eq_false_iff]; intro hall
  have := List.all_eq_true.1 hall _ (List.getElem_mem (n := i) (by rw [← size_eq]; exact h))
  rw [byte_at s i h, hc] at this; cases this
theorem suffix_step (L : List UInt8) (a e : Nat) (ha : a ≤ e) (he : e ≤ L.length) : rv (L.drop a).reverse = rv (L.drop e).reverse + 10 ^ (L.length - e) * rv ((L.drop a).take (e - a)).reverse := by
  have h1 : L.drop a = (L.drop a).take (e - a) ++ L.drop e := by
    have := (List.take_append_drop (e - a) (L.drop a)).symm
    rwa [List.drop_drop, show a + (e - a) = e by omega] at this
  conv => lhs; rw [h1]
  rw [List.reverse_append, rv_append, List.length_reverse, List.length_drop]
theorem take_rv (L : List UInt8) (p : Nat) (h : p < L.length) : rv (L.take (p + 1)).reverse = ((L[p]'h).toNat - 48) + 10 * rv (L.take p).reverse := by
  rw [List.take_succ_eq_append_getElem h, List.reverse_append]; rfl
set_option maxHeartbeats 8000000 in
theorem ten_Number.calls (s : ByteArray) (r1 : List Int) (r2 : Bool) (w : World) (h : ten_Number.f s = some (r1, r2)) :
    Calls Tryd.prog 75 #[.string s] w fun e w' => ∃ v0_ : Value, e = .returned (.tuple #[v0_, .bool r2]) ∧ Kd.R (Kd.int .u32) 50 w' w.heap.size (fun _ => True) v0_ r1 ∧ Below w.heap.size w w' := by
  unfold ten_Number.f at h
  by_cases hs : s.size ≤ 140737488351232
  · rw [if_pos hs] at h
    have h2 := Option.some.inj h
    clear h
    by_cases hz : s.size = 0
    · rw [if_neg (fun hh => hh.2 hz)] at h2
      obtain ⟨rfl, rfl⟩ := Prod.mk.inj h2
      obtain rfl : s = ⟨#[]⟩ := by apply B_ext; exact List.eq_nil_of_length_eq_zero (by rw [← size_eq]; exact hz)
      clear hz h2 hs
      go_enter Tryd.func75, Tryd.ntmps75
      go_wp2
      go_ret2
      exact ⟨_, rfl, Kd.R_nil _ _ _ _ _, Below.refl _ _⟩
    · have hne : (s.toList == ([] : List UInt8)) = false := by
        rw [beq_eq_false_iff_ne, ByteArray.toList_eq]; intro hh; apply hz; rw [size_eq, hh]; rfl
      have HZ := Aside0.mk hz
      have H2 := Aside0.mk h2
      clear hz h2
      go_enter Tryd.func75, Tryd.ntmps75
      go_wp2
      go_loopg [5] s.size (fun j v5 w' => ∃ pos : Nat, Aside0 (pos + j = s.size) ∧ Aside0 (digL (s.data.toList.take pos) = true) ∧ Aside0 (w'.heap[w.heap.size]? = some (.stringIter s pos)) ∧ Aside0 (Below w.heap.size w w'))
      case atStart => exact ⟨0, ⟨by omega⟩, ⟨rfl⟩, ⟨by unfold World.iter; exact heap_alloc_new w _⟩, ⟨(Below.refl _ w).alloc (Nat.le_refl _) _⟩⟩
      case round =>
        obtain ⟨pos, HP, HD, HI, HB⟩ := hrel
        cases gk with
        | zero =>
          have hp := HP.out
          have hnx := Lib.run_next_end_at (P := Tryd.prog) wr w.heap.size s pos 0 HI.out (by omega)
          clear hp
          obtain rfl : pos = s.size := by have := HP.out; omega
          have hdb : dB s = true := by have := HD.out; rw [List.take_of_length_le (by rw [← size_eq]; exact Nat.le_refl _)] at this; exact this
          have h2 := H2.out
          rw [if_pos ⟨hdb, HZ.out⟩] at h2
          obtain ⟨rfl, rfl⟩ := Prod.mk.inj h2
          have HDB := Aside0.mk hdb
          clear h2 hdb HD
          go_wp2
          go_loopg [6, 7, 8, 10] (s.size / 9 + 1) (fun j v6 v7 v8 v10 w' => ∃ (i : Nat) (o : List Int), v7 = .int .i64 ((s.size : Int) - 9 * (i : Int)) ∧ Aside0 (i + j = s.size / 9 + 1) ∧ Aside0 (o.length = i ∧ goodL o = true ∧ valL o = rv (s.data.toList.drop (s.size - 9 * i)).reverse) ∧ Aside0 (Kd.R (Kd.int .u32) 50 w' w.heap.size (fun _ => True) v6 o) ∧ Aside0 (Below w.heap.size w w'))
          case atStart => exact ⟨0, [], by simp, ⟨by omega⟩, ⟨rfl, rfl, by rw [Nat.mul_zero, Nat.sub_zero, size_eq, List.drop_length]; rfl⟩, ⟨Kd.R_nil _ _ _ _ _⟩, HB⟩
          case round =>
            clear HB HI hnx
            obtain ⟨i, o, rfl, HJ, HV, HO, HB⟩ := hrel
            by_cases he : 9 * i < s.size
            · cases gk with
              | zero => exact absurd HJ.out (by omega)
              | succ j =>
                obtain ⟨E, hE⟩ : ∃ E : Nat, (s.size : Int) - 9 * (i : Int) = (E : Int) := ⟨s.size - 9 * i, by omega⟩
                rw [hE]
                have d1 : decide (0 < E) = true := decide_eq_true (by omega)
                have HE := Aside0.mk hE
                rcases Int.lt_trichotomy ((E : Int) - 9) 0 with hx | hx | hx
                · obtain ⟨x, hxx⟩ : ∃ x : Int, (E : Int) - 9 = x := ⟨_, rfl⟩
                  have w9 : wrap64 ((E : Int) - 9) = x := by rw [w64 (by omega) (by omega)]; exact hxx
                  have q1 : x < 0 := by omega
                  have q3 : decide (x < 0) = true := decide_eq_true q1
                  have q2 : E ≤ s.size := by omega
                  have HLO := Aside0.mk (show 0 = s.size - 9 * (i + 1) ∧ 0 ≤ E ∧ E - 0 ≤ 9 ∧ E = s.size - 9 * i by omega)
                  obtain ⟨sub, hsub⟩ : ∃ sub, sub = s.extract 0 E := ⟨_, rfl⟩
                  have HSUB := Aside0.mk hsub
                  go_wp2
                  rw [← HSUB.out]
                  have HDS := Aside0.mk (show digL sub.data.toList = true by
                    have hd := HDB.out
                    rw [HSUB.out, B_extract]
                    unfold dB digL at hd; unfold digL
                    rw [List.all_eq_true] at hd ⊢
                    exact fun x hx => hd x (List.mem_of_mem_drop (List.mem_of_mem_take hx)))
                  have HSS := Aside0.mk (show sub.size = E - 0 by rw [HSUB.out, size_eq, B_extract, List.length_take, List.length_drop, ← size_eq]; have := HLO.out; omega)
                  have HIT := Aside0.mk (show (wr.iter sub 0).heap[wr.heap.size]? = some (.stringIter sub 0) by unfold World.iter; exact heap_alloc_new wr _)
                  have HBI := Aside0.mk (show Below wr.heap.size wr (wr.iter sub 0) from (Below.refl _ wr).alloc (Nat.le_refl _) _)
                  clear hsub hE
                  go_loopg [8, 10] sub.size (fun j v8 v10 w' => ∃ p n : Nat, v8 = .int .u32 (n : Int) ∧ Aside0 (n = rv (sub.data.toList.take p).reverse) ∧ Aside0 (p + j = sub.size) ∧ Aside0 (w'.heap[wr.heap.size]? = some (.stringIter sub p)) ∧ Aside0 (Below wr.heap.size wr w'))
                  case atStart => exact ⟨0, 0, rfl, ⟨rfl⟩, ⟨by omega⟩, HIT, HBI⟩
                  case round =>
                    clear HIT HBI
                    obtain ⟨p, n, rfl, HN, HPP, HIT, HBI⟩ := hrel
                    have hn9 : n < 10 ^ p := by
                      rw [HN.out]
                      refine Nat.lt_of_lt_of_le (rv_lt (by rw [digL_reverse]; exact digL_take HDS.out p)) ?_
                      rw [List.length_reverse, List.length_take]; exact Nat.pow_le_pow_right (by omega) (Nat.min_le_left _ _)
                    cases gk with
                    | zero =>
                      have hnx := Lib.run_next_end_at (P := Tryd.prog) wr _ sub p 0 HIT.out (by have := HPP.out; omega)
                      obtain rfl : p = sub.size := by have := HPP.out; omega
                      have HNV := Aside0.mk (show n = rv sub.data.toList.reverse ∧ n < 1000000000 by
                        have h1 := HN.out
                        rw [List.take_of_length_le (by rw [← size_eq]; exact Nat.le_refl _)] at h1
                        exact ⟨h1, Nat.lt_of_lt_of_le hn9 (Nat.le_trans (Nat.pow_le_pow_right (by omega) (show sub.size ≤ 9 by rw [HSS.out]; exact HLO.out.2.2.1)) (by decide))⟩)
                      have HOW := Aside0.mk (Kd.R_below HO.out HBI.out)
                      have HBW := Aside0.mk (HB.out.trans (HBI.out.mono HB.out.size))
                      have HL := Aside0.mk (show (o.length + 1) * 4 ≤ 140737488355328 by have := HV.out; have := HJ.out; omega)
                      clear hn9
                      go_wp2_with (first
                        | ((with_reducible refine gate_builtin (b := .append) (xs := #[.tmp 46, .tmp 48]) rfl ?_); at_builtin; refine Kd.R_append (Kd.int .u32) (w0 := w) w.heap.size rfl (.tmp 46) (.tmp 48) 44 50 (.int .u32 0) 4 rfl Tryd.underlying44 info50 rfl (by decide) (by omega) _ o (n : Int) [.int .u32 (n : Int)] (fun _ => True) (fun _ => False) rfl rfl rfl (fun _ hk => hk.elim) (fun _ _ => trivial) HOW.out HBW.out HBW.out.size HL.out ?_; intro v49 w11 ho hb hg hat; have HO2 := Aside0.mk ho; have HB2 := Aside0.mk hb; clear ho hb hg hat))
                      go_roundg j
                      case measure => omega
                      case rel =>
                        refine ⟨i + 1, _, ?_, ⟨by have := HJ.out; omega⟩, ⟨?_⟩, HO2, HB2⟩
                        · have h1 := HE.out
                          congr 1; omega
                        · obtain ⟨h1, h2, h3⟩ := HV.out
                          obtain ⟨l1, l2, l3, l4⟩ := HLO.out
                          obtain ⟨n1, n2⟩ := HNV.out
                          refine ⟨by rw [List.length_append, h1]; rfl, goodL_append.2 ⟨h2, goodL_cons.2 ⟨by omega, rfl⟩⟩, ?_⟩
                          rw [valL_snoc, h3, h1, Int.toNat_natCast, n1, HSUB.out, B_extract, pow9, ← l1, suffix_step s.data.toList _ E l2 (by rw [← size_eq]; omega), l4, ← size_eq, show s.size - (s.size - 9 * i) = 9 * i by omega]
                    | succ jj =>
                      have hp : p < sub.size := by have := HPP.out; omega
                      have hcd : isD (sub[p]'hp) = true := by
                        have := HDS.out
                        unfold digL at this
                        exact List.all_eq_true.1 this _ (List.getElem_mem (n := p) (by rw [← size_eq]; exact hp))
                      have hc2 := isD_iff.1 hcd
                      obtain ⟨c, hcn⟩ : ∃ c, c = (sub[p]'hp).toNat := ⟨_, rfl⟩
                      have hnx := Lib.run_next_ascii_at (P := Tryd.prog) wr _ sub p 0 HIT.out hp (by omega)
                      rw [← hcn] at hnx hc2
                      have HN2 := Aside0.mk (show rv (sub.data.toList.take (p + 1)).reverse = (c - 48) + 10 * n by
                        rw [take_rv _ p (by rw [← size_eq]; exact hp), HN.out, hcn]; rfl)
                      have HBJ := Aside0.mk (Lib.below_iterAt HBI.out (Nat.le_refl _) sub (p + 1))
                      have HIJ := Aside0.mk (Lib.iterAt_heap wr _ sub p (p + 1) HIT.out)
                      have hn8 : n < 100000000 := Nat.lt_of_lt_of_le hn9 (Nat.le_trans (Nat.pow_le_pow_right (by omega) (show p ≤ 8 by have := HSS.out; have := HLO.out; omega)) (by decide))
                      have HCC := Aside0.mk (show 48 ≤ c ∧ c ≤ 57 ∧ n < 100000000 from ⟨hc2.1, hc2.2, hn8⟩)
                      clear hcn hc2 hcd hn9 hn8 hp
                      go_wp2
                      go_roundg jj
                      case measure => omega
                      case rel =>
                        refine ⟨p + 1, 10 * n + (c - 48), ?_, ⟨by rw [HN2.out]; exact Nat.add_comm _ _⟩, ⟨by have := HPP.out; omega⟩, HIJ, HBJ⟩
                        rw [num_step n c HCC.out.1 HCC.out.2.1 HCC.out.2.2]
                · have w9 : wrap64 ((E : Int) - 9) = 0 := by rw [w64 (by omega) (by omega)]; exact hx
                  have q2 : E ≤ s.size := by omega
                  have HLO := Aside0.mk (show 0 = s.size - 9 * (i + 1) ∧ 0 ≤ E ∧ E - 0 ≤ 9 ∧ E = s.size - 9 * i by omega)
                  obtain ⟨sub, hsub⟩ : ∃ sub, sub = s.extract 0 E := ⟨_, rfl⟩
                  have HSUB := Aside0.mk hsub
                  go_wp2
                  rw [← HSUB.out]
                  have HDS := Aside0.mk (show digL sub.data.toList = true by
                    have hd := HDB.out
                    rw [HSUB.out, B_extract]
                    unfold dB digL at hd; unfold digL
                    rw [List.all_eq_true] at hd ⊢
                    exact fun x hx => hd x (List.mem_of_mem_drop (List.mem_of_mem_take hx)))
                  have HSS := Aside0.mk (show sub.size = E - 0 by rw [HSUB.out, size_eq, B_extract, List.length_take, List.length_drop, ← size_eq]; have := HLO.out; omega)
                  have HIT := Aside0.mk (show (wr.iter sub 0).heap[wr.heap.size]? = some (.stringIter sub 0) by unfold World.iter; exact heap_alloc_new wr _)
                  have HBI := Aside0.mk (show Below wr.heap.size wr (wr.iter sub 0) from (Below.refl _ wr).alloc (Nat.le_refl _) _)
                  clear hsub hE
                  go_loopg [8, 10] sub.size (fun j v8 v10 w' => ∃ p n : Nat, v8 = .int .u32 (n : Int) ∧ Aside0 (n = rv (sub.data.toList.take p).reverse) ∧ Aside0 (p + j = sub.size) ∧ Aside0 (w'.heap[wr.heap.size]? = some (.stringIter sub p)) ∧ Aside0 (Below wr.heap.size wr w'))
                  case atStart => exact ⟨0, 0, rfl, ⟨rfl⟩, ⟨by omega⟩, HIT, HBI⟩
                  case round =>
                    clear HIT HBI
                    obtain ⟨p, n, rfl, HN, HPP, HIT, HBI⟩ := hrel
                    have hn9 : n < 10 ^ p := by
                      rw [HN.out]
                      refine Nat.lt_of_lt_of_le (rv_lt (by rw [digL_reverse]; exact digL_take HDS.out p)) ?_
                      rw [List.length_reverse, List.length_take]; exact Nat.pow_le_pow_right (by omega) (Nat.min_le_left _ _)
                    cases gk with
                    | zero =>
                      have hnx := Lib.run_next_end_at (P := Tryd.prog) wr _ sub p 0 HIT.out (by have := HPP.out; omega)
                      obtain rfl : p = sub.size := by have := HPP.out; omega
                      have HNV := Aside0.mk (show n = rv sub.data.toList.reverse ∧ n < 1000000000 by
                        have h1 := HN.out
                        rw [List.take_of_length_le (by rw [← size_eq]; exact Nat.le_refl _)] at h1
                        exact ⟨h1, Nat.lt_of_lt_of_le hn9 (Nat.le_trans (Nat.pow_le_pow_right (by omega) (show sub.size ≤ 9 by rw [HSS.out]; exact HLO.out.2.2.1)) (by decide))⟩)
                      have HOW := Aside0.mk (Kd.R_below HO.out HBI.out)
                      have HBW := Aside0.mk (HB.out.trans (HBI.out.mono HB.out.size))
                      have HL := Aside0.mk (show (o.length + 1) * 4 ≤ 140737488355328 by have := HV.out; have := HJ.out; omega)
                      clear hn9
                      go_wp2_with (first
                        | ((with_reducible refine gate_builtin (b := .append) (xs := #[.tmp 46, .tmp 48]) rfl ?_); at_builtin; refine Kd.R_append (Kd.int .u32) (w0 := w) w.heap.size rfl (.tmp 46) (.tmp 48) 44 50 (.int .u32 0) 4 rfl Tryd.underlying44 info50 rfl (by decide) (by omega) _ o (n : Int) [.int .u32 (n : Int)] (fun _ => True) (fun _ => False) rfl rfl rfl (fun _ hk => hk.elim) (fun _ _ => trivial) HOW.out HBW.out HBW.out.size HL.out ?_; intro v49 w11 ho hb hg hat; have HO2 := Aside0.mk ho; have HB2 := Aside0.mk hb; clear ho hb hg hat))
                      go_roundg j
                      case measure => omega
                      case rel =>
                        refine ⟨i + 1, _, ?_, ⟨by have := HJ.out; omega⟩, ⟨?_⟩, HO2, HB2⟩
                        · have h1 := HE.out
                          congr 1; omega
                        · obtain ⟨h1, h2, h3⟩ := HV.out
                          obtain ⟨l1, l2, l3, l4⟩ := HLO.out
                          obtain ⟨n1, n2⟩ := HNV.out
                          refine ⟨by rw [List.length_append, h1]; rfl, goodL_append.2 ⟨h2, goodL_cons.2 ⟨by omega, rfl⟩⟩, ?_⟩
                          rw [valL_snoc, h3, h1, Int.toNat_natCast, n1, HSUB.out, B_extract, pow9, ← l1, suffix_step s.data.toList _ E l2 (by rw [← size_eq]; omega), l4, ← size_eq, show s.size - (s.size - 9 * i) = 9 * i by omega]
                    | succ jj =>
                      have hp : p < sub.size := by have := HPP.out; omega
                      have hcd : isD (sub[p]'hp) = true := by
                        have := HDS.out
                        unfold digL at this
                        exact List.all_eq_true.1 this _ (List.getElem_mem (n := p) (by rw [← size_eq]; exact hp))
                      have hc2 := isD_iff.1 hcd
                      obtain ⟨c, hcn⟩ : ∃ c, c = (sub[p]'hp).toNat := ⟨_, rfl⟩
                      have hnx := Lib.run_next_ascii_at (P := Tryd.prog) wr _ sub p 0 HIT.out hp (by omega)
                      rw [← hcn] at hnx hc2
                      have HN2 := Aside0.mk (show rv (sub.data.toList.take (p + 1)).reverse = (c - 48) + 10 * n by
                        rw [take_rv _ p (by rw [← size_eq]; exact hp), HN.out, hcn]; rfl)
                      have HBJ := Aside0.mk (Lib.below_iterAt HBI.out (Nat.le_refl _) sub (p + 1))
                      have HIJ := Aside0.mk (Lib.iterAt_heap wr _ sub p (p + 1) HIT.out)
                      have hn8 : n < 100000000 := Nat.lt_of_lt_of_le hn9 (Nat.le_trans (Nat.pow_le_pow_right (by omega) (show p ≤ 8 by have := HSS.out; have := HLO.out; omega)) (by decide))
                      have HCC := Aside0.mk (show 48 ≤ c ∧ c ≤ 57 ∧ n < 100000000 from ⟨hc2.1, hc2.2, hn8⟩)
                      clear hcn hc2 hcd hn9 hn8 hp
                      go_wp2
                      go_roundg jj
                      case measure => omega
                      case rel =>
                        refine ⟨p + 1, 10 * n + (c - 48), ?_, ⟨by rw [HN2.out]; exact Nat.add_comm _ _⟩, ⟨by have := HPP.out; omega⟩, HIJ, HBJ⟩
                        rw [num_step n c HCC.out.1 HCC.out.2.1 HCC.out.2.2]
                · obtain ⟨e, hee⟩ : ∃ e : Nat, (E : Int) - 9 = (e : Int) := ⟨E - 9, by omega⟩
                  have w9 : wrap64 ((E : Int) - 9) = (e : Int) := by rw [w64 (by omega) (by omega)]; exact hee
                  have q1 : 0 < e := by omega
                  have q3 : e ≤ E := by omega
                  have q2 : E ≤ s.size := by omega
                  have HLO := Aside0.mk (show e = s.size - 9 * (i + 1) ∧ e ≤ E ∧ E - e ≤ 9 ∧ E = s.size - 9 * i by omega)
                  obtain ⟨sub, hsub⟩ : ∃ sub, sub = s.extract e E := ⟨_, rfl⟩
                  have HSUB := Aside0.mk hsub
                  go_wp2
                  rw [← HSUB.out]
                  have HDS := Aside0.mk (show digL sub.data.toList = true by
                    have hd := HDB.out
                    rw [HSUB.out, B_extract]
                    unfold dB digL at hd; unfold digL
                    rw [List.all_eq_true] at hd ⊢
                    exact fun x hx => hd x (List.mem_of_mem_drop (List.mem_of_mem_take hx)))
                  have HSS := Aside0.mk (show sub.size = E - e by rw [HSUB.out, size_eq, B_extract, List.length_take, List.length_drop, ← size_eq]; have := HLO.out; omega)
                  have HIT := Aside0.mk (show (wr.iter sub 0).heap[wr.heap.size]? = some (.stringIter sub 0) by unfold World.iter; exact heap_alloc_new wr _)
                  have HBI := Aside0.mk (show Below wr.heap.size wr (wr.iter sub 0) from (Below.refl _ wr).alloc (Nat.le_refl _) _)
                  clear hsub hE
                  go_loopg [8, 10] sub.size (fun j v8 v10 w' => ∃ p n : Nat, v8 = .int .u32 (n : Int) ∧ Aside0 (n = rv (sub.data.toList.take p).reverse) ∧ Aside0 (p + j = sub.size) ∧ Aside0 (w'.heap[wr.heap.size]? = some (.stringIter sub p)) ∧ Aside0 (Below wr.heap.size wr w'))
                  case atStart => exact ⟨0, 0, rfl, ⟨rfl⟩, ⟨by omega⟩, HIT, HBI⟩
                  case round =>
                    clear HIT HBI
                    obtain ⟨p, n, rfl, HN, HPP, HIT, HBI⟩ := hrel
                    have hn9 : n < 10 ^ p := by
                      rw [HN.out]
                      refine Nat.lt_of_lt_of_le (rv_lt (by rw [digL_reverse]; exact digL_take HDS.out p)) ?_
                      rw [List.length_reverse, List.length_take]; exact Nat.pow_le_pow_right (by omega) (Nat.min_le_left _ _)
                    cases gk with
                    | zero =>
                      have hnx := Lib.run_next_end_at (P := Tryd.prog) wr _ sub p 0 HIT.out (by have := HPP.out; omega)
                      obtain rfl : p = sub.size := by have := HPP.out; omega
                      have HNV := Aside0.mk (show n = rv sub.data.toList.reverse ∧ n < 1000000000 by
                        have h1 := HN.out
                        rw [List.take_of_length_le (by rw [← size_eq]; exact Nat.le_refl _)] at h1
                        exact ⟨h1, Nat.lt_of_lt_of_le hn9 (Nat.le_trans (Nat.pow_le_pow_right (by omega) (show sub.size ≤ 9 by rw [HSS.out]; exact HLO.out.2.2.1)) (by decide))⟩)
                      have HOW := Aside0.mk (Kd.R_below HO.out HBI.out)
                      have HBW := Aside0.mk (HB.out.trans (HBI.out.mono HB.out.size))
                      have HL := Aside0.mk (show (o.length + 1) * 4 ≤ 140737488355328 by have := HV.out; have := HJ.out; omega)
                      clear hn9
                      go_wp2_with (first
                        | ((with_reducible refine gate_builtin (b := .append) (xs := #[.tmp 46, .tmp 48]) rfl ?_); at_builtin; refine Kd.R_append (Kd.int .u32) (w0 := w) w.heap.size rfl (.tmp 46) (.tmp 48) 44 50 (.int .u32 0) 4 rfl Tryd.underlying44 info50 rfl (by decide) (by omega) _ o (n : Int) [.int .u32 (n : Int)] (fun _ => True) (fun _ => False) rfl rfl rfl (fun _ hk => hk.elim) (fun _ _ => trivial) HOW.out HBW.out HBW.out.size HL.out ?_; intro v49 w11 ho hb hg hat; have HO2 := Aside0.mk ho; have HB2 := Aside0.mk hb; clear ho hb hg hat))
                      go_roundg j
                      case measure => omega
                      case rel =>
                        refine ⟨i + 1, _, ?_, ⟨by have := HJ.out; omega⟩, ⟨?_⟩, HO2, HB2⟩
                        · have h1 := HE.out
                          congr 1; omega
                        · obtain ⟨h1, h2, h3⟩ := HV.out
                          obtain ⟨l1, l2, l3, l4⟩ := HLO.out
                          obtain ⟨n1, n2⟩ := HNV.out
                          refine ⟨by rw [List.length_append, h1]; rfl, goodL_append.2 ⟨h2, goodL_cons.2 ⟨by omega, rfl⟩⟩, ?_⟩
                          rw [valL_snoc, h3, h1, Int.toNat_natCast, n1, HSUB.out, B_extract, pow9, ← l1, suffix_step s.data.toList _ E l2 (by rw [← size_eq]; omega), l4, ← size_eq, show s.size - (s.size - 9 * i) = 9 * i by omega]
                    | succ jj =>
                      have hp : p < sub.size := by have := HPP.out; omega
                      have hcd : isD (sub[p]'hp) = true := by
                        have := HDS.out
                        unfold digL at this
                        exact List.all_eq_true.1 this _ (List.getElem_mem (n := p) (by rw [← size_eq]; exact hp))
                      have hc2 := isD_iff.1 hcd
                      obtain ⟨c, hcn⟩ : ∃ c, c = (sub[p]'hp).toNat := ⟨_, rfl⟩
                      have hnx := Lib.run_next_ascii_at (P := Tryd.prog) wr _ sub p 0 HIT.out hp (by omega)
                      rw [← hcn] at hnx hc2
                      have HN2 := Aside0.mk (show rv (sub.data.toList.take (p + 1)).reverse = (c - 48) + 10 * n by
                        rw [take_rv _ p (by rw [← size_eq]; exact hp), HN.out, hcn]; rfl)
                      have HBJ := Aside0.mk (Lib.below_iterAt HBI.out (Nat.le_refl _) sub (p + 1))
                      have HIJ := Aside0.mk (Lib.iterAt_heap wr _ sub p (p + 1) HIT.out)
                      have hn8 : n < 100000000 := Nat.lt_of_lt_of_le hn9 (Nat.le_trans (Nat.pow_le_pow_right (by omega) (show p ≤ 8 by have := HSS.out; have := HLO.out; omega)) (by decide))
                      have HCC := Aside0.mk (show 48 ≤ c ∧ c ≤ 57 ∧ n < 100000000 from ⟨hc2.1, hc2.2, hn8⟩)
                      clear hcn hc2 hcd hn9 hn8 hp
                      go_wp2
                      go_roundg jj
                      case measure => omega
                      case rel =>
                        refine ⟨p + 1, 10 * n + (c - 48), ?_, ⟨by rw [HN2.out]; exact Nat.add_comm _ _⟩, ⟨by have := HPP.out; omega⟩, HIJ, HBJ⟩
                        rw [num_step n c HCC.out.1 HCC.out.2.1 HCC.out.2.2]
            · have d1 : decide (0 < (s.size : Int) - 9 * (i : Int)) = false := decide_eq_false (by omega)
              obtain ⟨A6, c6, rfl⟩ := Kd.R_slice HO.out
              have HF := Aside0.mk (show trimF o = some (limbs (vB s)) by
                obtain ⟨h1, h2, h3⟩ := HV.out
                rw [show s.size - 9 * i = 0 by omega, List.drop_zero] at h3
                rw [show vB s = valL o from h3.symm]
                have hj := HJ.out
                exact trimF_eq h2 (by omega))
              go_wp2_with (go_at_call 58; (with_reducible refine (nat_Trim.calls A6 c6 o (limbs (vB s)) _ ?side1 ?side2 ?side3).mono ?_); (case side1 => exact (Kd.R_reads' HO.out).2.2); (case side2 => exact (Kd.R_reads' HO.out).2.1); (case side3 => exact HF.out); rintro e w3 ⟨v3, rfl, ho3, hb3⟩; have HO3 := Aside0.mk ho3; have HB3 := Aside0.mk hb3; clear ho3 hb3)
              go_ret2
              exact ⟨_, rfl, Kd.R_lower HO3.out HB.out.size, HB.out.trans (HB3.out.mono HB.out.size)⟩
        | succ j =>
          have hp : pos < s.size := by have := HP.out; omega
          have HPS := Aside0.mk hp
          have hB2 : ∀ q, Below w.heap.size w (wr.iterAt w.heap.size s q) := fun q => Lib.below_iterAt HB.out (Nat.le_refl _) s q
          have hI2 : ∀ q, (wr.iterAt w.heap.size s q).heap[w.heap.size]? = some (.stringIter s q) := fun q => Lib.iterAt_heap wr w.heap.size s pos q HI.out
          have HB2 := Aside0.mk hB2
          have HI2 := Aside0.mk hI2
          clear hB2 hI2
          by_cases hc : isD (s[pos]'HPS.out) = true
          · have hc2 := isD_iff.1 hc
            obtain ⟨c, hcn⟩ : ∃ c, c = (s[pos]'HPS.out).toNat := ⟨_, rfl⟩
            have hnx := Lib.run_next_ascii_at (P := Tryd.prog) wr w.heap.size s pos 0 HI.out HPS.out (by omega)
            rw [← hcn] at hnx hc2
            have d1 : decide ((c : Int) < 48) = false := decide_eq_false (by omega)
            have d2 : decide (57 < (c : Int)) = false := decide_eq_false (by omega)
            have HC := Aside0.mk hc
            clear hc hcn hc2 hp
            go_wp2
            go_roundg j
            case measure => omega
            case rel =>
              exact ⟨pos + 1, ⟨by have := HP.out; omega⟩, ⟨by rw [take_digits s pos HPS.out, HD.out, HC.out]; rfl⟩, ⟨HI2.out _⟩, ⟨HB2.out _⟩⟩
          · have HND := Aside0.mk (not_digits s pos HPS.out (by simpa using hc))
            obtain ⟨c, q, hcn, hc2⟩ : ∃ c q : Nat, (Utf8.decode s pos = (c, q)) ∧ (c < 48 ∨ 57 < c) := by
              by_cases ha : (s[pos]'HPS.out).toNat < 128
              · refine ⟨_, _, decode_ascii s pos HPS.out ha, ?_⟩
                have : ¬ (48 ≤ (s[pos]'HPS.out).toNat ∧ (s[pos]'HPS.out).toNat ≤ 57) := fun h => hc (isD_iff.2 h)
                omega
              · exact ⟨(Utf8.decode s pos).1, (Utf8.decode s pos).2, rfl, .inr (by have := (decode_high s pos HPS.out (by omega)).1; omega)⟩
            have hnx := Lib.run_next_any_at (P := Tryd.prog) wr w.heap.size s pos 0 HI.out HPS.out
            rw [hcn] at hnx
            have h2 := H2.out
            rw [if_neg (fun hh => by rw [HND.out] at hh; cases hh.1)] at h2
            obtain ⟨rfl, rfl⟩ := Prod.mk.inj h2
            clear hc hcn hp h2
            rcases hc2 with hc2 | hc2
            · have d1 : decide ((c : Int) < 48) = true := decide_eq_true (by omega)
              clear hc2
              go_wp2
              go_ret2
              exact ⟨_, rfl, Kd.R_nil _ _ _ _ _, HB2.out _⟩
            · have d1 : decide ((c : Int) < 48) = false := decide_eq_false (by omega)
              have d2 : decide (57 < (c : Int)) = true := decide_eq_true (by omega)
              clear hc2
              go_wp2
              go_ret2
              exact ⟨_, rfl, Kd.R_nil _ _ _ _ _, HB2.out _⟩
  · rw [if_neg hs] at h; cases h
end Go.Proofs.YtjpokifkbclkiaaDoor.Px
end
section
namespace Go.Proofs.YtjpokifkbclkiaaDoor.Px
open Fig Go.RowKit Go.Proofs.YtjpokifkbclkiaaDoorW.PrintWords Go.Proofs.YtjpokifkbclkiaaDoorW.PrintLast Go.Proofs.YtjpokifkbclkiaaDoorW.PrintMore
attribute [local go_sem] max2_int min2_int max_two min_two max_three min_three max_four min_four   -- for this text's walks alone
attribute [local go_sem] fieldA23_0 fieldA23_1 fieldA23_2
def dec_Coef.f (a0_0 : Bool) (a0_1 : ByteArray) (a0_2 : Int) : Option (List Int) := (ten_Number.f a0_1).bind fun bt128 => (some bt128.1)
set_option maxHeartbeats 8000000 in
set_option maxRecDepth 100000 in
theorem dec_Coef.calls (a0_0 : Bool) (a0_1 : ByteArray) (a0_2 : Int) (r : List Int) (w : World) (h : dec_Coef.f a0_0 a0_1 a0_2 = some r) :
    Calls Tryd.prog 54 #[.agg #[.bool a0_0, .string a0_1, .int .i64 a0_2]] w fun e w' => ∃ v0_ : Value, e = .returned (v0_) ∧ Kd.R (Kd.int .u32) 50 w' w.heap.size (fun _ => True) v0_ r ∧ Below w.heap.size w w' := by
  have hu23 := Tryd.underlying23
  have HB := Aside0.mk (Below.refl w.heap.size w)
  have H : ((ten_Number.f a0_1).bind fun bt128 => (some bt128.1)) = some r := h
  clear h
  replace H := Option.bind_eq_some_iff.mp H
  obtain ⟨⟨t128, t129⟩, A20, H⟩ := H
  replace H : (some t128) = some r := H
  have A2 := Aside0.mk A20
  clear A20
  obtain rfl := Option.some.inj H
  go_enter Tryd.func54, Tryd.ntmps54
  go_wp2_with (first | ((with_reducible refine gate_dst (N := 1) rfl ?_); refine box_event ?hg (N := 1) ?hd (cs := #[.bool a0_0, .string a0_1, .int .i64 a0_2]) (t := 23) ?hr ?_; (case hd => rfl); (case hg => rfl); (case hr => first | (go_simp; done) | (go_simp; rfl)); intro gb127 hg w3 hbox hb; have n0_ := Aside0.mk (below_step (by repeat (first | (with_reducible first | exact HB.out | apply below_alloc | apply pw_below_drewN | apply below_drew1) | exact HB.out)) hb); have n1_ := Aside0.mk (hbox); have n2_ := Aside0.mk ((by rw [hg]; exact (below_size (by repeat (first | (with_reducible first | exact HB.out | apply below_alloc | apply pw_below_drewN | apply below_drew1) | exact HB.out))) : w.heap.size ≤ gb127)); have n3_ := Aside0.mk ((by rw [hg]; exact (below_size (by repeat (first | (with_reducible first | exact HB.out | apply below_alloc | apply pw_below_drewN | apply below_drew1) | exact HB.out))) : w.heap.size ≤ gb127)); clear HB; have HB := n0_; have BK127 := n1_; have GW127 := n2_; have GE127 := n3_; clear n0_ n1_ n2_ n3_; clear hb hbox hg; have hcz4_0 : w3.cell? ⟨gb127, 0, none⟩ = some (.bool a0_0) := (blk_cell BK127.out 0).trans rfl; have hcz4_1 : w3.cell? ⟨gb127, 1, none⟩ = some (.string a0_1) := (blk_cell BK127.out 1).trans rfl; have hcz4_2 : w3.cell? ⟨gb127, 2, none⟩ = some (.int .i64 a0_2) := (blk_cell BK127.out 2).trans rfl; have hfz4_0 := blk_frozen BK127.out 0; have hfz4_1 := blk_frozen BK127.out 1; have hfz4_2 := blk_frozen BK127.out 2) | ((with_reducible refine gate_callee (f := 75) rfl ?_); refine goesL_ (some 8) rfl rfl Tryd.func75 (by kernel_rfl) rfl #[.string a0_1] rfl (by (try simp only [List.map_toArray]); (try simp only [List.map_cons]); (try simp only [List.map_nil]); first | done | rfl | (simp only [List.length_drop, List.length_take]; rfl)) ?_; (with_reducible refine (ten_Number.calls a0_1 t128 t129 _ A2.out).mono ?_); rintro e w5 ⟨v130, rfl, ho0, hb⟩; refine ⟨_, rfl, ?_⟩; have n0_ := Aside0.mk (Kd.R_lower ho0 (below_size (by repeat (first | (with_reducible first | exact HB.out | apply below_alloc | apply pw_below_drewN | apply below_drew1 | refine below_set ?_ GE127.out) | exact HB.out)))); have n1_ := Aside0.mk (blk_below (g := gb127) (o := .cells #[.bool a0_0, .string a0_1, .int .i64 a0_2] 23 (0, 0)) (by (with_reducible repeat (first | refine blk_drewN ?_ _ | refine blk_drew ?_ | refine blk_alloc ?_ _)); exact BK127.out) hb); have n2_ := Aside0.mk (below_step (by repeat (first | (with_reducible first | exact HB.out | apply below_alloc | apply pw_below_drewN | apply below_drew1 | refine below_set ?_ GE127.out) | exact HB.out)) hb); clear BK127; clear HB; have HO131 := n0_; have BK127 := n1_; have HB := n2_; clear n0_ n1_ n2_; (try clear hb); (try clear hb2); (try clear hk); (try clear hi); (try clear ho0)))
  go_ret
  exact ⟨_, by first | rfl | (simp [errW_none, errW_some] <;> rfl) | (simp [*, errW_none, errW_some] <;> rfl), by (with_reducible repeat (first | apply Kd.R_alloc | apply Kd.R_drewN | apply Kd.R_drew)); exact HO131.out, by repeat (first | (with_reducible first | exact HB.out | apply below_alloc | apply pw_below_drewN | apply below_drew1 | refine below_set ?_ GE127.out) | exact HB.out)⟩
end Go.Proofs.YtjpokifkbclkiaaDoor.Px
end
section
namespace Go.Proofs.YtjpokifkbclkiaaDoor.Px
open Fig Go.RowKit Go.Proofs.YtjpokifkbclkiaaDoorW.PrintWords Go.Proofs.YtjpokifkbclkiaaDoorW.PrintLast Go.Proofs.YtjpokifkbclkiaaDoorW.PrintMore
attribute [local go_sem] max2_int min2_int max_two min_two max_three min_three max_four min_four   -- for this text's walks alone
attribute [local go_sem] fieldA23_0 fieldA23_1 fieldA23_2
def place_cut.f (a0_0 : Bool) (a0_1 : ByteArray) (a0_2 : Int) (a1 : Int) : Option (List Int × List Int) := (dec_Coef.f a0_0 a0_1 a0_2).bind fun t133 => ((ten_Cut.f t133 (wrap64 (a1 - a0_2))).bind fun bt136 => (some (bt136.1, bt136.2)))
def place_cut.T1 : Bool × List (List Nat × List Nat) := (true, [([], []), ([0], [0]), ([], []), ([], []), ([3], [3]), ([2, 4], [2, 4]), ([1, 5, 1], [1, 5]), ([6], [6]), ([6], [6]), ([7, 6, 0, 1, 2, 3, 4, 5, 6, 7, 8], [7]), ([8, 9, 0, 1, 2, 3, 4, 5, 6, 7, 8, 9], [8])])
def place_cut.B1 : List Nat := [0, 1, 0, 0, 8, 28, 63, 127, 127, 511, 1023]
theorem place_cut.tab1 : rtab .any (opsOf Tryd.f32 1) = place_cut.T1 := by kernel_rfl
theorem place_cut.bits1 : waitsOk place_cut.T1.2 place_cut.B1 = true := by kernel_rfl
set_option maxHeartbeats 8000000 in
set_option maxRecDepth 100000 in
theorem place_cut.calls (a0_0 : Bool) (a0_1 : ByteArray) (a0_2 : Int) (a1 : Int) (r1 : List Int) (r2 : List Int) (w : World) (hG : Fig.Glob w) (h : place_cut.f a0_0 a0_1 a0_2 a1 = some (r1, r2)) :
    Calls Tryd.prog 32 #[.agg #[.bool a0_0, .string a0_1, .int .i64 a0_2], .int .i64 a1] w fun e w' => ∃ v0_ v1_ : Value, e = .returned (.tuple #[v0_, v1_]) ∧ Kd.R (Kd.int .u32) 50 w' w.heap.size (fun k_ => some k_ ≠ (v1_ : Value).ownBlock) v0_ r1 ∧ Kd.R (Kd.int .u32) 50 w' w.heap.size (fun k_ => some k_ ≠ (v0_ : Value).ownBlock) v1_ r2 ∧ Below w.heap.size w w' := by
  have hu23 := Tryd.underlying23
  have HG := Aside0.mk hG
  clear hG
  have HB := Aside0.mk (Below.refl w.heap.size w)
  have H : ((dec_Coef.f a0_0 a0_1 a0_2).bind fun t133 => ((ten_Cut.f t133 (wrap64 (a1 - a0_2))).bind fun bt136 => (some (bt136.1, bt136.2)))) = some (r1, r2) := h
  clear h
  replace H := Option.bind_eq_some_iff.mp H
  obtain ⟨t133, A30, H⟩ := H
  replace H : ((ten_Cut.f t133 (wrap64 (a1 - a0_2))).bind fun bt136 => (some (bt136.1, bt136.2))) = some (r1, r2) := H
  have A3 := Aside0.mk A30
  clear A30
  replace H := Option.bind_eq_some_iff.mp H
  obtain ⟨⟨t136, t137⟩, A40, H⟩ := H
  replace H : (some (t136, t137)) = some (r1, r2) := H
  have A4 := Aside0.mk A40
  clear A40
  simp only [Option.some.injEq, Prod.mk.injEq] at H
  obtain ⟨rfl, rfl⟩ := H
  go_enter Tryd.func32, Tryd.ntmps32
  try go_wp2_with (first | ((with_reducible refine gate_dst (N := 2) rfl ?_); refine box_event ?hg (N := 2) ?hd (cs := #[.bool a0_0, .string a0_1, .int .i64 a0_2]) (t := 23) ?hr ?_; (case hd => rfl); (case hg => rfl); (case hr => first | (go_simp; done) | (go_simp; rfl)); intro gb132 hg w5 hbox hb; have n0_ := Aside0.mk (below_step (by repeat (first | (with_reducible first | exact HB.out | apply below_alloc | apply pw_below_drewN | apply below_drew1) | exact HB.out)) hb); have n1_ := Aside0.mk (hbox); have n2_ := Aside0.mk ((by rw [hg]; exact (below_size (by repeat (first | (with_reducible first | exact HB.out | apply below_alloc | apply pw_below_drewN | apply below_drew1) | exact HB.out))) : w.heap.size ≤ gb132)); have n3_ := Aside0.mk ((by rw [hg]; exact (below_size (by repeat (first | (with_reducible first | exact HB.out | apply below_alloc | apply pw_below_drewN | apply below_drew1) | exact HB.out))) : w.heap.size ≤ gb132)); clear HB; have HB := n0_; have BK132 := n1_; have GW132 := n2_; have GE132 := n3_; clear n0_ n1_ n2_ n3_; clear hb hbox hg))
  (try (rw [drewN_self w5]; generalize hq_ : World.drewN w5 _ = w5; have n0_ : Aside0 (w5.heap[gb132]? = some (.cells #[.bool a0_0, .string a0_1, .int .i64 a0_2] 23 (0, 0))) := ⟨by rw [← hq_]; exact (by (with_reducible repeat (first | refine blk_drewN ?_ _ | refine blk_drew ?_ | refine blk_alloc ?_ _)); exact BK132.out)⟩; have n1_ : Aside0 (Below w.heap.size w w5) := ⟨by rw [← hq_]; exact (by repeat (first | (with_reducible first | exact HB.out | apply below_alloc | apply pw_below_drewN | apply below_drew1 | refine below_set ?_ GE132.out) | exact HB.out))⟩; clear BK132 HB hq_; have BK132 := n0_; have HB := n1_; clear n0_ n1_))
  have n0_ := Aside0.mk (blk_drew BK132.out)
  have n1_ := Aside0.mk (below_drew1 HB.out)
  clear BK132
  clear HB
  have BK132 := n0_
  have HB := n1_
  clear n0_ n1_
  refine start_ (n := 11) (S := fun w' => w'.cell? ⟨gb132, 0, none⟩ = some (.bool a0_0) ∧ w'.cell? ⟨gb132, 1, none⟩ = some (.string a0_1) ∧ w'.cell? ⟨gb132, 2, none⟩ = some (.int .i64 a0_2)) (ds := []) #[false, false, false, false, false, false, false, false, false, false, false] (by kernel_rfl) rfl rfl ⟨(blk_cell BK132.out 0).trans rfl, (blk_cell BK132.out 1).trans rfl, (blk_cell BK132.out 2).trans rfl⟩ (fun hHeld => ?_); refine with_tabW place_cut.tab1 place_cut.bits1 (fun HT_ HW_ => ?_)
  generalize w5.drew = w6 at BK132 HB hHeld ⊢
  refine pure_ (i := 2) (N := some 8) (v := ?_) (a' := ?_) #[false, false, true, false, false, false, false, false, false, false, false] rfl rfl (any_of HT_.out (by kernel_rfl)) (fun _ _ _ h => h) (Or.inl ⟨by rfl, ?_⟩) ?_ ?_
  rotate_left
  · intro w'
    go_simp
    with_reducible rfl
  rotate_left
  · simp only [Act.put, List.setIfInBounds_toArray, List.set_cons_zero, List.set_cons_succ]; (try simp only [i64_w]); (try simp only [i32_w])
    rfl
  refine pure_ (i := 3) (N := some 9) (v := ?_) (a' := ?_) #[false, false, true, true, false, false, false, false, false, false, false] rfl rfl (any_of HT_.out (by kernel_rfl)) (fun _ _ _ h => h) (Or.inl ⟨by rfl, ?_⟩) ?_ ?_
  rotate_left
  · intro w'
    go_simp
    with_reducible rfl
  rotate_left
  · simp only [Act.put, List.setIfInBounds_toArray, List.set_cons_zero, List.set_cons_succ]; (try simp only [i64_w]); (try simp only [i32_w])
    rfl
  refine take_ (i := 0) (N := some 6) (v := ?_) (a' := ?_) #[true, false, true, true, false, false, false, false, false, false, false] rfl rfl (take_ofW HT_.out HW_.out (by kernel_rfl)) (fun _ _ _ h => h) (Or.inl ⟨by rfl, ?_⟩) hHeld ?_ ?_
  rotate_left
  · rintro w' ⟨s0, s1, s2⟩
    go_simp
    with_reducible rfl
  rotate_left
  · simp only [Act.put, List.setIfInBounds_toArray, List.set_cons_zero, List.set_cons_succ]; (try simp only [i64_w]); (try simp only [i32_w])
    rfl
  refine take_ (i := 4) (N := some 10) (v := ?_) (a' := ?_) #[true, false, true, true, true, false, false, false, false, false, false] rfl rfl (take_ofW HT_.out HW_.out (by kernel_rfl)) (fun _ _ _ h => h) (Or.inl ⟨by rfl, ?_⟩) hHeld ?_ ?_
  rotate_left
  · rintro w' ⟨s0, s1, s2⟩
    go_simp
    with_reducible rfl
  rotate_left
  · simp only [Act.put, List.setIfInBounds_toArray, List.set_cons_zero, List.set_cons_succ]; (try simp only [i64_w]); (try simp only [i32_w])
    rfl
  refine pure_ (i := 5) (N := some 11) (v := ?_) (a' := ?_) #[true, false, true, true, true, true, false, false, false, false, false] rfl rfl (any_of HT_.out (by kernel_rfl)) (fun _ _ _ h => h) (Or.inl ⟨by rfl, ?_⟩) ?_ ?_
  rotate_left
  · intro w'
    go_simp
    with_reducible rfl
  rotate_left
  · simp only [Act.put, List.setIfInBounds_toArray, List.set_cons_zero, List.set_cons_succ]; (try simp only [i64_w]); (try simp only [i32_w])
    rfl
  refine one_ (i := 1) (N := some 7) #[true, true, true, true, true, true, false, false, false, false, false] rfl rfl (one_of HT_.out (by kernel_rfl)) (by decide) (fun K hK => ?_)
  refine goes_ Tryd.func54 (by kernel_rfl) rfl #[.agg #[.bool a0_0, .string a0_1, .int .i64 a0_2]] (by rfl) rfl rfl (by (try simp only [List.map_toArray]); (try simp only [List.map_cons]); (try simp only [List.map_nil]); first | done | rfl | (simp only [List.length_drop, List.length_take]; rfl)) ?_
  with_reducible refine (dec_Coef.calls a0_0 a0_1 a0_2 t133 _ A3.out).mono ?_
  rintro e w7 ⟨v134, rfl, ho0, hb⟩
  refine ⟨_, rfl, ?_⟩
  have n0_ := Aside0.mk (Kd.R_lower ho0 (below_size (by repeat (first | (with_reducible first | exact HB.out | apply below_alloc | apply pw_below_drewN | apply below_drew1 | refine below_set ?_ GE132.out) | exact HB.out))))
  have n1_ := Aside0.mk (blk_below (g := gb132) (o := .cells #[.bool a0_0, .string a0_1, .int .i64 a0_2] 23 (0, 0)) (by (with_reducible repeat (first | refine blk_drewN ?_ _ | refine blk_drew ?_ | refine blk_alloc ?_ _)); exact BK132.out) hb)
  have n2_ := Aside0.mk (below_step (by repeat (first | (with_reducible first | exact HB.out | apply below_alloc | apply pw_below_drewN | apply below_drew1 | refine below_set ?_ GE132.out) | exact HB.out)) hb)
  clear BK132
  clear HB
  have HO135 := n0_
  have BK132 := n1_
  have HB := n2_
  clear n0_ n1_ n2_
  (try clear hb)
  (try clear hb2)
  (try clear hk)
  (try clear hi)
  (try clear ho0)
  obtain ⟨Ao8, co8, eo8⟩ := Kd.R_slice HO135.out
  (first | subst eo8 | (injection eo8 with f1_ f2_ f3_; have f4_ := f1_.symm; have f5_ := f3_.symm; clear f1_ f2_ f3_; subst f4_; subst f5_))
  refine hK.out _ _ ⟨(blk_cell BK132.out 0).trans rfl, (blk_cell BK132.out 1).trans rfl, (blk_cell BK132.out 2).trans rfl⟩ (fun hHeld => ?_)
  clear hK K
  refine norm_ (a' := ?_) ?_ ?_
  rotate_left
  · show Act.put _ (some 7) _ = _
    simp only [Act.put, List.setIfInBounds_toArray, List.set_cons_zero, List.set_cons_succ]; (try simp only [i64_w]); (try simp only [i32_w])
    rfl
  refine one_ (i := 6) (N := some 12) #[true, true, true, true, true, true, true, false, false, false, false] rfl rfl (one_of HT_.out (by kernel_rfl)) (by decide) (fun K hK => ?_)
  refine goes_ Tryd.func53 (by kernel_rfl) rfl #[.slice Ao8 t133.length co8, .int .i64 (wrap64 (a1 - a0_2))] (by rfl) rfl rfl (by (try simp only [List.map_toArray]); (try simp only [List.map_cons]); (try simp only [List.map_nil]); first | done | rfl | (simp only [List.length_drop, List.length_take]; rfl)) ?_
  with_reducible refine (ten_Cut.calls _ _ t133 (wrap64 (a1 - a0_2)) t136 t137 _ ?side1 ?side2 ?side3 A4.out).mono ?_
  (case side1 => exact Fig.Glob.below HG.out (by repeat (first | (with_reducible first | exact HB.out | apply below_alloc | apply pw_below_drewN | apply below_drew1 | refine below_set ?_ GE132.out) | exact HB.out)))
  (case side2 => repeat (first | exact (Kd.R_reads' HO135.out).2.2 | (with_reducible refine Kd.C_alloc ?_ _) | (with_reducible refine Kd.C_drewN ?_ _) | (with_reducible refine Kd.C_drew ?_)))
  (case side3 => exact (Kd.R_reads' HO135.out).2.1)
  rintro e w9 ⟨v138, v140, rfl, ho0, ho1, hb⟩
  refine ⟨_, rfl, ?_⟩
  have n0_ := Aside0.mk (Kd.R_mono (Kd.R_told (Kd.R_told (Kd.R_old (by (with_reducible repeat (first | apply Kd.R_alloc | apply Kd.R_drewN | apply Kd.R_drew)); exact HO135.out) hb) (Kd.R_base ho0)) (Kd.R_base ho1)) (fun _ h_ => h_.1))
  have n1_ := Aside0.mk (Kd.R_lower (Kd.R_new' ho0 (Kd.R_lt (by (with_reducible repeat (first | apply Kd.R_alloc | apply Kd.R_drewN | apply Kd.R_drew)); exact HO135.out))) (below_size (by repeat (first | (with_reducible first | exact HB.out | apply below_alloc | apply pw_below_drewN | apply below_drew1 | refine below_set ?_ GE132.out) | exact HB.out))))
  have n2_ := Aside0.mk (Kd.R_lower (Kd.R_new' ho1 (Kd.R_lt (by (with_reducible repeat (first | apply Kd.R_alloc | apply Kd.R_drewN | apply Kd.R_drew)); exact HO135.out))) (below_size (by repeat (first | (with_reducible first | exact HB.out | apply below_alloc | apply pw_below_drewN | apply below_drew1 | refine below_set ?_ GE132.out) | exact HB.out))))
  have n3_ := Aside0.mk (blk_below (g := gb132) (o := .cells #[.bool a0_0, .string a0_1, .int .i64 a0_2] 23 (0, 0)) (by (with_reducible repeat (first | refine blk_drewN ?_ _ | refine blk_drew ?_ | refine blk_alloc ?_ _)); exact BK132.out) hb)
  have n4_ := Aside0.mk (below_step (by repeat (first | (with_reducible first | exact HB.out | apply below_alloc | apply pw_below_drewN | apply below_drew1 | refine below_set ?_ GE132.out) | exact HB.out)) hb)
  clear HO135
  clear BK132
  clear HB
  have HO135 := n0_
  have HO139 := n1_
  have HO141 := n2_
  have BK132 := n3_
  have HB := n4_
  clear n0_ n1_ n2_ n3_ n4_
  (try clear hb)
  (try clear hb2)
  (try clear hk)
  (try clear hi)
  (try clear ho0)
  (try clear ho1)
  refine hK.out _ _ ⟨(blk_cell BK132.out 0).trans rfl, (blk_cell BK132.out 1).trans rfl, (blk_cell BK132.out 2).trans rfl⟩ (fun hHeld => ?_)
  clear hK K
  refine norm_ (a' := ?_) ?_ ?_
  rotate_left
  · show Act.put _ (some 12) _ = _
    simp only [Act.put, List.setIfInBounds_toArray, List.set_cons_zero, List.set_cons_succ]; (try simp only [i64_w]); (try simp only [i32_w])
    rfl
  refine pure_ (i := 7) (N := some 13) (v := ?_) (a' := ?_) #[true, true, true, true, true, true, true, true, false, false, false] rfl rfl (any_of HT_.out (by kernel_rfl)) (fun _ _ _ h => h) (Or.inl ⟨by rfl, ?_⟩) ?_ ?_
  rotate_left
  · intro w'
    go_simp
    with_reducible rfl
  rotate_left
  · simp only [Act.put, List.setIfInBounds_toArray, List.set_cons_zero, List.set_cons_succ]; (try simp only [i64_w]); (try simp only [i32_w])
    rfl
  refine pure_ (i := 8) (N := some 14) (v := ?_) (a' := ?_) #[true, true, true, true, true, true, true, true, true, false, false] rfl rfl (any_of HT_.out (by kernel_rfl)) (fun _ _ _ h => h) (Or.inl ⟨by rfl, ?_⟩) ?_ ?_
  rotate_left
  · intro w'
    go_simp
    with_reducible rfl
  rotate_left
  · simp only [Act.put, List.setIfInBounds_toArray, List.set_cons_zero, List.set_cons_succ]; (try simp only [i64_w]); (try simp only [i32_w])
    rfl
  refine pure_ (i := 9) (N := some 4) (v := ?_) (a' := ?_) #[true, true, true, true, true, true, true, true, true, true, false] rfl rfl (any_of HT_.out (by kernel_rfl)) (fun _ _ _ h => h) (Or.inl ⟨by rfl, ?_⟩) ?_ ?_
  rotate_left
  · intro w'
    go_simp
    with_reducible rfl
  rotate_left
  · simp only [Act.put, List.setIfInBounds_toArray, List.set_cons_zero, List.set_cons_succ]; (try simp only [i64_w]); (try simp only [i32_w])
    rfl
  refine pure_ (i := 10) (N := some 5) (v := ?_) (a' := ?_) #[true, true, true, true, true, true, true, true, true, true, true] rfl rfl (any_of HT_.out (by kernel_rfl)) (fun _ _ _ h => h) (Or.inl ⟨by rfl, ?_⟩) ?_ ?_
  rotate_left
  · intro w'
    go_simp
    with_reducible rfl
  rotate_left
  · simp only [Act.put, List.setIfInBounds_toArray, List.set_cons_zero, List.set_cons_succ]; (try simp only [i64_w]); (try simp only [i32_w])
    rfl
  refine done_ (done_of HT_.out (by kernel_rfl)) ?_
  try go_wp2
  go_ret2
  exact ⟨_, _, by first | rfl | (simp [errW_none, errW_some] <;> rfl) | (simp [*, errW_none, errW_some] <;> rfl), by (with_reducible repeat (first | apply Kd.R_alloc | apply Kd.R_drewN | apply Kd.R_drew)); exact Kd.R_mono HO139.out (fun _ hk => hk.1), by (with_reducible repeat (first | apply Kd.R_alloc | apply Kd.R_drewN | apply Kd.R_drew)); exact Kd.R_mono HO141.out (fun _ hk => hk.1), by repeat (first | (with_reducible first | exact HB.out | apply below_alloc | apply pw_below_drewN | apply below_drew1 | refine below_set ?_ GE132.out) | exact HB.out)⟩
end Go.Proofs.YtjpokifkbclkiaaDoor.Px
end
section
namespace Go.Proofs.YtjpokifkbclkiaaDoor.Px
open Fig Go.RowKit Go.Proofs.YtjpokifkbclkiaaDoorW.PrintWords Go.Proofs.YtjpokifkbclkiaaDoorW.PrintLast Go.Proofs.YtjpokifkbclkiaaDoorW.PrintMore
attribute [local go_sem] max2_int min2_int max_two min_two max_three min_three max_four min_four   -- for this text's walks alone
attribute [local go_sem] fieldA23_0 fieldA23_1 fieldA23_2
def place_Fits.f (a0_0 : Bool) (a0_1 : ByteArray) (a0_2 : Int) (a1 : Int) : Option (Bool) := if a1 ≤ a0_2 then (some true) else ((place_cut.f a0_0 a0_1 a0_2 a1).bind fun bt143 => (some ((bt143.2.length : Int) == 0)))
set_option maxHeartbeats 8000000 in
set_option maxRecDepth 100000 in
theorem place_Fits.calls (a0_0 : Bool) (a0_1 : ByteArray) (a0_2 : Int) (a1 : Int) (r : Bool) (w : World) (hG : Fig.Glob w) (h : place_Fits.f a0_0 a0_1 a0_2 a1 = some r) :
    Calls Tryd.prog 18 #[.agg #[.bool a0_0, .string a0_1, .int .i64 a0_2], .int .i64 a1] w fun e w' => e = .returned (.bool r) ∧ Below w.heap.size w w' := by
  have hu23 := Tryd.underlying23
  have HG := Aside0.mk hG
  clear hG
  have HB := Aside0.mk (Below.refl w.heap.size w)
  have H : (if a1 ≤ a0_2 then (some true) else ((place_cut.f a0_0 a0_1 a0_2 a1).bind fun bt143 => (some ((bt143.2.length : Int) == 0)))) = some r := h
  clear h
  by_cases c3 : a1 ≤ a0_2
  · rw [if_pos c3] at H
    have c3b0 : decide (a1 ≤ a0_2) = true := decide_eq_true c3
    clear c3
    obtain rfl := Option.some.inj H
    go_enter Tryd.func18, Tryd.ntmps18
    go_wp2_with (first | ((with_reducible refine gate_dst (N := 2) rfl ?_); refine box_event ?hg (N := 2) ?hd (cs := #[.bool a0_0, .string a0_1, .int .i64 a0_2]) (t := 23) ?hr ?_; (case hd => rfl); (case hg => rfl); (case hr => first | (go_simp; done) | (go_simp; rfl)); intro gb142 hg w4 hbox hb; have n0_ := Aside0.mk (below_step (by repeat (first | (with_reducible first | exact HB.out | apply below_alloc | apply pw_below_drewN | apply below_drew1) | exact HB.out)) hb); have n1_ := Aside0.mk (hbox); have n2_ := Aside0.mk ((by rw [hg]; exact (below_size (by repeat (first | (with_reducible first | exact HB.out | apply below_alloc | apply pw_below_drewN | apply below_drew1) | exact HB.out))) : w.heap.size ≤ gb142)); have n3_ := Aside0.mk ((by rw [hg]; exact (below_size (by repeat (first | (with_reducible first | exact HB.out | apply below_alloc | apply pw_below_drewN | apply below_drew1) | exact HB.out))) : w.heap.size ≤ gb142)); clear HB; have HB := n0_; have BK142 := n1_; have GW142 := n2_; have GE142 := n3_; clear n0_ n1_ n2_ n3_; clear hb hbox hg; have hcz5_0 : w4.cell? ⟨gb142, 0, none⟩ = some (.bool a0_0) := (blk_cell BK142.out 0).trans rfl; have hcz5_1 : w4.cell? ⟨gb142, 1, none⟩ = some (.string a0_1) := (blk_cell BK142.out 1).trans rfl; have hcz5_2 : w4.cell? ⟨gb142, 2, none⟩ = some (.int .i64 a0_2) := (blk_cell BK142.out 2).trans rfl; have hfz5_0 := blk_frozen BK142.out 0; have hfz5_1 := blk_frozen BK142.out 1; have hfz5_2 := blk_frozen BK142.out 2))
    go_ret
    exact ⟨by first | rfl | (simp [errW_none, errW_some] <;> rfl) | (simp [*, errW_none, errW_some] <;> rfl), by repeat (first | (with_reducible first | exact HB.out | apply below_alloc | apply pw_below_drewN | apply below_drew1 | refine below_set ?_ GE142.out) | exact HB.out)⟩
  · rw [if_neg c3] at H
    have c3b0 : decide (a1 ≤ a0_2) = false := decide_eq_false c3
    clear c3
    replace H := Option.bind_eq_some_iff.mp H
    obtain ⟨⟨t143, t146⟩, A60, H⟩ := H
    replace H : (some ((t146.length : Int) == 0)) = some r := H
    have A6 := Aside0.mk A60
    clear A60
    obtain rfl := Option.some.inj H
    go_enter Tryd.func18, Tryd.ntmps18
    go_wp2_with (first | ((with_reducible refine gate_dst (N := 2) rfl ?_); refine box_event ?hg (N := 2) ?hd (cs := #[.bool a0_0, .string a0_1, .int .i64 a0_2]) (t := 23) ?hr ?_; (case hd => rfl); (case hg => rfl); (case hr => first | (go_simp; done) | (go_simp; rfl)); intro gb142 hg w7 hbox hb; have n0_ := Aside0.mk (below_step (by repeat (first | (with_reducible first | exact HB.out | apply below_alloc | apply pw_below_drewN | apply below_drew1) | exact HB.out)) hb); have n1_ := Aside0.mk (hbox); have n2_ := Aside0.mk ((by rw [hg]; exact (below_size (by repeat (first | (with_reducible first | exact HB.out | apply below_alloc | apply pw_below_drewN | apply below_drew1) | exact HB.out))) : w.heap.size ≤ gb142)); have n3_ := Aside0.mk ((by rw [hg]; exact (below_size (by repeat (first | (with_reducible first | exact HB.out | apply below_alloc | apply pw_below_drewN | apply below_drew1) | exact HB.out))) : w.heap.size ≤ gb142)); clear HB; have HB := n0_; have BK142 := n1_; have GW142 := n2_; have GE142 := n3_; clear n0_ n1_ n2_ n3_; clear hb hbox hg; have hcz8_0 : w7.cell? ⟨gb142, 0, none⟩ = some (.bool a0_0) := (blk_cell BK142.out 0).trans rfl; have hcz8_1 : w7.cell? ⟨gb142, 1, none⟩ = some (.string a0_1) := (blk_cell BK142.out 1).trans rfl; have hcz8_2 : w7.cell? ⟨gb142, 2, none⟩ = some (.int .i64 a0_2) := (blk_cell BK142.out 2).trans rfl; have hfz8_0 := blk_frozen BK142.out 0; have hfz8_1 := blk_frozen BK142.out 1; have hfz8_2 := blk_frozen BK142.out 2) | ((with_reducible refine gate_callee (f := 32) rfl ?_); refine goesL_ (some 14) rfl rfl Tryd.func32 (by kernel_rfl) rfl #[.agg #[.bool a0_0, .string a0_1, .int .i64 a0_2], .int .i64 a1] rfl (by (try simp only [List.map_toArray]); (try simp only [List.map_cons]); (try simp only [List.map_nil]); first | done | rfl | (simp only [List.length_drop, List.length_take]; rfl)) ?_; (with_reducible refine (place_cut.calls a0_0 a0_1 a0_2 a1 t143 t146 _ ?side1 A6.out).mono ?_); (case side1 => exact Fig.Glob.below HG.out (by repeat (first | (with_reducible first | exact HB.out | apply below_alloc | apply pw_below_drewN | apply below_drew1 | refine below_set ?_ GE142.out) | exact HB.out))); rintro e w9 ⟨v144, v147, rfl, ho0, ho1, hb⟩; refine ⟨_, rfl, ?_⟩; have n0_ := Aside0.mk (Kd.R_lower ho0 (below_size (by repeat (first | (with_reducible first | exact HB.out | apply below_alloc | apply pw_below_drewN | apply below_drew1 | refine below_set ?_ GE142.out) | exact HB.out)))); have n1_ := Aside0.mk (Kd.R_lower ho1 (below_size (by repeat (first | (with_reducible first | exact HB.out | apply below_alloc | apply pw_below_drewN | apply below_drew1 | refine below_set ?_ GE142.out) | exact HB.out)))); have n2_ := Aside0.mk (blk_below (g := gb142) (o := .cells #[.bool a0_0, .string a0_1, .int .i64 a0_2] 23 (0, 0)) (by (with_reducible repeat (first | refine blk_drewN ?_ _ | refine blk_drew ?_ | refine blk_alloc ?_ _)); exact BK142.out) hb); have n3_ := Aside0.mk (below_step (by repeat (first | (with_reducible first | exact HB.out | apply below_alloc | apply pw_below_drewN | apply below_drew1 | refine below_set ?_ GE142.out) | exact HB.out)) hb); clear BK142; clear HB; have HO145 := n0_; have HO148 := n1_; have BK142 := n2_; have HB := n3_; clear n0_ n1_ n2_ n3_; (try clear hb); (try clear hb2); (try clear hk); (try clear hi); (try clear ho0); (try clear ho1); obtain ⟨Ao10, co10, eo10⟩ := Kd.R_slice HO148.out; subst eo10))
    go_ret
    exact ⟨by first | rfl | (simp [errW_none, errW_some] <;> rfl) | (simp [*, errW_none, errW_some] <;> rfl), by repeat (first | (with_reducible first | exact HB.out | apply below_alloc | apply pw_below_drewN | apply below_drew1 | refine below_set ?_ GE142.out) | exact HB.out)⟩
end Go.Proofs.YtjpokifkbclkiaaDoor.Px
end
section
namespace Go.Proofs.YtjpokifkbclkiaaDoor.Px
open Fig Go.RowKit Go.Proofs.YtjpokifkbclkiaaDoorW.PrintWords Go.Proofs.YtjpokifkbclkiaaDoorW.PrintLast Go.Proofs.YtjpokifkbclkiaaDoorW.PrintMore
attribute [local go_sem] max2_int min2_int max_two min_two max_three min_three max_four min_four   -- for this text's walks alone
attribute [local go_sem] fieldA23_0 fieldA23_1 fieldA23_2
def mode_Good.f (a0 : Int) : Option (Bool) := if a0 ≥ 0 then (some (decide (a0 < 8))) else (some false)
set_option maxHeartbeats 8000000 in
set_option maxRecDepth 100000 in
theorem mode_Good.calls (a0 : Int) (r : Bool) (w : World) (h : mode_Good.f a0 = some r) :
    Calls Tryd.prog 30 #[.int .i64 a0] w fun e w' => e = .returned (.bool r) ∧ Drawn0 w w' := by
  have H : (if a0 ≥ 0 then (some (decide (a0 < 8))) else (some false)) = some r := h
  clear h
  by_cases c2 : a0 ≥ 0
  · rw [if_pos c2] at H
    have c2b0 : decide (0 ≤ a0) = true := decide_eq_true c2
    clear c2
    obtain rfl := Option.some.inj H
    go_enter Tryd.func30, Tryd.ntmps30
    go_wp2
    go_ret
    exact ⟨by first | rfl | (simp; done) | (simp [*]; done) | (simp [*, Fig.bne_nil]; done), by repeat (first | exact Drawn0.refl _ | apply Drawn0.step)⟩
  · rw [if_neg c2] at H
    have c2b0 : decide (0 ≤ a0) = false := decide_eq_false c2
    clear c2
    obtain rfl := Option.some.inj H
    go_enter Tryd.func30, Tryd.ntmps30
    go_wp2
    go_ret
    exact ⟨by first | rfl | (simp; done) | (simp [*]; done) | (simp [*, Fig.bne_nil]; done), by repeat (first | exact Drawn0.refl _ | apply Drawn0.step)⟩
end Go.Proofs.YtjpokifkbclkiaaDoor.Px
end
section
namespace Go.Proofs
open Go.Shelf
def Tryd.lays169_ren : Go.Shelf.Ren := ⟨fun | 169 => 63 | n => n, fun | 70 => 74 | 9 => 9 | 0 => 0 | 72 => 77 | 37 => 75 | 127 => 105 | 3 => 3 | 5 => 5 | n => n, fun | n => n⟩
theorem Tryd.lays169 : Go.Proofs.Lays.n169 Tryd.prog Tryd.lays169_ren := {
  mixed := by kernel_rfl
  f169 := Tryd.func63.trans (congrArg some (by kernel_rfl))
  t0 := Tryd.underlying0
  a0 := Tryd.isAgg0
  z0 := Tryd.sizeOf0
  v0 := Tryd.zeroValue0
  t3 := Tryd.underlying3
  a3 := Tryd.isAgg3
  z3 := Tryd.sizeOf3
  v3 := Tryd.zeroValue3
  t9 := Tryd.underlying9
  a9 := Tryd.isAgg9
  z9 := Tryd.sizeOf9
  v9 := Tryd.zeroValue9
  t37 := Tryd.underlying75
  a37 := Tryd.isAgg75
  z37 := Tryd.sizeOf75
  v37 := Tryd.zeroValue75
  t70 := Tryd.underlying74
  a70 := Tryd.isAgg74
  z70 := Tryd.sizeOf74
  v70 := Tryd.zeroValue74
  t72 := Tryd.underlying77
  a72 := Tryd.isAgg77
  z72 := Tryd.sizeOf77
  v72 := Tryd.zeroValue77
  t127 := Tryd.underlying105
  a127 := Tryd.isAgg105
  z127 := Tryd.sizeOf105
  v127 := Tryd.zeroValue105 }
theorem Tryd.Builder_Extra_169 : Builder.Extra Tryd.prog Tryd.lays169_ren := {
  sizeBuilder := by kernel_rfl
  liesBuilder := by kernel_rfl
  t5 := Tryd.underlying5
  a5 := Tryd.isAgg5
  z5 := Tryd.sizeOf5
  v5 := Tryd.zeroValue5
  infoByte := by kernel_rfl
  cellsByte := by kernel_rfl
  sizeByte := by kernel_rfl
  neB5 := by decide }
def Tryd.lays161_ren : Go.Shelf.Ren := ⟨fun | 161 => 51 | 231 => 66 | 227 => 67 | 233 => 68 | 235 => 69 | 228 => 81 | 197 => 82 | 151 => 83 | 260 => 86 | 152 => 87 | 137 => 89 | 119 => 90 | 224 => 91 | 225 => 92 | 217 => 93 | 266 => 94 | n => n, fun | 9 => 9 | 4 => 4 | 3 => 3 | 5 => 5 | 117 => 93 | 116 => 92 | 0 => 0 | 124 => 96 | 105 => 107 | 21 => 21 | 119 => 114 | 46 => 115 | 139 => 118 | 138 => 117 | n => n, fun | 3 => 2 | 4 => 3 | n => n⟩
theorem Tryd.lays161 : Go.Proofs.Lays.n161 Tryd.prog Tryd.lays161_ren := {
  mixed := by kernel_rfl
  f119 := Tryd.func90.trans (congrArg some (by kernel_rfl))
  f137 := Tryd.func89.trans (congrArg some (by kernel_rfl))
  f151 := Tryd.func83.trans (congrArg some (by kernel_rfl))
  f152 := Tryd.func87.trans (congrArg some (by kernel_rfl))
  f161 := Tryd.func51.trans (congrArg some (by kernel_rfl))
  f197 := Tryd.func82.trans (congrArg some (by kernel_rfl))
  f217 := Tryd.func93.trans (congrArg some (by kernel_rfl))
  f224 := Tryd.func91.trans (congrArg some (by kernel_rfl))
  f225 := Tryd.func92.trans (congrArg some (by kernel_rfl))
  f227 := Tryd.func67.trans (congrArg some (by kernel_rfl))
  f228 := Tryd.func81.trans (congrArg some (by kernel_rfl))
  f231 := Tryd.func66.trans (congrArg some (by kernel_rfl))
  f233 := Tryd.func68.trans (congrArg some (by kernel_rfl))
  f235 := Tryd.func69.trans (congrArg some (by kernel_rfl))
  f260 := Tryd.func86.trans (congrArg some (by kernel_rfl))
  f266 := Tryd.func94.trans (congrArg some (by kernel_rfl))
  t0 := Tryd.underlying0
  a0 := Tryd.isAgg0
  z0 := Tryd.sizeOf0
  v0 := Tryd.zeroValue0
  t3 := Tryd.underlying3
  a3 := Tryd.isAgg3
  z3 := Tryd.sizeOf3
  v3 := Tryd.zeroValue3
  t4 := Tryd.underlying4
  a4 := Tryd.isAgg4
  z4 := Tryd.sizeOf4
  v4 := Tryd.zeroValue4
  t5 := Tryd.underlying5
  a5 := Tryd.isAgg5
  z5 := Tryd.sizeOf5
  v5 := Tryd.zeroValue5
  t9 := Tryd.underlying9
  a9 := Tryd.isAgg9
  z9 := Tryd.sizeOf9
  v9 := Tryd.zeroValue9
  t21 := Tryd.underlying21
  a21 := Tryd.isAgg21
  z21 := Tryd.sizeOf21
  v21 := Tryd.zeroValue21
  t46 := Tryd.underlying115
  a46 := Tryd.isAgg115
  z46 := Tryd.sizeOf115
  v46 := Tryd.zeroValue115
  t105 := Tryd.underlying107
  a105 := Tryd.isAgg107
  z105 := Tryd.sizeOf107
  v105 := Tryd.zeroValue107
  t116 := Tryd.underlying92
  a116 := Tryd.isAgg92
  z116 := Tryd.sizeOf92
  t117 := Tryd.underlying93
  a117 := Tryd.isAgg93
  z117 := Tryd.sizeOf93
  v117 := Tryd.zeroValue93
  t119 := Tryd.underlying114
  a119 := Tryd.isAgg114
  z119 := Tryd.sizeOf114
  t124 := Tryd.underlying96
  a124 := Tryd.isAgg96
  z124 := Tryd.sizeOf96
  v124 := Tryd.zeroValue96
  t138 := Tryd.underlying117
  a138 := Tryd.isAgg117
  z138 := Tryd.sizeOf117
  v138 := Tryd.zeroValue117
  t139 := Tryd.underlying118
  a139 := Tryd.isAgg118
  z139 := Tryd.sizeOf118
  v139 := Tryd.zeroValue118
  g3 := by kernel_rfl
  g4 := by kernel_rfl }
open Go.RowKit in
theorem Tryd.strings_TrimLeft_one (s : ByteArray) (c : UInt8) (hc : c.toNat < 128) (w : World) :
    Calls Tryd.prog 51 #[.string s, .string ⟨#[c]⟩] w fun e w' => e = .returned (.string ⟨(Lib.trimLeftB s.data.toList c).toArray⟩) ∧ w' = w := Any.strings_TrimLeft_one Tryd.lays161 s c hc w
def Tryd.lays162_ren : Go.Shelf.Ren := ⟨fun | 162 => 52 | 232 => 70 | 227 => 67 | 234 => 71 | 236 => 72 | 228 => 81 | 271 => 84 | 151 => 83 | 120 => 88 | 197 => 82 | 152 => 87 | 260 => 86 | 137 => 89 | 119 => 90 | 224 => 91 | 225 => 92 | 217 => 93 | 266 => 94 | n => n, fun | 9 => 9 | 4 => 4 | 3 => 3 | 5 => 5 | 117 => 93 | 116 => 92 | 0 => 0 | 124 => 96 | 21 => 21 | 105 => 107 | 46 => 115 | 119 => 114 | 139 => 118 | 138 => 117 | n => n, fun | 3 => 2 | 4 => 3 | n => n⟩
theorem Tryd.lays162 : Go.Proofs.Lays.n162 Tryd.prog Tryd.lays162_ren := {
  mixed := by kernel_rfl
  f119 := Tryd.func90.trans (congrArg some (by kernel_rfl))
  f120 := Tryd.func88.trans (congrArg some (by kernel_rfl))
  f137 := Tryd.func89.trans (congrArg some (by kernel_rfl))
  f151 := Tryd.func83.trans (congrArg some (by kernel_rfl))
  f152 := Tryd.func87.trans (congrArg some (by kernel_rfl))
  f162 := Tryd.func52.trans (congrArg some (by kernel_rfl))
  f197 := Tryd.func82.trans (congrArg some (by kernel_rfl))
  f217 := Tryd.func93.trans (congrArg some (by kernel_rfl))
  f224 := Tryd.func91.trans (congrArg some (by kernel_rfl))
  f225 := Tryd.func92.trans (congrArg some (by kernel_rfl))
  f227 := Tryd.func67.trans (congrArg some (by kernel_rfl))
  f228 := Tryd.func81.trans (congrArg some (by kernel_rfl))
  f232 := Tryd.func70.trans (congrArg some (by kernel_rfl))
  f234 := Tryd.func71.trans (congrArg some (by kernel_rfl))
  f236 := Tryd.func72.trans (congrArg some (by kernel_rfl))
  f260 := Tryd.func86.trans (congrArg some (by kernel_rfl))
  f266 := Tryd.func94.trans (congrArg some (by kernel_rfl))
  f271 := Tryd.func84.trans (congrArg some (by kernel_rfl))
  t0 := Tryd.underlying0
  a0 := Tryd.isAgg0
  z0 := Tryd.sizeOf0
  v0 := Tryd.zeroValue0
  t3 := Tryd.underlying3
  a3 := Tryd.isAgg3
  z3 := Tryd.sizeOf3
  v3 := Tryd.zeroValue3
  t4 := Tryd.underlying4
  a4 := Tryd.isAgg4
  z4 := Tryd.sizeOf4
  v4 := Tryd.zeroValue4
  t5 := Tryd.underlying5
  a5 := Tryd.isAgg5
  z5 := Tryd.sizeOf5
  v5 := Tryd.zeroValue5
  t9 := Tryd.underlying9
  a9 := Tryd.isAgg9
  z9 := Tryd.sizeOf9
  v9 := Tryd.zeroValue9
  t21 := Tryd.underlying21
  a21 := Tryd.isAgg21
  z21 := Tryd.sizeOf21
  v21 := Tryd.zeroValue21
  t46 := Tryd.underlying115
  a46 := Tryd.isAgg115
  z46 := Tryd.sizeOf115
  v46 := Tryd.zeroValue115
  t105 := Tryd.underlying107
  a105 := Tryd.isAgg107
  z105 := Tryd.sizeOf107
  v105 := Tryd.zeroValue107
  t116 := Tryd.underlying92
  a116 := Tryd.isAgg92
  z116 := Tryd.sizeOf92
  t117 := Tryd.underlying93
  a117 := Tryd.isAgg93
  z117 := Tryd.sizeOf93
  v117 := Tryd.zeroValue93
  t119 := Tryd.underlying114
  a119 := Tryd.isAgg114
  z119 := Tryd.sizeOf114
  t124 := Tryd.underlying96
  a124 := Tryd.isAgg96
  z124 := Tryd.sizeOf96
  v124 := Tryd.zeroValue96
  t138 := Tryd.underlying117
  a138 := Tryd.isAgg117
  z138 := Tryd.sizeOf117
  v138 := Tryd.zeroValue117
  t139 := Tryd.underlying118
  a139 := Tryd.isAgg118
  z139 := Tryd.sizeOf118
  v139 := Tryd.zeroValue118
  g3 := by kernel_rfl
  g4 := by kernel_rfl }
open Go.RowKit in
theorem Tryd.strings_TrimRight_one (s : ByteArray) (c : UInt8) (hc : c.toNat < 128) (w : World) (hs : s.size ≤ 9223372036854775807) :
    Calls Tryd.prog 52 #[.string s, .string ⟨#[c]⟩] w fun e w' => e = .returned (.string ⟨(Lib.trimRightB s.data.toList c).toArray⟩) ∧ w' = w := Any.strings_TrimRight_one Tryd.lays162 s c hc w hs
open Go.RowKit in
theorem Tryd.Builder_String_any_k (B b : Nat) (l : List UInt8) (w : World) (h : Lib.IsBuilderF 77 5 B b (Lib.byteCells l) w) (hBw : B ≤ w.heap.size) :
    Calls Tryd.prog 63 #[.pointer (some ⟨b, 0, none⟩)] w fun e w' => e = .returned (.string ⟨l.toArray⟩) ∧ (Lib.IsBuilderF 77 5 B b (Lib.byteCells l) w' ∧ Below B w w' ∧ Lib.OthersKept 5 (some b) w w') := Any.Builder_String_any_k Tryd.lays169 Tryd.Builder_Extra_169 B b l w h hBw
end Go.Proofs
end
section
namespace Go.Proofs.YtjpokifkbclkiaaDoor.Px
open Fig Go.RowKit Go.Proofs.YtjpokifkbclkiaaDoorW.PrintWords Go.Proofs.YtjpokifkbclkiaaDoorW.PrintLast Go.Proofs.YtjpokifkbclkiaaDoorW.PrintMore
attribute [local go_sem] max2_int min2_int max_two min_two max_three min_three max_four min_four   -- for this text's walks alone
attribute [local go_sem] fieldA23_0 fieldA23_1 fieldA23_2
set_option maxRecDepth 100000
def strings_TrimLeft.f (a0 a1 : ByteArray) : Option ByteArray := if a1.data.toList = [48] then some (stripB a0) else none
theorem one_nought {a1 : ByteArray} (h : a1.data.toList = [48]) : a1 = ⟨#[48]⟩ := B_ext h
theorem strings_TrimLeft.calls (a0 a1 r : ByteArray) (w : World) (h : strings_TrimLeft.f a0 a1 = some r) :
    Calls Tryd.prog 51 #[.string a0, .string a1] w fun e w' => e = .returned (.string r) ∧ Below w.heap.size w w' := by
  unfold strings_TrimLeft.f at h
  by_cases hc : a1.data.toList = [48]
  · rw [if_pos hc] at h
    obtain rfl := Option.some.inj h
    obtain rfl := one_nought hc
    exact (Tryd.strings_TrimLeft_one a0 48 (by decide) w).mono fun e w' ⟨h1, h2⟩ => ⟨h1, h2 ▸ Below.refl _ _⟩
  · rw [if_neg hc] at h; cases h
end Go.Proofs.YtjpokifkbclkiaaDoor.Px
end
section
namespace Go.Proofs.YtjpokifkbclkiaaDoor.Px
open Fig Go.RowKit Go.Proofs.YtjpokifkbclkiaaDoorW.PrintWords Go.Proofs.YtjpokifkbclkiaaDoorW.PrintLast Go.Proofs.YtjpokifkbclkiaaDoorW.PrintMore
attribute [local go_sem] max2_int min2_int max_two min_two max_three min_three max_four min_four   -- for this text's walks alone
attribute [local go_sem] fieldA23_0 fieldA23_1 fieldA23_2
set_option maxRecDepth 100000
def strings_TrimRight.f (a0 a1 : ByteArray) : Option ByteArray := if a1.data.toList = [48] ∧ a0.size ≤ 9223372036854775807 then some ⟨(Lib.trimRightB a0.data.toList 48).toArray⟩ else none
theorem one_nought' {a1 : ByteArray} (h : a1.data.toList = [48]) : a1 = ⟨#[48]⟩ := B_ext h
theorem strings_TrimRight.calls (a0 a1 r : ByteArray) (w : World) (h : strings_TrimRight.f a0 a1 = some r) :
    Calls Tryd.prog 52 #[.string a0, .string a1] w fun e w' => e = .returned (.string r) ∧ Below w.heap.size w w' := by
  unfold strings_TrimRight.f at h
  by_cases hc : a1.data.toList = [48] ∧ a0.size ≤ 9223372036854775807
  · rw [if_pos hc] at h
    obtain rfl := Option.some.inj h
    obtain rfl := one_nought' hc.1
    exact (Tryd.strings_TrimRight_one a0 48 (by decide) w hc.2).mono fun e w' ⟨h1, h2⟩ => ⟨h1, h2 ▸ Below.refl _ _⟩
  · rw [if_neg hc] at h; cases h
end Go.Proofs.YtjpokifkbclkiaaDoor.Px
end
