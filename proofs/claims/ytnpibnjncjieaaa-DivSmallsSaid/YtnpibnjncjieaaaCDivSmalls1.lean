/- The functions that the law DivSmalls reaches, told as plain functions, with what is proved of them (part 1). -/
import Derived.Test.YtnpibnjncjieaaaPx0
import Derived.Test.YtnpibnjncjieaaaCDivSmalls0
namespace Go.Proofs.Ytnpibnjncjieaaa.Px
open Fig Go.RowKit Go.Proofs.YtnpibnjncjieaaaW.PrintWords Go.Proofs.YtnpibnjncjieaaaW.PrintLast Go.Proofs.YtnpibnjncjieaaaW.PrintMore
attribute [local go_sem] max2_int min2_int max_two min_two max_three min_three max_four min_four   -- for this text's walks alone

/-! ### figureheadref01_Over: function 12 -/
mutual
def figureheadref01_Over.l0 : Nat → ByteArray → ByteArray → ByteArray → ByteArray → Int → Option (ByteArray × ByteArray)
  | 0, _, _, _, _, _ => none
  | k + 1, x0, x1, x6, x7, x8 => if x8 < (x0.size : Int) then (if 0 ≤ x8 then (if x8 ≤ (wrap64 (x8 + 1)) then (if (wrap64 (x8 + 1)) ≤ (x0.size : Int) then (if x7.size + (x0.extract (x8 : Int).toNat ((wrap64 (x8 + 1)) : Int).toNat).size ≤ 9223372036854775807 then ((figureheadref01_Strip.f k (x7 ++ (x0.extract (x8 : Int).toNat ((wrap64 (x8 + 1)) : Int).toNat))).bind fun t223 => (figureheadref01_Over.l1 k x0 x1 x6 t223 x8 0)) else (none)) else (none)) else (none)) else (none)) else ((figureheadref01_Strip.f k x6).bind fun t222 => (some (t222, x7)))
def figureheadref01_Over.l1 : Nat → ByteArray → ByteArray → ByteArray → ByteArray → Int → Int → Option (ByteArray × ByteArray)
  | 0, _, _, _, _, _, _ => none
  | k + 1, x0, x1, x6, x7, x8, x9 => (figureheadref01_Less.f x7 x1).bind fun t224 => (if t224 = true then ((some (([(wrap64 (48 + x9)) % 256] : List Int) : List Int)).bind fun y225 => (if x6.size + (strOfNums y225).size ≤ 9223372036854775807 then (figureheadref01_Over.l0 k x0 x1 (x6 ++ (strOfNums y225)) x7 (wrap64 (x8 + 1))) else (none))) else ((figureheadref01_Minus.f k x7 x1).bind fun t228 => (figureheadref01_Over.l1 k x0 x1 x6 t228 x8 (wrap64 (x9 + 1)))))
end
def figureheadref01_Over.f (k : Nat) (a0 : ByteArray) (a1 : ByteArray) : Option (ByteArray × ByteArray) := figureheadref01_Over.l0 k a0 a1 (⟨#[]⟩ : ByteArray) (⟨#[]⟩ : ByteArray) 0
theorem figureheadref01_Over.mono_l : ∀ k, (∀ y0 y1 y2 y3 y4, LeO (figureheadref01_Over.l0 k y0 y1 y2 y3 y4) (figureheadref01_Over.l0 (k + 1) y0 y1 y2 y3 y4)) ∧ (∀ y0 y1 y2 y3 y4 y5, LeO (figureheadref01_Over.l1 k y0 y1 y2 y3 y4 y5) (figureheadref01_Over.l1 (k + 1) y0 y1 y2 y3 y4 y5))
  | 0 => ⟨fun _ _ _ _ _ r h => by simp [figureheadref01_Over.l0] at h, fun _ _ _ _ _ _ r h => by simp [figureheadref01_Over.l1] at h⟩
  | k + 1 => by
    obtain ⟨ih0, ih1⟩ := figureheadref01_Over.mono_l k
    refine ⟨?_, ?_⟩
    · intro y0 y1 y2 y3 y4
      unfold figureheadref01_Over.l0
      repeat' first
      | (with_reducible exact ih0 _ _ _ _ _)
      | (with_reducible exact ih1 _ _ _ _ _ _)
      | (with_reducible exact figureheadref01_Minus.mono _ _ _)
      | (with_reducible exact figureheadref01_Strip.mono _ _)
      | (with_reducible exact LeO.refl _)
      | (with_reducible exact LeO.none _)
      | (with_reducible refine LeO.ite ?_ ?_)
      | (with_reducible refine LeO.bind ?_ (fun _ => ?_))
      | exact ih0 _ _ _ _ _
      | exact ih1 _ _ _ _ _ _
      | exact figureheadref01_Minus.mono _ _ _
      | exact figureheadref01_Strip.mono _ _
      | exact LeO.none _
      | refine LeO.ite ?_ ?_
      | refine LeO.bind ?_ (fun _ => ?_)
    · intro y0 y1 y2 y3 y4 y5
      unfold figureheadref01_Over.l1
      repeat' first
      | (with_reducible exact ih0 _ _ _ _ _)
      | (with_reducible exact ih1 _ _ _ _ _ _)
      | (with_reducible exact figureheadref01_Minus.mono _ _ _)
      | (with_reducible exact figureheadref01_Strip.mono _ _)
      | (with_reducible exact LeO.refl _)
      | (with_reducible exact LeO.none _)
      | (with_reducible refine LeO.ite ?_ ?_)
      | (with_reducible refine LeO.bind ?_ (fun _ => ?_))
      | exact ih0 _ _ _ _ _
      | exact ih1 _ _ _ _ _ _
      | exact figureheadref01_Minus.mono _ _ _
      | exact figureheadref01_Strip.mono _ _
      | exact LeO.none _
      | refine LeO.ite ?_ ?_
      | refine LeO.bind ?_ (fun _ => ?_)
theorem figureheadref01_Over.mono : ∀ a0 a1 k, LeO (figureheadref01_Over.f k a0 a1) (figureheadref01_Over.f (k + 1) a0 a1) := by
  intro a0 a1 k
  obtain ⟨ih0, ih1⟩ := figureheadref01_Over.mono_l k
  unfold figureheadref01_Over.f
  repeat' first
      | (with_reducible exact ih0 _ _ _ _ _)
      | (with_reducible exact ih1 _ _ _ _ _ _)
      | (with_reducible exact figureheadref01_Minus.mono _ _ _)
      | (with_reducible exact figureheadref01_Strip.mono _ _)
      | (with_reducible exact LeO.refl _)
      | (with_reducible exact LeO.none _)
      | (with_reducible refine LeO.ite ?_ ?_)
      | (with_reducible refine LeO.bind ?_ (fun _ => ?_))
      | exact ih0 _ _ _ _ _
      | exact ih1 _ _ _ _ _ _
      | exact figureheadref01_Minus.mono _ _ _
      | exact figureheadref01_Strip.mono _ _
      | exact LeO.none _
      | refine LeO.ite ?_ ?_
      | refine LeO.bind ?_ (fun _ => ?_)
set_option maxHeartbeats 8000000 in
set_option maxRecDepth 100000 in
theorem figureheadref01_Over.calls (k : Nat) (a0 : ByteArray) (a1 : ByteArray) (r1 : ByteArray) (r2 : ByteArray) (w : World) (h : figureheadref01_Over.f k a0 a1 = some (r1, r2)) :
    Calls Try.prog 12 #[.string a0, .string a1] w fun e w' => e = .returned (.tuple #[.string r1, .string r2]) ∧ Below w.heap.size w w' := by
  have HB := Aside0.mk (Below.refl w.heap.size w)
  have H : (figureheadref01_Over.l0 k a0 a1 (⟨#[]⟩ : ByteArray) (⟨#[]⟩ : ByteArray) 0) = some (r1, r2) := h
  clear h
  have H' := Aside0.mk H
  clear H
  go_enter Try.func12, Try.ntmps12
  go_wp2
  go_loopg [6, 7, 8] k (fun kq v6 v7 v8 w' => ∃ (x6_1 : ByteArray) (x7_1 : ByteArray) (x8_1 : Int), v6 = .string x6_1 ∧ v7 = .string x7_1 ∧ v8 = .int .i64 x8_1 ∧ Aside0 (figureheadref01_Over.l0 kq a0 a1 x6_1 x7_1 x8_1 = some (r1, r2)) ∧ Aside0 (kq ≤ k) ∧ Aside0 (Below w.heap.size w w'))
  case atStart => exact ⟨((⟨#[]⟩ : ByteArray)), ((⟨#[]⟩ : ByteArray)), (0), (by first | rfl | (simp; done) | (simp [*]; done)), (by first | rfl | (simp; done) | (simp [*]; done)), (by first | rfl | (simp; done) | (simp [*]; done)), H', ⟨Nat.le_refl _⟩, ⟨by repeat (first | (with_reducible first | exact HB.out | apply below_alloc | apply pw_below_drewN | apply below_drew1) | exact HB.out)⟩⟩
  case round =>
    clear H'
    try clear c1
    try clear p2
    obtain ⟨x6_1, x7_1, x8_1, rfl, rfl, rfl, HA, HK1, HB⟩ := hrel
    cases gk with
    | zero => exact absurd HA.out (by simp [figureheadref01_Over.l0])
    | succ k1 =>
      have H := HA.out
      clear HA
      simp only [figureheadref01_Over.l0] at H
      by_cases c3 : x8_1 < (a0.size : Int)
      · rw [if_pos c3] at H
        have c3b0 : decide (x8_1 < (a0.size : Int)) = true := decide_eq_true c3
        clear c3
        by_cases c4 : 0 ≤ x8_1
        · rw [if_pos c4] at H
          have c4b0 := eq_true c4
          have c4b1 : decide (0 ≤ x8_1) = true := decide_eq_true c4
          clear c4
          by_cases c5 : x8_1 ≤ (wrap64 (x8_1 + 1))
          · rw [if_pos c5] at H
            have c5b0 := eq_true c5
            have c5b1 : decide (x8_1 ≤ (wrap64 (x8_1 + 1))) = true := decide_eq_true c5
            by_cases c6 : (wrap64 (x8_1 + 1)) ≤ (a0.size : Int)
            · rw [if_pos c6] at H
              have c6b0 := eq_true c6
              have c6b1 : decide ((wrap64 (x8_1 + 1)) ≤ (a0.size : Int)) = true := decide_eq_true c6
              by_cases c7 : x7_1.size + (a0.extract (x8_1 : Int).toNat ((wrap64 (x8_1 + 1)) : Int).toNat).size ≤ 9223372036854775807
              · rw [if_pos c7] at H
                have c7b0 := eq_true c7
                have c7b1 : decide (x7_1.size + (a0.extract (x8_1 : Int).toNat ((wrap64 (x8_1 + 1)) : Int).toNat).size ≤ 9223372036854775807) = true := decide_eq_true c7
                try have c7b2 : (9223372036854775807 < x7_1.size + (a0.extract (x8_1 : Int).toNat ((wrap64 (x8_1 + 1)) : Int).toNat).size) = False := eq_false (Nat.not_lt.2 c7)
                replace H := Option.bind_eq_some_iff.mp H
                obtain ⟨t223, A80, H⟩ := H
                replace H : (figureheadref01_Over.l1 k1 a0 a1 x6_1 t223 x8_1 0) = some (r1, r2) := H
                have A8 := Aside0.mk A80
                clear A80
                have H' := Aside0.mk H
                clear H
                go_wp2_with (first | ((with_reducible refine gate_callee (f := 22) rfl ?_); refine goesL_ (some 23) rfl rfl Try.func22 (by kernel_rfl) rfl #[.string (x7_1 ++ (a0.extract (x8_1 : Int).toNat ((wrap64 (x8_1 + 1)) : Int).toNat))] rfl (by (try simp only [List.map_toArray, List.map_cons, List.map_nil]); first | done | rfl | (simp only [List.length_drop, List.length_take]; rfl)) ?_; (with_reducible refine (figureheadref01_Strip.calls k1 (x7_1 ++ (a0.extract (x8_1 : Int).toNat ((wrap64 (x8_1 + 1)) : Int).toNat)) t223 _ A8.out).mono ?_); rintro e w' ⟨rfl, ⟨nd, rfl⟩⟩; refine ⟨_, rfl, ?_⟩))
                go_loopg [7, 9] k1 (fun kq v7 v9 w' => ∃ (x7_2 : ByteArray) (x9_2 : Int), v7 = .string x7_2 ∧ v9 = .int .i64 x9_2 ∧ Aside0 (figureheadref01_Over.l1 kq a0 a1 x6_1 x7_2 x8_1 x9_2 = some (r1, r2)) ∧ Aside0 (kq ≤ k1) ∧ Aside0 (Below w.heap.size w w'))
                case atStart => exact ⟨(t223), (0), (by first | rfl | (simp; done) | (simp [*]; done)), (by first | rfl | (simp; done) | (simp [*]; done)), H', ⟨Nat.le_refl _⟩, ⟨by repeat (first | (with_reducible first | exact HB.out | apply below_alloc | apply pw_below_drewN | apply below_drew1) | exact HB.out)⟩⟩
                case round =>
                  clear H'
                  try clear c1
                  try clear c2
                  try clear p2
                  try clear c3
                  try clear c3b0
                  try clear c4
                  try clear c4b0
                  try clear c4b1
                  try clear c5
                  try clear c5b0
                  try clear c5b1
                  try clear c6
                  try clear c6b0
                  try clear c6b1
                  try clear p6
                  try clear c7
                  try clear c7b0
                  try clear c7b1
                  try clear c7b2
                  try clear p2
                  obtain ⟨x7_2, x9_2, rfl, rfl, HA, HK2, HB⟩ := hrel
                  cases gk with
                  | zero => exact absurd HA.out (by simp [figureheadref01_Over.l1])
                  | succ k2 =>
                    have H := HA.out
                    clear HA
                    simp only [figureheadref01_Over.l1] at H
                    replace H := Option.bind_eq_some_iff.mp H
                    obtain ⟨t224, A90, H⟩ := H
                    replace H : (if t224 = true then ((some (([(wrap64 (48 + x9_2)) % 256] : List Int) : List Int)).bind fun y225 => (if x6_1.size + (strOfNums y225).size ≤ 9223372036854775807 then (figureheadref01_Over.l0 k2 a0 a1 (x6_1 ++ (strOfNums y225)) x7_2 (wrap64 (x8_1 + 1))) else (none))) else ((figureheadref01_Minus.f k2 x7_2 a1).bind fun t228 => (figureheadref01_Over.l1 k2 a0 a1 x6_1 t228 x8_1 (wrap64 (x9_2 + 1))))) = some (r1, r2) := H
                    have A9 := Aside0.mk A90
                    clear A90
                    by_cases c10 : t224 = true
                    · subst c10
                      have H1 : ((some (([(wrap64 (48 + x9_2)) % 256] : List Int) : List Int)).bind fun y225 => (if x6_1.size + (strOfNums y225).size ≤ 9223372036854775807 then (figureheadref01_Over.l0 k2 a0 a1 (x6_1 ++ (strOfNums y225)) x7_2 (wrap64 (x8_1 + 1))) else (none))) = some (r1, r2) := by rw [if_pos rfl] at H; exact H
                      clear H
                      have H := H1
                      clear H1
                      obtain ⟨y225, hy225⟩ : ∃ y_ : List Int, y_ = (([(wrap64 (48 + x9_2)) % 256] : List Int)) := ⟨_, rfl⟩
                      replace H : (if x6_1.size + (strOfNums y225).size ≤ 9223372036854775807 then (figureheadref01_Over.l0 k2 a0 a1 (x6_1 ++ (strOfNums y225)) x7_2 (wrap64 (x8_1 + 1))) else (none)) = some (r1, r2) := by first | (rw [hy225]; with_reducible exact H) | (have H2_ := (Option.bind_some _ _).symm.trans H; rw [hy225]; with_reducible exact H2_) | (have H2_ := (Option.bind_some _ _).symm.trans H; with_reducible exact H2_) | with_reducible exact H | (rw [hy225]; exact H) | exact H
                      have Ny225 := Aside0.mk hy225
                      clear hy225
                      by_cases c11 : x6_1.size + (strOfNums y225).size ≤ 9223372036854775807
                      · rw [if_pos c11] at H
                        have c11b0 := eq_true c11
                        have c11b1 : decide (x6_1.size + (strOfNums y225).size ≤ 9223372036854775807) = true := decide_eq_true c11
                        try have c11b2 : (9223372036854775807 < x6_1.size + (strOfNums y225).size) = False := eq_false (Nat.not_lt.2 c11)
                        have H' := Aside0.mk H
                        clear H
                        go_wp2_with (first | ((with_reducible refine gate_callee (f := 16) rfl ?_); refine goesL_ (some 26) rfl rfl Try.func16 (by kernel_rfl) rfl #[.string x7_2, .string a1] rfl (by (try simp only [List.map_toArray, List.map_cons, List.map_nil]); first | done | rfl | (simp only [List.length_drop, List.length_take]; rfl)) ?_; (with_reducible refine (figureheadref01_Less.calls x7_2 a1 true _ A9.out).mono ?_); rintro e w' ⟨rfl, ⟨nd, rfl⟩⟩; refine ⟨_, rfl, ?_⟩) | ((with_reducible refine gate_dst (N := 37) rfl ?_); refine Kd.R_lit (Kd.int .u8) _ 5 ?hg (N := 37) ?hd (xs := ([(wrap64 (48 + x9_2)) % 256] : List Int)) (inner := [.int .u8 ((wrap64 (48 + x9_2)) % 256)]) (ok := fun _ => True) (okp := fun _ => True) ?hr ?hp (fun _ hk => hk) trivial (Below.refl _ _) (Nat.le_refl _) (by simp) ?_; (case hd => rfl); (case hg => rfl); (case hr => first | (go_simp; done) | (go_simp; rfl)); (case hp => exact (Reps.one (show Kd.M (Kd.int .u8) _ _ _ ((wrap64 (48 + x9_2)) % 256) [.int .u8 ((wrap64 (48 + x9_2)) % 256)] from rfl) (Reps.none _ _))); intro v226 w12 ho13 hb hg_ hnew_; clear hg_ hnew_; (first | rw [← Ny225.out] at ho13 | (simp only [Int.reduceToNat] at ho13; rw [← Ny225.out] at ho13)); have n0_ := Aside0.mk (Kd.R_lower ho13 (below_size (by repeat (first | (with_reducible first | exact HB.out | apply below_alloc | apply pw_below_drewN | apply below_drew1) | exact HB.out)))); have n1_ := Aside0.mk (below_step (by repeat (first | (with_reducible first | exact HB.out | apply below_alloc | apply pw_below_drewN | apply below_drew1) | exact HB.out)) hb); clear HB; have HO227 := n0_; have HB := n1_; clear n0_ n1_; clear hb ho13; have hcv14 := own_string (P := Try.prog) Try.underlying45 Try.underlying5 Try.underlying9 (Kd.own_of_R HO227.out)))
                        go_roundg k2
                        case measure => have := HK1.out; have := HK2.out; omega
                        case rel => exact ⟨(x6_1 ++ (strOfNums y225)), (x7_2), (wrap64 (x8_1 + 1)), (by first | rfl | (simp; done) | (simp [*]; done)), (by first | rfl | (simp; done) | (simp [*]; done)), (by first | rfl | (simp; done) | (simp [*]; done)), H', ⟨by have := HK1.out; have := HK2.out; omega⟩, ⟨by repeat (first | (with_reducible first | exact HB.out | apply below_alloc | apply pw_below_drewN | apply below_drew1) | exact HB.out)⟩⟩
                      · rw [if_neg c11] at H
                        exact absurd H (by simp)
                    · replace c10 := Bool.eq_false_iff.mpr c10
                      subst c10
                      have H1 : ((figureheadref01_Minus.f k2 x7_2 a1).bind fun t228 => (figureheadref01_Over.l1 k2 a0 a1 x6_1 t228 x8_1 (wrap64 (x9_2 + 1)))) = some (r1, r2) := by rw [if_neg (show ¬ (false = true) by decide)] at H; exact H
                      clear H
                      have H := H1
                      clear H1
                      replace H := Option.bind_eq_some_iff.mp H
                      obtain ⟨t228, A150, H⟩ := H
                      replace H : (figureheadref01_Over.l1 k2 a0 a1 x6_1 t228 x8_1 (wrap64 (x9_2 + 1))) = some (r1, r2) := H
                      have A15 := Aside0.mk A150
                      clear A150
                      have H' := Aside0.mk H
                      clear H
                      go_wp2_with (first | ((with_reducible refine gate_callee (f := 16) rfl ?_); refine goesL_ (some 26) rfl rfl Try.func16 (by kernel_rfl) rfl #[.string x7_2, .string a1] rfl (by (try simp only [List.map_toArray, List.map_cons, List.map_nil]); first | done | rfl | (simp only [List.length_drop, List.length_take]; rfl)) ?_; (with_reducible refine (figureheadref01_Less.calls x7_2 a1 false _ A9.out).mono ?_); rintro e w' ⟨rfl, ⟨nd, rfl⟩⟩; refine ⟨_, rfl, ?_⟩) | ((with_reducible refine gate_callee (f := 23) rfl ?_); refine goesL_ (some 30) rfl rfl Try.func23 (by kernel_rfl) rfl #[.string x7_2, .string a1] rfl (by (try simp only [List.map_toArray, List.map_cons, List.map_nil]); first | done | rfl | (simp only [List.length_drop, List.length_take]; rfl)) ?_; (with_reducible refine (figureheadref01_Minus.calls k2 x7_2 a1 t228 _ A15.out).mono ?_); rintro e w16 ⟨rfl, hb⟩; refine ⟨_, rfl, ?_⟩; have n0_ := Aside0.mk (below_step (by repeat (first | (with_reducible first | exact HB.out | apply below_alloc | apply pw_below_drewN | apply below_drew1) | exact HB.out)) hb); clear HB; have HB := n0_; clear n0_; (try clear hb); (try clear hb2); (try clear hk); (try clear hi)))
                      go_roundg k2
                      case measure => have := HK1.out; have := HK2.out; omega
                      case rel => exact ⟨(t228), (wrap64 (x9_2 + 1)), (by first | rfl | (simp; done) | (simp [*]; done)), (by first | rfl | (simp; done) | (simp [*]; done)), H', ⟨by have := HK1.out; have := HK2.out; omega⟩, ⟨by repeat (first | (with_reducible first | exact HB.out | apply below_alloc | apply pw_below_drewN | apply below_drew1) | exact HB.out)⟩⟩
              · rw [if_neg c7] at H
                exact absurd H (by simp)
            · rw [if_neg c6] at H
              exact absurd H (by simp)
          · rw [if_neg c5] at H
            exact absurd H (by simp)
        · rw [if_neg c4] at H
          exact absurd H (by simp)
      · rw [if_neg c3] at H
        have c3b0 : decide (x8_1 < (a0.size : Int)) = false := decide_eq_false c3
        clear c3
        replace H := Option.bind_eq_some_iff.mp H
        obtain ⟨t222, A170, H⟩ := H
        replace H : (some (t222, x7_1)) = some (r1, r2) := H
        have A17 := Aside0.mk A170
        clear A170
        simp only [Option.some.injEq, Prod.mk.injEq] at H
        obtain ⟨rfl, rfl⟩ := H
        go_wp2_with (first | ((with_reducible refine gate_callee (f := 22) rfl ?_); refine goesL_ (some 41) rfl rfl Try.func22 (by kernel_rfl) rfl #[.string x6_1] rfl (by (try simp only [List.map_toArray, List.map_cons, List.map_nil]); first | done | rfl | (simp only [List.length_drop, List.length_take]; rfl)) ?_; (with_reducible refine (figureheadref01_Strip.calls k1 x6_1 t222 _ A17.out).mono ?_); rintro e w' ⟨rfl, ⟨nd, rfl⟩⟩; refine ⟨_, rfl, ?_⟩))
        go_ret2
        exact ⟨by first | rfl | (simp [errW_none, errW_some] <;> rfl) | (simp [*, errW_none, errW_some] <;> rfl), by repeat (first | (with_reducible first | exact HB.out | apply below_alloc | apply pw_below_drewN | apply below_drew1) | exact HB.out)⟩

end Go.Proofs.Ytnpibnjncjieaaa.Px

namespace Go.Proofs.Ytnpibnjncjieaaa.Px
open Fig Go.RowKit Go.Proofs.YtnpibnjncjieaaaW.PrintWords Go.Proofs.YtnpibnjncjieaaaW.PrintLast Go.Proofs.YtnpibnjncjieaaaW.PrintMore
attribute [local go_sem] max2_int min2_int max_two min_two max_three min_three max_four min_four   -- for this text's walks alone

/-! ### figureheadref01_Same: function 13 -/
def figureheadref01_Same.l0 : Nat → List Int → List Int → Int → Option (Bool)
  | 0, _, _, _ => none
  | k + 1, x0, x1, x5 => if x5 < (x0.length : Int) then (if 0 ≤ x5 then (if x5 < (x1.length : Int) then (if (rd x0 x5) = (rd x1 x5) then (figureheadref01_Same.l0 k x0 x1 (wrap64 (x5 + 1))) else (some false)) else (none)) else (none)) else (some true)
def figureheadref01_Same.f (k : Nat) (l0 : List Int) (l1 : List Int) : Option (Bool) := if (l0.length : Int) = (l1.length : Int) then (figureheadref01_Same.l0 k l0 l1 0) else (some false)
theorem figureheadref01_Same.mono_l : ∀ k, (∀ y0 y1 y2, LeO (figureheadref01_Same.l0 k y0 y1 y2) (figureheadref01_Same.l0 (k + 1) y0 y1 y2))
  | 0 => fun _ _ _ r h => by simp [figureheadref01_Same.l0] at h
  | k + 1 => by
    have ih0 := figureheadref01_Same.mono_l k
    · intro y0 y1 y2
      unfold figureheadref01_Same.l0
      repeat' first
      | (with_reducible exact ih0 _ _ _)
      | (with_reducible exact LeO.refl _)
      | (with_reducible exact LeO.none _)
      | (with_reducible refine LeO.ite ?_ ?_)
      | (with_reducible refine LeO.bind ?_ (fun _ => ?_))
      | exact ih0 _ _ _
      | exact LeO.none _
      | refine LeO.ite ?_ ?_
      | refine LeO.bind ?_ (fun _ => ?_)
theorem figureheadref01_Same.mono : ∀ a0 a1 k, LeO (figureheadref01_Same.f k a0 a1) (figureheadref01_Same.f (k + 1) a0 a1) := by
  intro a0 a1 k
  have ih0 := figureheadref01_Same.mono_l k
  unfold figureheadref01_Same.f
  repeat' first
      | (with_reducible exact ih0 _ _ _)
      | (with_reducible exact LeO.refl _)
      | (with_reducible exact LeO.none _)
      | (with_reducible refine LeO.ite ?_ ?_)
      | (with_reducible refine LeO.bind ?_ (fun _ => ?_))
      | exact ih0 _ _ _
      | exact LeO.none _
      | refine LeO.ite ?_ ?_
      | refine LeO.bind ?_ (fun _ => ?_)
set_option maxHeartbeats 8000000 in
set_option maxRecDepth 100000 in
theorem figureheadref01_Same.calls (k : Nat) (A0 : Option Addr) (c0 : Nat) (l0 : List Int) (A1 : Option Addr) (c1 : Nat) (l1 : List Int) (r : Bool) (w : World) (hr0 : Kd.C (Kd.int .u32) w A0 l0.length l0) (hc0 : l0.length ≤ c0) (hr1 : Kd.C (Kd.int .u32) w A1 l1.length l1) (hc1 : l1.length ≤ c1) (h : figureheadref01_Same.f k l0 l1 = some r) :
    Calls Try.prog 13 #[.slice A0 l0.length c0, .slice A1 l1.length c1] w fun e w' => e = .returned (.bool r) ∧ Drawn0 w w' := by
  have HR0 := Aside0.mk hr0
  have HC0 := Aside0.mk hc0
  clear hr0 hc0
  have HR1 := Aside0.mk hr1
  have HC1 := Aside0.mk hc1
  clear hr1 hc1
  have H : (if (l0.length : Int) = (l1.length : Int) then (figureheadref01_Same.l0 k l0 l1 0) else (some false)) = some r := h
  clear h
  by_cases c3 : (l0.length : Int) = (l1.length : Int)
  · rw [if_pos c3] at H
    have c3b0 : ((l0.length : Int) == (l1.length : Int)) = true := beq_iff_eq.mpr c3
    have c3b1 : ((l0.length : Int) != (l1.length : Int)) = false := bne_eq_false_iff_eq.mpr c3
    have c3b2 : (l0.length == l1.length) = true := by first | simpa using c3 | (simp at c3 ⊢; omega)
    clear c3
    have H' := Aside0.mk H
    clear H
    go_enter Try.func13, Try.ntmps13
    go_wp2
    repeat (go_quiet (fail); try go_wp2)
    go_loopg [5] k (fun kq v5 w' => ∃ (x5_1 : Int), v5 = .int .i64 x5_1 ∧ Aside0 (figureheadref01_Same.l0 kq l0 l1 x5_1 = some r) ∧ Aside0 (kq ≤ k) ∧ Drawn0 w w')
    case atStart => exact ⟨(0), (by first | rfl | (simp; done) | (simp [*]; done)), H', ⟨Nat.le_refl _⟩, by repeat (first | exact Drawn0.refl _ | apply Drawn0.step)⟩
    case round =>
      clear H'
      try clear c1
      try clear p2
      try clear c3
      try clear c3b0
      try clear c3b1
      try clear c3b2
      obtain ⟨x5_1, rfl, HA, HK1, ⟨m1, rfl⟩⟩ := hrel
      cases gk with
      | zero => exact absurd HA.out (by simp [figureheadref01_Same.l0])
      | succ k1 =>
        have H := HA.out
        clear HA
        simp only [figureheadref01_Same.l0] at H
        by_cases c4 : x5_1 < (l0.length : Int)
        · rw [if_pos c4] at H
          have c4b0 : decide (x5_1 < (l0.length : Int)) = true := decide_eq_true c4
          clear c4
          by_cases c5 : 0 ≤ x5_1
          · rw [if_pos c5] at H
            have c5b0 : decide (0 ≤ x5_1) = true := decide_eq_true c5
            clear c5
            by_cases c6 : x5_1 < (l1.length : Int)
            · rw [if_pos c6] at H
              have c6b0 : decide (x5_1 < (l1.length : Int)) = true := decide_eq_true c6
              clear c6
              by_cases c7 : (rd l0 x5_1) = (rd l1 x5_1)
              · rw [if_pos c7] at H
                have c7b0 : ((rd l0 x5_1) == (rd l1 x5_1)) = true := beq_iff_eq.mpr c7
                have c7b1 : ((rd l0 x5_1) != (rd l1 x5_1)) = false := bne_eq_false_iff_eq.mpr c7
                clear c7
                have H' := Aside0.mk H
                clear H
                have p229 : 0 ≤ (x5_1 : Int) := of_decide_eq_true (by first | (with_reducible assumption) | assumption)
                have q229 : x5_1 < (l0.length : Int) := of_decide_eq_true (by first | (with_reducible assumption) | assumption)
                obtain ⟨ad229, e229, hx229_0⟩ := Kd.at_int HR0.out x5_1 p229 q229
                cases e229
                replace p229 := eq_true p229
                replace q229 := eq_true q229
                have p230 : 0 ≤ (x5_1 : Int) := of_decide_eq_true (by first | (with_reducible assumption) | assumption)
                have q230 : x5_1 < (l1.length : Int) := of_decide_eq_true (by first | (with_reducible assumption) | assumption)
                obtain ⟨ad230, e230, hx230_0⟩ := Kd.at_int HR1.out x5_1 p230 q230
                cases e230
                replace p230 := eq_true p230
                replace q230 := eq_true q230
                go_wp2
                repeat (go_quiet (fail); try go_wp2)
                go_roundg k1
                case measure => have := HK1.out; omega
                case rel => exact ⟨(wrap64 (x5_1 + 1)), (by first | rfl | (simp; done) | (simp [*]; done)), H', ⟨by have := HK1.out; omega⟩, by repeat (first | exact Drawn0.refl _ | apply Drawn0.step)⟩
              · rw [if_neg c7] at H
                have c7b0 : ((rd l0 x5_1) == (rd l1 x5_1)) = false := beq_eq_false_iff_ne.mpr c7
                have c7b1 : ((rd l0 x5_1) != (rd l1 x5_1)) = true := bne_iff_ne.mpr c7
                obtain rfl := Option.some.inj H
                have p229 : 0 ≤ (x5_1 : Int) := of_decide_eq_true (by first | (with_reducible assumption) | assumption)
                have q229 : x5_1 < (l0.length : Int) := of_decide_eq_true (by first | (with_reducible assumption) | assumption)
                obtain ⟨ad229, e229, hx229_0⟩ := Kd.at_int HR0.out x5_1 p229 q229
                cases e229
                replace p229 := eq_true p229
                replace q229 := eq_true q229
                have p230 : 0 ≤ (x5_1 : Int) := of_decide_eq_true (by first | (with_reducible assumption) | assumption)
                have q230 : x5_1 < (l1.length : Int) := of_decide_eq_true (by first | (with_reducible assumption) | assumption)
                obtain ⟨ad230, e230, hx230_0⟩ := Kd.at_int HR1.out x5_1 p230 q230
                cases e230
                replace p230 := eq_true p230
                replace q230 := eq_true q230
                go_wp2
                repeat (go_quiet (fail); try go_wp2)
                go_ret
                exact ⟨by first | rfl | (simp; done) | (simp [*]; done), by repeat (first | exact Drawn0.refl _ | apply Drawn0.step)⟩
            · rw [if_neg c6] at H
              exact absurd H (by simp)
          · rw [if_neg c5] at H
            exact absurd H (by simp)
        · rw [if_neg c4] at H
          have c4b0 : decide (x5_1 < (l0.length : Int)) = false := decide_eq_false c4
          clear c4
          obtain rfl := Option.some.inj H
          go_wp2
          repeat (go_quiet (fail); try go_wp2)
          go_ret
          exact ⟨by first | rfl | (simp; done) | (simp [*]; done), by repeat (first | exact Drawn0.refl _ | apply Drawn0.step)⟩
  · rw [if_neg c3] at H
    have c3b0 : ((l0.length : Int) == (l1.length : Int)) = false := beq_eq_false_iff_ne.mpr c3
    have c3b1 : ((l0.length : Int) != (l1.length : Int)) = true := bne_iff_ne.mpr c3
    have c3b2 : (l0.length == l1.length) = false := by first | simpa using c3 | (simp at c3 ⊢; omega)
    obtain rfl := Option.some.inj H
    go_enter Try.func13, Try.ntmps13
    go_wp2
    repeat (go_quiet (fail); try go_wp2)
    go_ret
    exact ⟨by first | rfl | (simp; done) | (simp [*]; done), by repeat (first | exact Drawn0.refl _ | apply Drawn0.step)⟩

end Go.Proofs.Ytnpibnjncjieaaa.Px

namespace Go.Proofs.Ytnpibnjncjieaaa.Px
open Fig Go.RowKit Go.Proofs.YtnpibnjncjieaaaW.PrintWords Go.Proofs.YtnpibnjncjieaaaW.PrintLast Go.Proofs.YtnpibnjncjieaaaW.PrintMore
attribute [local go_sem] max2_int min2_int max_two min_two max_three min_three max_four min_four   -- for this text's walks alone

/-! ### figureheadref01_Number: function 14 -/
mutual
def figureheadref01_Number.l0 : Nat → ByteArray → List Int → Option (List Int)
  | 0, _, _ => none
  | k + 1, x0, x3 => if (x0.size : Int) > 0 then (figureheadref01_Number.l1 k x0 x3 (mx 0 (wrap64 ((x0.size : Int) - 9))) 0 (mx 0 (wrap64 ((x0.size : Int) - 9)))) else (some x3)
def figureheadref01_Number.l1 : Nat → ByteArray → List Int → Int → Int → Int → Option (List Int)
  | 0, _, _, _, _, _ => none
  | k + 1, x0, x3, x4, x5, x6 => if x6 < (x0.size : Int) then (if 0 ≤ x6 then (figureheadref01_Number.l1 k x0 x3 x4 ((((x5 * 10) % 4294967296) + (((bt x0 x6) - 48) % 256)) % 4294967296) (wrap64 (x6 + 1))) else (none)) else (if x3.length < 35184372088832 then (if 0 ≤ x4 then (if x4 ≤ (x0.size : Int) then (figureheadref01_Number.l0 k (x0.extract 0 (x4 : Int).toNat) (x3 ++ [x5])) else (none)) else (none)) else (none))
end
def figureheadref01_Number.f (k : Nat) (a0 : ByteArray) : Option (List Int) := (figureheadref01_Strip.f k a0).bind fun t231 => (figureheadref01_Number.l0 k t231 ([] : List Int))
theorem figureheadref01_Number.mono_l : ∀ k, (∀ y0 y1, LeO (figureheadref01_Number.l0 k y0 y1) (figureheadref01_Number.l0 (k + 1) y0 y1)) ∧ (∀ y0 y1 y2 y3 y4, LeO (figureheadref01_Number.l1 k y0 y1 y2 y3 y4) (figureheadref01_Number.l1 (k + 1) y0 y1 y2 y3 y4))
  | 0 => ⟨fun _ _ r h => by simp [figureheadref01_Number.l0] at h, fun _ _ _ _ _ r h => by simp [figureheadref01_Number.l1] at h⟩
  | k + 1 => by
    obtain ⟨ih0, ih1⟩ := figureheadref01_Number.mono_l k
    refine ⟨?_, ?_⟩
    · intro y0 y1
      unfold figureheadref01_Number.l0
      repeat' first
      | (with_reducible exact ih0 _ _)
      | (with_reducible exact ih1 _ _ _ _ _)
      | (with_reducible exact figureheadref01_Strip.mono _ _)
      | (with_reducible exact LeO.refl _)
      | (with_reducible exact LeO.none _)
      | (with_reducible refine LeO.ite ?_ ?_)
      | (with_reducible refine LeO.bind ?_ (fun _ => ?_))
      | exact ih0 _ _
      | exact ih1 _ _ _ _ _
      | exact figureheadref01_Strip.mono _ _
      | exact LeO.none _
      | refine LeO.ite ?_ ?_
      | refine LeO.bind ?_ (fun _ => ?_)
    · intro y0 y1 y2 y3 y4
      unfold figureheadref01_Number.l1
      repeat' first
      | (with_reducible exact ih0 _ _)
      | (with_reducible exact ih1 _ _ _ _ _)
      | (with_reducible exact figureheadref01_Strip.mono _ _)
      | (with_reducible exact LeO.refl _)
      | (with_reducible exact LeO.none _)
      | (with_reducible refine LeO.ite ?_ ?_)
      | (with_reducible refine LeO.bind ?_ (fun _ => ?_))
      | exact ih0 _ _
      | exact ih1 _ _ _ _ _
      | exact figureheadref01_Strip.mono _ _
      | exact LeO.none _
      | refine LeO.ite ?_ ?_
      | refine LeO.bind ?_ (fun _ => ?_)
theorem figureheadref01_Number.mono : ∀ a0 k, LeO (figureheadref01_Number.f k a0) (figureheadref01_Number.f (k + 1) a0) := by
  intro a0 k
  obtain ⟨ih0, ih1⟩ := figureheadref01_Number.mono_l k
  unfold figureheadref01_Number.f
  repeat' first
      | (with_reducible exact ih0 _ _)
      | (with_reducible exact ih1 _ _ _ _ _)
      | (with_reducible exact figureheadref01_Strip.mono _ _)
      | (with_reducible exact LeO.refl _)
      | (with_reducible exact LeO.none _)
      | (with_reducible refine LeO.ite ?_ ?_)
      | (with_reducible refine LeO.bind ?_ (fun _ => ?_))
      | exact ih0 _ _
      | exact ih1 _ _ _ _ _
      | exact figureheadref01_Strip.mono _ _
      | exact LeO.none _
      | refine LeO.ite ?_ ?_
      | refine LeO.bind ?_ (fun _ => ?_)
set_option maxHeartbeats 8000000 in
set_option maxRecDepth 100000 in
theorem figureheadref01_Number.calls (k : Nat) (a0 : ByteArray) (r : List Int) (w : World) (h : figureheadref01_Number.f k a0 = some r) :
    Calls Try.prog 14 #[.string a0] w fun e w' => ∃ v0_ : Value, e = .returned (v0_) ∧ Kd.R (Kd.int .u32) 32 w' w.heap.size (fun _ => True) v0_ r ∧ Below w.heap.size w w' := by
  have HB := Aside0.mk (Below.refl w.heap.size w)
  have H : ((figureheadref01_Strip.f k a0).bind fun t231 => (figureheadref01_Number.l0 k t231 ([] : List Int))) = some r := h
  clear h
  replace H := Option.bind_eq_some_iff.mp H
  obtain ⟨t231, A20, H⟩ := H
  replace H : (figureheadref01_Number.l0 k t231 ([] : List Int)) = some r := H
  have A2 := Aside0.mk A20
  clear A20
  have H' := Aside0.mk H
  clear H
  go_enter Try.func14, Try.ntmps14
  go_wp2_with (first | ((with_reducible refine gate_callee (f := 22) rfl ?_); refine goesL_ (some 8) rfl rfl Try.func22 (by kernel_rfl) rfl #[.string a0] rfl (by (try simp only [List.map_toArray, List.map_cons, List.map_nil]); first | done | rfl | (simp only [List.length_drop, List.length_take]; rfl)) ?_; (with_reducible refine (figureheadref01_Strip.calls k a0 t231 _ A2.out).mono ?_); rintro e w' ⟨rfl, ⟨nd, rfl⟩⟩; refine ⟨_, rfl, ?_⟩))
  go_loopg [0, 3] k (fun kq v0 v3 w' => ∃ (x0_1 : ByteArray) (x3_1 : List Int), v0 = .string x0_1 ∧ Aside0 (figureheadref01_Number.l0 kq x0_1 x3_1 = some r) ∧ Aside0 (kq ≤ k) ∧ Aside0 (Kd.R (Kd.int .u32) 32 w' w.heap.size (fun _ => True) v3 x3_1) ∧ Aside0 (Below w.heap.size w w'))
  case atStart => exact ⟨(t231), (([] : List Int)), (by first | rfl | (simp; done) | (simp [*]; done)), H', ⟨Nat.le_refl _⟩, ⟨by first | exact Kd.R_nil _ _ _ _ _ | exact Kd.N_nil _ _ _ _ _ | exact Kd.V_nil _ _ _ _ _ | exact Kd.Q_nil _ _ _ _ _ | exact Kd.S_nil _ _ _ _ _⟩, ⟨by repeat (first | (with_reducible first | exact HB.out | apply below_alloc | apply pw_below_drewN | apply below_drew1) | exact HB.out)⟩⟩
  case round =>
    clear H'
    try clear c1
    try clear c2
    try clear p2
    obtain ⟨x0_1, x3_1, rfl, HA, HK1, HO_3, HB⟩ := hrel
    cases gk with
    | zero => exact absurd HA.out (by simp [figureheadref01_Number.l0])
    | succ k1 =>
      have H := HA.out
      clear HA
      simp only [figureheadref01_Number.l0] at H
      by_cases c3 : (x0_1.size : Int) > 0
      · rw [if_pos c3] at H
        have c3b0 : decide (0 < (x0_1.size : Int)) = true := decide_eq_true c3
        have c3b1 : decide (0 < x0_1.size) = true := decide_eq_true (by omega)
        clear c3
        obtain ⟨ji4, hji4⟩ : ∃ j_ : Int, (mx 0 (wrap64 ((x0_1.size : Int) - 9))) = j_ := ⟨_, rfl⟩
        replace H : (figureheadref01_Number.l1 k1 x0_1 x3_1 ji4 0 ji4) = some r := by first | (rw [hji4] at H; exact H) | (simp only [hji4] at H ⊢; exact H)
        have hji4_ : (if 0 < (wrap64 ((x0_1.size : Int) - 9)) then (wrap64 ((x0_1.size : Int) - 9)) else 0) = ji4 := hji4
        have H' := Aside0.mk H
        clear H
        go_wp2
        go_loopg [5, 6] k1 (fun kq v5 v6 w' => ∃ (x5_2 : Int) (x6_2 : Int), v5 = .int .u32 x5_2 ∧ v6 = .int .i64 x6_2 ∧ Aside0 (figureheadref01_Number.l1 kq x0_1 x3_1 ji4 x5_2 x6_2 = some r) ∧ Aside0 (kq ≤ k1) ∧ Aside0 (Kd.R (Kd.int .u32) 32 w' w.heap.size (fun _ => True) u3 x3_1) ∧ Aside0 (Below w.heap.size w w'))
        case atStart => exact ⟨(0), (ji4), (by first | rfl | (simp; done) | (simp [*]; done)), (by first | rfl | (simp; done) | (simp only [← hji4] <;> (first | rfl | simp)) | (simp [*]; done)), H', ⟨Nat.le_refl _⟩, ⟨by (with_reducible repeat (first | apply Kd.R_alloc | apply Kd.R_drewN | apply Kd.R_drew)); exact HO_3.out⟩, ⟨by repeat (first | (with_reducible first | exact HB.out | apply below_alloc | apply pw_below_drewN | apply below_drew1) | exact HB.out)⟩⟩
        case round =>
          clear H'
          try clear c1
          try clear c2
          try clear p2
          try clear c3
          try clear c3b0
          try clear c3b1
          try clear p2
          obtain ⟨x5_2, x6_2, rfl, rfl, HA, HK2, HO_3, HB⟩ := hrel
          cases gk with
          | zero => exact absurd HA.out (by simp [figureheadref01_Number.l1])
          | succ k2 =>
            have H := HA.out
            clear HA
            simp only [figureheadref01_Number.l1] at H
            by_cases c5 : x6_2 < (x0_1.size : Int)
            · rw [if_pos c5] at H
              have c5b0 : decide (x6_2 < (x0_1.size : Int)) = true := decide_eq_true c5
              clear c5
              by_cases c6 : 0 ≤ x6_2
              · rw [if_pos c6] at H
                have c6b0 : decide (0 ≤ x6_2) = true := decide_eq_true c6
                clear c6
                have H' := Aside0.mk H
                clear H
                have p7 : 0 ≤ (x6_2 : Int) := of_decide_eq_true (by first | (with_reducible assumption) | assumption)
                have q7 : x6_2 < (x0_1.size : Int) := of_decide_eq_true (by first | (with_reducible assumption) | assumption)
                have hx7 := bt_at x0_1 x6_2
                replace p7 := eq_true p7
                replace q7 := eq_true q7
                go_wp2
                go_roundg k2
                case measure => have := HK1.out; have := HK2.out; omega
                case rel => exact ⟨((((x5_2 * 10) % 4294967296) + (((bt x0_1 x6_2) - 48) % 256)) % 4294967296), (wrap64 (x6_2 + 1)), (by first | rfl | (simp; done) | (simp [*]; done)), (by first | rfl | (simp; done) | (simp [*]; done)), H', ⟨by have := HK1.out; have := HK2.out; omega⟩, ⟨by (with_reducible repeat (first | apply Kd.R_alloc | apply Kd.R_drewN | apply Kd.R_drew)); exact HO_3.out⟩, ⟨by repeat (first | (with_reducible first | exact HB.out | apply below_alloc | apply pw_below_drewN | apply below_drew1) | exact HB.out)⟩⟩
              · rw [if_neg c6] at H
                exact absurd H (by simp)
            · rw [if_neg c5] at H
              have c5b0 : decide (x6_2 < (x0_1.size : Int)) = false := decide_eq_false c5
              clear c5
              by_cases c8 : x3_1.length < 35184372088832
              · rw [if_pos c8] at H
                have LMc8 := Aside0.mk c8
                clear c8
                obtain ⟨y232, hy232⟩ : ∃ y_ : List Int, y_ = (x3_1 ++ [x5_2]) := ⟨_, rfl⟩
                replace H : (if 0 ≤ ji4 then (if ji4 ≤ (x0_1.size : Int) then (figureheadref01_Number.l0 k2 (x0_1.extract 0 (ji4 : Int).toNat) y232) else (none)) else (none)) = some r := by first | (rw [hy232]; with_reducible exact H) | (have H2_ := (Option.bind_some _ _).symm.trans H; rw [hy232]; with_reducible exact H2_) | (have H2_ := (Option.bind_some _ _).symm.trans H; with_reducible exact H2_) | with_reducible exact H | (rw [hy232]; exact H) | exact H
                have Ny232 := Aside0.mk hy232
                clear hy232
                by_cases c9 : 0 ≤ ji4
                · rw [if_pos c9] at H
                  have c9b0 := eq_true c9
                  have c9b1 : decide (0 ≤ ji4) = true := decide_eq_true c9
                  clear c9
                  by_cases c10 : ji4 ≤ (x0_1.size : Int)
                  · rw [if_pos c10] at H
                    have c10b0 := eq_true c10
                    have c10b1 : decide (ji4 ≤ (x0_1.size : Int)) = true := decide_eq_true c10
                    clear c10
                    have H' := Aside0.mk H
                    clear H
                    go_wp2_with (first | ((with_reducible refine gate_builtin (b := .append) (xs := #[.tmp 31, .tmp 33]) rfl ?_); at_builtin; refine Kd.R_append (Kd.int .u32) (w0 := w) w.heap.size rfl (.tmp 31) (.tmp 33) 22 32 (.int .u32 0) 4 rfl Try.underlying22 info32 rfl (by decide) (by omega) u3 x3_1 x5_2 [.int .u32 x5_2] (fun _ => True) (fun _ => False) rfl rfl ?aP (fun _ hk => hk.elim) ?aF ?aO ?aB ?aS ?aL ?_; (case aP => exact rfl); (case aB => exact (by repeat (first | (with_reducible first | exact HB.out | apply below_alloc | apply pw_below_drewN | apply below_drew1) | exact HB.out))); (case aF => exact (fun _ _ => trivial)); (case aO => exact (by (with_reducible repeat (first | apply Kd.R_alloc | apply Kd.R_drewN | apply Kd.R_drew)); exact HO_3.out)); (case aS => exact (below_size (by repeat (first | (with_reducible first | exact HB.out | apply below_alloc | apply pw_below_drewN | apply below_drew1) | exact HB.out)))); (case aL => have := LMc8.out; omega); intro v233 w11 ho hb hg hat; rw [← Ny232.out] at ho; have n0_ := Aside0.mk (hb); have n1_ := Aside0.mk (ho); clear HB; clear HO_3; have HB := n0_; have HO234 := n1_; clear n0_ n1_; clear ho hb hg hat))
                    go_roundg k2
                    case measure => have := HK1.out; have := HK2.out; omega
                    case rel => exact ⟨(x0_1.extract 0 (ji4 : Int).toNat), (y232), (by first | rfl | (simp; done) | (simp only [← hji4] <;> (first | rfl | simp)) | (simp [*]; done)), H', ⟨by have := HK1.out; have := HK2.out; omega⟩, ⟨by (with_reducible repeat (first | apply Kd.R_alloc | apply Kd.R_drewN | apply Kd.R_drew)); exact HO234.out⟩, ⟨by repeat (first | (with_reducible first | exact HB.out | apply below_alloc | apply pw_below_drewN | apply below_drew1) | exact HB.out)⟩⟩
                  · rw [if_neg c10] at H
                    exact absurd H (by simp)
                · rw [if_neg c9] at H
                  exact absurd H (by simp)
              · rw [if_neg c8] at H
                exact absurd H (by simp)
      · rw [if_neg c3] at H
        have c3b0 : decide (0 < (x0_1.size : Int)) = false := decide_eq_false c3
        have c3b1 : decide (0 < x0_1.size) = false := decide_eq_false (by omega)
        clear c3
        obtain rfl := Option.some.inj H
        go_wp2
        go_ret
        exact ⟨_, by first | rfl | (simp [errW_none, errW_some] <;> rfl) | (simp [*, errW_none, errW_some] <;> rfl), by (with_reducible repeat (first | apply Kd.R_alloc | apply Kd.R_drewN | apply Kd.R_drew)); exact HO_3.out, by repeat (first | (with_reducible first | exact HB.out | apply below_alloc | apply pw_below_drewN | apply below_drew1) | exact HB.out)⟩

end Go.Proofs.Ytnpibnjncjieaaa.Px

namespace Go.Proofs.Ytnpibnjncjieaaa.Px
open Fig Go.RowKit Go.Proofs.YtnpibnjncjieaaaW.PrintWords Go.Proofs.YtnpibnjncjieaaaW.PrintLast Go.Proofs.YtnpibnjncjieaaaW.PrintMore
attribute [local go_sem] max2_int min2_int max_two min_two max_three min_three max_four min_four   -- for this text's walks alone

/-! ### figureheadlaw03_DivSmalls: function 4 -/
def figureheadlaw03_DivSmalls.f (k : Nat) (l0 : List Int) (a1 : Int) : Option (Bool) := (figureheadlaw03_good.f k (([l0, (([a1] : List Int))] : List (List Int)))).bind fun t268 => (if t268 = true then ((div_Small.f k l0 a1).bind fun bt270 => (if a1 = 0 then ((figureheadlaw03_answers.f k).bind fun t275 => (if t275 = true then (if bt270.2.2 = true then (some false) else (if (bt270.1.length : Int) = 0 then (some (bt270.2.1 == 0)) else (some false))) else (some false))) else ((figureheadref01_Text.f k l0).bind fun t276 => ((figureheadref01_Text.f k (([a1] : List Int))).bind fun t280 => ((figureheadref01_Over.f k t276 t280).bind fun bt281 => ((figureheadlaw03_answers.f k).bind fun t283 => (if t283 = true then (if bt270.2.2 = true then ((figureheadref01_Number.f k bt281.1).bind fun t284 => ((figureheadref01_Same.f k bt270.1 t284).bind fun t287 => (if t287 = true then ((figureheadref01_Text.f k (([bt270.2.1] : List Int))).bind fun t291 => (some (t291.toList == bt281.2.toList))) else (some false)))) else (some false)) else (some false)))))))) else ((figureheadlaw03_answers.f k).bind fun t269 => (some t269)))
theorem figureheadlaw03_DivSmalls.mono : ∀ a0 a1 k, LeO (figureheadlaw03_DivSmalls.f k a0 a1) (figureheadlaw03_DivSmalls.f (k + 1) a0 a1) := by
  intro a0 a1 k
  unfold figureheadlaw03_DivSmalls.f
  repeat' first
      | (with_reducible exact div_Small.mono _ _ _)
      | (with_reducible exact figureheadlaw03_answers.mono _)
      | (with_reducible exact figureheadlaw03_good.mono _ _)
      | (with_reducible exact figureheadref01_Number.mono _ _)
      | (with_reducible exact figureheadref01_Over.mono _ _ _)
      | (with_reducible exact figureheadref01_Same.mono _ _ _)
      | (with_reducible exact figureheadref01_Text.mono _ _)
      | (with_reducible exact LeO.refl _)
      | (with_reducible exact LeO.none _)
      | (with_reducible refine LeO.ite ?_ ?_)
      | (with_reducible refine LeO.bind ?_ (fun _ => ?_))
      | exact div_Small.mono _ _ _
      | exact figureheadlaw03_answers.mono _
      | exact figureheadlaw03_good.mono _ _
      | exact figureheadref01_Number.mono _ _
      | exact figureheadref01_Over.mono _ _ _
      | exact figureheadref01_Same.mono _ _ _
      | exact figureheadref01_Text.mono _ _
      | exact LeO.none _
      | refine LeO.ite ?_ ?_
      | refine LeO.bind ?_ (fun _ => ?_)
set_option maxHeartbeats 8000000 in
set_option maxRecDepth 100000 in
theorem figureheadlaw03_DivSmalls.calls (k : Nat) (P0_ : Nat → Prop) (A0 : Option Addr) (c0 : Nat) (l0 : List Int) (a1 : Int) (r : Bool) (w : World) (HT : Aside0 (r = true)) (hs0 : Kd.V (Kd.int .u32) 32 w w.heap.size (fun k_ => P0_ k_) (.slice A0 l0.length c0) l0) (h : figureheadlaw03_DivSmalls.f k l0 a1 = some r) :
    Calls Try.prog 4 #[.slice A0 l0.length c0, .int .u32 a1] w fun e w' => e = .returned (.bool r) ∧ Below w.heap.size w w' := by
  have HO0 := Aside0.mk (show Kd.V (Kd.int .u32) 32 w w.heap.size (fun k_ => (P0_ k_ ∨ w.heap.size ≤ k_)) (.slice A0 l0.length c0) l0 from Kd.V_mono hs0 (fun k_ hk => .inl hk))
  have HB := Aside0.mk (Below.refl w.heap.size w)
  have H : ((figureheadlaw03_good.f k (([l0, (([a1] : List Int))] : List (List Int)))).bind fun t268 => (if t268 = true then ((div_Small.f k l0 a1).bind fun bt270 => (if a1 = 0 then ((figureheadlaw03_answers.f k).bind fun t275 => (if t275 = true then (if bt270.2.2 = true then (some false) else (if (bt270.1.length : Int) = 0 then (some (bt270.2.1 == 0)) else (some false))) else (some false))) else ((figureheadref01_Text.f k l0).bind fun t276 => ((figureheadref01_Text.f k (([a1] : List Int))).bind fun t280 => ((figureheadref01_Over.f k t276 t280).bind fun bt281 => ((figureheadlaw03_answers.f k).bind fun t283 => (if t283 = true then (if bt270.2.2 = true then ((figureheadref01_Number.f k bt281.1).bind fun t284 => ((figureheadref01_Same.f k bt270.1 t284).bind fun t287 => (if t287 = true then ((figureheadref01_Text.f k (([bt270.2.1] : List Int))).bind fun t291 => (some (t291.toList == bt281.2.toList))) else (some false)))) else (some false)) else (some false)))))))) else ((figureheadlaw03_answers.f k).bind fun t269 => (some t269)))) = some r := h
  clear h
  obtain ⟨y262, hy262⟩ : ∃ y_ : List Int, y_ = (([a1] : List Int)) := ⟨_, rfl⟩
  replace H : ((figureheadlaw03_good.f k (([l0, y262] : List (List Int)))).bind fun t268 => (if t268 = true then ((div_Small.f k l0 a1).bind fun bt270 => (if a1 = 0 then ((figureheadlaw03_answers.f k).bind fun t275 => (if t275 = true then (if bt270.2.2 = true then (some false) else (if (bt270.1.length : Int) = 0 then (some (bt270.2.1 == 0)) else (some false))) else (some false))) else ((figureheadref01_Text.f k l0).bind fun t276 => ((figureheadref01_Text.f k (([a1] : List Int))).bind fun t280 => ((figureheadref01_Over.f k t276 t280).bind fun bt281 => ((figureheadlaw03_answers.f k).bind fun t283 => (if t283 = true then (if bt270.2.2 = true then ((figureheadref01_Number.f k bt281.1).bind fun t284 => ((figureheadref01_Same.f k bt270.1 t284).bind fun t287 => (if t287 = true then ((figureheadref01_Text.f k (([bt270.2.1] : List Int))).bind fun t291 => (some (t291.toList == bt281.2.toList))) else (some false)))) else (some false)) else (some false)))))))) else ((figureheadlaw03_answers.f k).bind fun t269 => (some t269)))) = some r := by first | (rw [hy262]; with_reducible exact H) | (have H2_ := (Option.bind_some _ _).symm.trans H; rw [hy262]; with_reducible exact H2_) | (have H2_ := (Option.bind_some _ _).symm.trans H; with_reducible exact H2_) | with_reducible exact H | (rw [hy262]; exact H) | exact H
  have Ny262 := Aside0.mk hy262
  clear hy262
  obtain ⟨y265, hy265⟩ : ∃ y_ : List (List Int), y_ = (([l0, y262] : List (List Int))) := ⟨_, rfl⟩
  replace H : ((figureheadlaw03_good.f k y265).bind fun t268 => (if t268 = true then ((div_Small.f k l0 a1).bind fun bt270 => (if a1 = 0 then ((figureheadlaw03_answers.f k).bind fun t275 => (if t275 = true then (if bt270.2.2 = true then (some false) else (if (bt270.1.length : Int) = 0 then (some (bt270.2.1 == 0)) else (some false))) else (some false))) else ((figureheadref01_Text.f k l0).bind fun t276 => ((figureheadref01_Text.f k (([a1] : List Int))).bind fun t280 => ((figureheadref01_Over.f k t276 t280).bind fun bt281 => ((figureheadlaw03_answers.f k).bind fun t283 => (if t283 = true then (if bt270.2.2 = true then ((figureheadref01_Number.f k bt281.1).bind fun t284 => ((figureheadref01_Same.f k bt270.1 t284).bind fun t287 => (if t287 = true then ((figureheadref01_Text.f k (([bt270.2.1] : List Int))).bind fun t291 => (some (t291.toList == bt281.2.toList))) else (some false)))) else (some false)) else (some false)))))))) else ((figureheadlaw03_answers.f k).bind fun t269 => (some t269)))) = some r := by first | (rw [hy265]; with_reducible exact H) | (have H2_ := (Option.bind_some _ _).symm.trans H; rw [hy265]; with_reducible exact H2_) | (have H2_ := (Option.bind_some _ _).symm.trans H; with_reducible exact H2_) | with_reducible exact H | (rw [hy265]; exact H) | exact H
  have Ny265 := Aside0.mk hy265
  clear hy265
  replace H := Option.bind_eq_some_iff.mp H
  obtain ⟨t268, A30, H⟩ := H
  replace H : (if t268 = true then ((div_Small.f k l0 a1).bind fun bt270 => (if a1 = 0 then ((figureheadlaw03_answers.f k).bind fun t275 => (if t275 = true then (if bt270.2.2 = true then (some false) else (if (bt270.1.length : Int) = 0 then (some (bt270.2.1 == 0)) else (some false))) else (some false))) else ((figureheadref01_Text.f k l0).bind fun t276 => ((figureheadref01_Text.f k (([a1] : List Int))).bind fun t280 => ((figureheadref01_Over.f k t276 t280).bind fun bt281 => ((figureheadlaw03_answers.f k).bind fun t283 => (if t283 = true then (if bt270.2.2 = true then ((figureheadref01_Number.f k bt281.1).bind fun t284 => ((figureheadref01_Same.f k bt270.1 t284).bind fun t287 => (if t287 = true then ((figureheadref01_Text.f k (([bt270.2.1] : List Int))).bind fun t291 => (some (t291.toList == bt281.2.toList))) else (some false)))) else (some false)) else (some false)))))))) else ((figureheadlaw03_answers.f k).bind fun t269 => (some t269))) = some r := H
  have A3 := Aside0.mk A30
  clear A30
  by_cases c4 : t268 = true
  · subst c4
    have H1 : ((div_Small.f k l0 a1).bind fun bt270 => (if a1 = 0 then ((figureheadlaw03_answers.f k).bind fun t275 => (if t275 = true then (if bt270.2.2 = true then (some false) else (if (bt270.1.length : Int) = 0 then (some (bt270.2.1 == 0)) else (some false))) else (some false))) else ((figureheadref01_Text.f k l0).bind fun t276 => ((figureheadref01_Text.f k (([a1] : List Int))).bind fun t280 => ((figureheadref01_Over.f k t276 t280).bind fun bt281 => ((figureheadlaw03_answers.f k).bind fun t283 => (if t283 = true then (if bt270.2.2 = true then ((figureheadref01_Number.f k bt281.1).bind fun t284 => ((figureheadref01_Same.f k bt270.1 t284).bind fun t287 => (if t287 = true then ((figureheadref01_Text.f k (([bt270.2.1] : List Int))).bind fun t291 => (some (t291.toList == bt281.2.toList))) else (some false)))) else (some false)) else (some false)))))))) = some r := by rw [if_pos rfl] at H; exact H
    clear H
    have H := H1
    clear H1
    replace H := Option.bind_eq_some_iff.mp H
    obtain ⟨⟨t270, t271, t272⟩, A50, H⟩ := H
    replace H : (if a1 = 0 then ((figureheadlaw03_answers.f k).bind fun t275 => (if t275 = true then (if t272 = true then (some false) else (if (t270.length : Int) = 0 then (some (t271 == 0)) else (some false))) else (some false))) else ((figureheadref01_Text.f k l0).bind fun t276 => ((figureheadref01_Text.f k (([a1] : List Int))).bind fun t280 => ((figureheadref01_Over.f k t276 t280).bind fun bt281 => ((figureheadlaw03_answers.f k).bind fun t283 => (if t283 = true then (if t272 = true then ((figureheadref01_Number.f k bt281.1).bind fun t284 => ((figureheadref01_Same.f k t270 t284).bind fun t287 => (if t287 = true then ((figureheadref01_Text.f k (([t271] : List Int))).bind fun t291 => (some (t291.toList == bt281.2.toList))) else (some false)))) else (some false)) else (some false))))))) = some r := H
    have A5 := Aside0.mk A50
    clear A50
    by_cases c6 : a1 = 0
    · rw [if_pos c6] at H
      have c6b0 : (a1 == 0) = true := beq_iff_eq.mpr c6
      have c6b1 : (a1 != 0) = false := bne_eq_false_iff_eq.mpr c6
      clear c6
      replace H := Option.bind_eq_some_iff.mp H
      obtain ⟨t275, A70, H⟩ := H
      replace H : (if t275 = true then (if t272 = true then (some false) else (if (t270.length : Int) = 0 then (some (t271 == 0)) else (some false))) else (some false)) = some r := H
      have A7 := Aside0.mk A70
      clear A70
      by_cases c8 : t275 = true
      · subst c8
        have H1 : (if t272 = true then (some false) else (if (t270.length : Int) = 0 then (some (t271 == 0)) else (some false))) = some r := by rw [if_pos rfl] at H; exact H
        clear H
        have H := H1
        clear H1
        by_cases c9 : t272 = true
        · subst c9
          have H1 : (some false) = some r := by rw [if_pos rfl] at H; exact H
          clear H
          have H := H1
          clear H1
          exact absurd ((Option.some.inj H).trans HT.out) (by decide)
        · replace c9 := Bool.eq_false_iff.mpr c9
          subst c9
          have H1 : (if (t270.length : Int) = 0 then (some (t271 == 0)) else (some false)) = some r := by rw [if_neg (show ¬ (false = true) by decide)] at H; exact H
          clear H
          have H := H1
          clear H1
          by_cases c10 : (t270.length : Int) = 0
          · rw [if_pos c10] at H
            have c10b0 : ((t270.length : Int) == 0) = true := beq_iff_eq.mpr c10
            have c10b1 : ((t270.length : Int) != 0) = false := bne_eq_false_iff_eq.mpr c10
            clear c10
            obtain rfl := Option.some.inj H
            go_enter Try.func4, Try.ntmps4
            go_wp2_with (first | ((with_reducible refine gate_dst (N := 12) rfl ?_); (try (refine gate_guard (by rfl) ?_; dsimp only)); refine Kd.R_lit (Kd.int .u32) _ 32 ?hg (N := 12) ?hd (xs := ([a1] : List Int)) (inner := [.int .u32 a1]) (ok := fun _ => True) (okp := fun _ => True) ?hr ?hp (fun _ hk => hk) trivial (Below.refl _ _) (Nat.le_refl _) (by simp) ?_; (case hd => rfl); (case hg => rfl); (case hr => first | (go_simp; done) | (go_simp; rfl)); (case hp => exact (Reps.one (show Kd.M (Kd.int .u32) _ _ _ a1 [.int .u32 a1] from rfl) (Reps.none _ _))); intro v263 w11 ho12 hb hg_ hnew_; clear hg_ hnew_; (first | rw [← Ny262.out] at ho12 | (simp only [Int.reduceToNat] at ho12; rw [← Ny262.out] at ho12)); have n0_ := Aside0.mk (Kd.V_elder' (by (with_reducible repeat (first | apply Kd.V_alloc | apply Kd.V_drewN | apply Kd.V_drew)); exact HO0.out) (Kd.R_base ho12) hb); have n1_ := Aside0.mk (Kd.R_lower (Kd.R_newM (M := fun k_ => (w.heap.size ≤ k_)) ho12 (below_size (by repeat (first | (with_reducible first | exact HB.out | apply below_alloc | apply pw_below_drewN | apply below_drew1) | exact HB.out))) (fun k_ h_ => h_)) (below_size (by repeat (first | (with_reducible first | exact HB.out | apply below_alloc | apply pw_below_drewN | apply below_drew1) | exact HB.out)))); have n2_ := Aside0.mk (below_step (by repeat (first | (with_reducible first | exact HB.out | apply below_alloc | apply pw_below_drewN | apply below_drew1) | exact HB.out)) hb); clear HO0; clear HB; have HO0 := n0_; have HO264 := n1_; have HB := n2_; clear n0_ n1_ n2_; clear hb ho12; obtain ⟨Ao13, co13, eo13⟩ := Kd.R_slice HO264.out; subst eo13) | ((with_reducible refine gate_dst (N := 13) rfl ?_); (try (refine gate_guard (by rfl) ?_; dsimp only)); refine Kd.N_lit (Kd.slice 32 (Kd.int .u32)) _ 22 ?hg (N' := 13) ?hd (xs := ([l0, y262] : List (List Int))) (inner := [.slice A0 l0.length c0, .slice Ao13 y262.length co13]) (ok := (fun k_ => (P0_ k_ ∨ w.heap.size ≤ k_))) (okp := (fun k_ => (P0_ k_ ∨ w.heap.size ≤ k_))) ?hr ?hp (fun _ hk => hk) ((show ∀ k_, w11.heap.size ≤ k_ → (fun k_ => (P0_ k_ ∨ w.heap.size ≤ k_)) k_ from fun k_ hk => (.inr (Nat.le_trans (below_size (by repeat (first | (with_reducible first | exact HB.out | apply below_alloc | apply pw_below_drewN | apply below_drew1) | exact HB.out))) hk))) _ (Nat.le_refl _)) (Below.refl _ _) (Nat.le_refl _) (by simp) ?_; (case hd => rfl); (case hg => rfl); (case hr => first | (go_simp; done) | (go_simp; rfl)); (case hp => exact (Reps.one (show Kd.FK (Kd.slice 32 (Kd.int .u32)) _ _ l0 [.slice A0 l0.length c0] from (Kd.FK_slice_mk (Kd.V_reads' (Kd.V_mono (ok' := (fun k_ => (P0_ k_ ∨ w.heap.size ≤ k_))) (HO0.out) (fun k_ hk => hk.1))).2.1 (Kd.V_F (Kd.V_mono (ok' := (fun k_ => (P0_ k_ ∨ w.heap.size ≤ k_))) (HO0.out) (fun k_ hk => hk.1))))) (Reps.one (show Kd.FK (Kd.slice 32 (Kd.int .u32)) _ _ y262 [.slice Ao13 y262.length co13] from (Kd.FK_slice_mk (Kd.R_reads' (Kd.R_mono (ok' := (fun k_ => (P0_ k_ ∨ w.heap.size ≤ k_))) (HO264.out) (fun k_ hk => (.inr (hk.1))))).2.1 (Kd.R_F (Kd.R_mono (ok' := (fun k_ => (P0_ k_ ∨ w.heap.size ≤ k_))) (HO264.out) (fun k_ hk => (.inr (hk.1))))))) (Reps.none _ _)))); intro v266 w14 ho15 hb hg_ hnew_; clear hg_ hnew_; (first | rw [← Ny265.out] at ho15 | (simp only [Int.reduceToNat] at ho15; rw [← Ny265.out] at ho15)); have n0_ := Aside0.mk (Kd.V_elder' (by (with_reducible repeat (first | apply Kd.V_alloc | apply Kd.V_drewN | apply Kd.V_drew)); exact HO0.out) (Kd.N_base ho15) hb); have n1_ := Aside0.mk (Kd.N_lower ho15 (below_size (by repeat (first | (with_reducible first | exact HB.out | apply below_alloc | apply pw_below_drewN | apply below_drew1) | exact HB.out)))); have n2_ := Aside0.mk (below_step (by repeat (first | (with_reducible first | exact HB.out | apply below_alloc | apply pw_below_drewN | apply below_drew1) | exact HB.out)) hb); clear HO0; clear HB; clear HO264; have HO0 := n0_; have HO267 := n1_; have HB := n2_; clear n0_ n1_ n2_; clear hb ho15; obtain ⟨Ao16, co16, eo16⟩ := Kd.N_slice HO267.out; subst eo16) | ((with_reducible refine gate_callee (f := 8) rfl ?_); refine goesL_ (some 14) rfl rfl Try.func8 (by kernel_rfl) rfl #[.slice Ao16 y265.length co16] rfl (by (try simp only [List.map_toArray, List.map_cons, List.map_nil]); first | done | rfl | (simp only [List.length_drop, List.length_take]; rfl)) ?_; (with_reducible refine (figureheadlaw03_good.calls k _ _ y265 true _ ?side1 ?side2 A3.out).mono ?_); (case side1 => repeat (first | exact (Kd.N_reads' HO267.out).2.2 | (with_reducible refine Kd.C_alloc ?_ _) | (with_reducible refine Kd.C_drewN ?_ _) | (with_reducible refine Kd.C_drew ?_))); (case side2 => exact (Kd.N_reads' HO267.out).2.1); rintro e w' ⟨rfl, ⟨nd, rfl⟩⟩; refine ⟨_, rfl, ?_⟩) | ((with_reducible refine gate_callee (f := 15) rfl ?_); refine goesL_ (some 20) rfl rfl Try.func15 (by kernel_rfl) rfl #[.slice A0 l0.length c0, .int .u32 a1] rfl (by (try simp only [List.map_toArray, List.map_cons, List.map_nil]); first | done | rfl | (simp only [List.length_drop, List.length_take]; rfl)) ?_; (with_reducible refine (div_Small.calls k _ _ l0 a1 t270 t271 false _ ?side1 ?side2 A5.out).mono ?_); (case side1 => repeat (first | exact (Kd.V_reads' HO0.out).2.2 | (with_reducible refine Kd.C_alloc ?_ _) | (with_reducible refine Kd.C_drewN ?_ _) | (with_reducible refine Kd.C_drew ?_))); (case side2 => exact (Kd.V_reads' HO0.out).2.1); rintro e w17 ⟨v273, rfl, ho0, hb⟩; refine ⟨_, rfl, ?_⟩; have n0_ := Aside0.mk (Kd.V_elder' (by (with_reducible repeat (first | apply Kd.V_alloc | apply Kd.V_drewN | apply Kd.V_drew)); exact HO0.out) (Kd.R_base ho0) hb); have n1_ := Aside0.mk (Kd.N_elder' (by (with_reducible repeat (first | apply Kd.N_alloc | apply Kd.N_drewN | apply Kd.N_drew)); exact HO267.out) (Kd.R_base ho0) hb); have n2_ := Aside0.mk (Kd.R_lower (Kd.R_newM (M := fun k_ => (w.heap.size ≤ k_)) ho0 (below_size (by repeat (first | (with_reducible first | exact HB.out | apply below_alloc | apply pw_below_drewN | apply below_drew1) | exact HB.out))) (fun k_ h_ => h_)) (below_size (by repeat (first | (with_reducible first | exact HB.out | apply below_alloc | apply pw_below_drewN | apply below_drew1) | exact HB.out)))); have n3_ := Aside0.mk (below_step (by repeat (first | (with_reducible first | exact HB.out | apply below_alloc | apply pw_below_drewN | apply below_drew1) | exact HB.out)) hb); clear HO0; clear HO267; clear HB; have HO0 := n0_; have HO267 := n1_; have HO274 := n2_; have HB := n3_; clear n0_ n1_ n2_ n3_; (try clear hb); (try clear hb2); (try clear hk); (try clear hi); (try clear ho0)) | ((with_reducible refine gate_callee (f := 9) rfl ?_); refine goesL_ (some 26) rfl rfl Try.func9 (by kernel_rfl) rfl #[] rfl (by (try simp only [List.map_toArray, List.map_cons, List.map_nil]); first | done | rfl | (simp only [List.length_drop, List.length_take]; rfl)) ?_; (with_reducible refine (figureheadlaw03_answers.calls k  true _ ?side1 A7.out).mono ?_); (case side1 => exact ⟨by first | rfl | exact HT.out⟩); rintro e w18 ⟨rfl, hb⟩; refine ⟨_, rfl, ?_⟩; have n0_ := Aside0.mk (Kd.V_below (by (with_reducible repeat (first | apply Kd.V_alloc | apply Kd.V_drewN | apply Kd.V_drew)); exact HO0.out) hb); have n1_ := Aside0.mk (Kd.N_below (by (with_reducible repeat (first | apply Kd.N_alloc | apply Kd.N_drewN | apply Kd.N_drew)); exact HO267.out) hb); have n2_ := Aside0.mk (Kd.R_below (by (with_reducible repeat (first | apply Kd.R_alloc | apply Kd.R_drewN | apply Kd.R_drew)); exact HO274.out) hb); have n3_ := Aside0.mk (below_step (by repeat (first | (with_reducible first | exact HB.out | apply below_alloc | apply pw_below_drewN | apply below_drew1) | exact HB.out)) hb); clear HO0; clear HO267; clear HO274; clear HB; have HO0 := n0_; have HO267 := n1_; have HO274 := n2_; have HB := n3_; clear n0_ n1_ n2_ n3_; (try clear hb); (try clear hb2); (try clear hk); (try clear hi); obtain ⟨Ao19, co19, eo19⟩ := Kd.R_slice HO274.out; subst eo19))
            go_ret
            exact ⟨by first | rfl | (simp [errW_none, errW_some] <;> rfl) | (simp [*, errW_none, errW_some] <;> rfl), by repeat (first | (with_reducible first | exact HB.out | apply below_alloc | apply pw_below_drewN | apply below_drew1) | exact HB.out)⟩
          · rw [if_neg c10] at H
            have c10b0 : ((t270.length : Int) == 0) = false := beq_eq_false_iff_ne.mpr c10
            have c10b1 : ((t270.length : Int) != 0) = true := bne_iff_ne.mpr c10
            have c10b2 : ¬ (t270 = []) := fun h_ => c10 (by rw [h_]; rfl)
            exact absurd ((Option.some.inj H).trans HT.out) (by decide)
      · replace c8 := Bool.eq_false_iff.mpr c8
        subst c8
        have H1 : (some false) = some r := by rw [if_neg (show ¬ (false = true) by decide)] at H; exact H
        clear H
        have H := H1
        clear H1
        exact absurd ((Option.some.inj H).trans HT.out) (by decide)
    · rw [if_neg c6] at H
      have c6b0 : (a1 == 0) = false := beq_eq_false_iff_ne.mpr c6
      have c6b1 : (a1 != 0) = true := bne_iff_ne.mpr c6
      replace H := Option.bind_eq_some_iff.mp H
      obtain ⟨t276, A200, H⟩ := H
      replace H : ((figureheadref01_Text.f k (([a1] : List Int))).bind fun t280 => ((figureheadref01_Over.f k t276 t280).bind fun bt281 => ((figureheadlaw03_answers.f k).bind fun t283 => (if t283 = true then (if t272 = true then ((figureheadref01_Number.f k bt281.1).bind fun t284 => ((figureheadref01_Same.f k t270 t284).bind fun t287 => (if t287 = true then ((figureheadref01_Text.f k (([t271] : List Int))).bind fun t291 => (some (t291.toList == bt281.2.toList))) else (some false)))) else (some false)) else (some false))))) = some r := H
      have A20 := Aside0.mk A200
      clear A200
      obtain ⟨y277, hy277⟩ : ∃ y_ : List Int, y_ = (([a1] : List Int)) := ⟨_, rfl⟩
      replace H : ((figureheadref01_Text.f k y277).bind fun t280 => ((figureheadref01_Over.f k t276 t280).bind fun bt281 => ((figureheadlaw03_answers.f k).bind fun t283 => (if t283 = true then (if t272 = true then ((figureheadref01_Number.f k bt281.1).bind fun t284 => ((figureheadref01_Same.f k t270 t284).bind fun t287 => (if t287 = true then ((figureheadref01_Text.f k (([t271] : List Int))).bind fun t291 => (some (t291.toList == bt281.2.toList))) else (some false)))) else (some false)) else (some false))))) = some r := by first | (rw [hy277]; with_reducible exact H) | (have H2_ := (Option.bind_some _ _).symm.trans H; rw [hy277]; with_reducible exact H2_) | (have H2_ := (Option.bind_some _ _).symm.trans H; with_reducible exact H2_) | with_reducible exact H | (rw [hy277]; exact H) | exact H
      have Ny277 := Aside0.mk hy277
      clear hy277
      replace H := Option.bind_eq_some_iff.mp H
      obtain ⟨t280, A210, H⟩ := H
      replace H : ((figureheadref01_Over.f k t276 t280).bind fun bt281 => ((figureheadlaw03_answers.f k).bind fun t283 => (if t283 = true then (if t272 = true then ((figureheadref01_Number.f k bt281.1).bind fun t284 => ((figureheadref01_Same.f k t270 t284).bind fun t287 => (if t287 = true then ((figureheadref01_Text.f k (([t271] : List Int))).bind fun t291 => (some (t291.toList == bt281.2.toList))) else (some false)))) else (some false)) else (some false)))) = some r := H
      have A21 := Aside0.mk A210
      clear A210
      replace H := Option.bind_eq_some_iff.mp H
      obtain ⟨⟨t281, t282⟩, A220, H⟩ := H
      replace H : ((figureheadlaw03_answers.f k).bind fun t283 => (if t283 = true then (if t272 = true then ((figureheadref01_Number.f k t281).bind fun t284 => ((figureheadref01_Same.f k t270 t284).bind fun t287 => (if t287 = true then ((figureheadref01_Text.f k (([t271] : List Int))).bind fun t291 => (some (t291.toList == t282.toList))) else (some false)))) else (some false)) else (some false))) = some r := H
      have A22 := Aside0.mk A220
      clear A220
      replace H := Option.bind_eq_some_iff.mp H
      obtain ⟨t283, A230, H⟩ := H
      replace H : (if t283 = true then (if t272 = true then ((figureheadref01_Number.f k t281).bind fun t284 => ((figureheadref01_Same.f k t270 t284).bind fun t287 => (if t287 = true then ((figureheadref01_Text.f k (([t271] : List Int))).bind fun t291 => (some (t291.toList == t282.toList))) else (some false)))) else (some false)) else (some false)) = some r := H
      have A23 := Aside0.mk A230
      clear A230
      by_cases c24 : t283 = true
      · subst c24
        have H1 : (if t272 = true then ((figureheadref01_Number.f k t281).bind fun t284 => ((figureheadref01_Same.f k t270 t284).bind fun t287 => (if t287 = true then ((figureheadref01_Text.f k (([t271] : List Int))).bind fun t291 => (some (t291.toList == t282.toList))) else (some false)))) else (some false)) = some r := by rw [if_pos rfl] at H; exact H
        clear H
        have H := H1
        clear H1
        by_cases c25 : t272 = true
        · subst c25
          have H1 : ((figureheadref01_Number.f k t281).bind fun t284 => ((figureheadref01_Same.f k t270 t284).bind fun t287 => (if t287 = true then ((figureheadref01_Text.f k (([t271] : List Int))).bind fun t291 => (some (t291.toList == t282.toList))) else (some false)))) = some r := by rw [if_pos rfl] at H; exact H
          clear H
          have H := H1
          clear H1
          replace H := Option.bind_eq_some_iff.mp H
          obtain ⟨t284, A260, H⟩ := H
          replace H : ((figureheadref01_Same.f k t270 t284).bind fun t287 => (if t287 = true then ((figureheadref01_Text.f k (([t271] : List Int))).bind fun t291 => (some (t291.toList == t282.toList))) else (some false))) = some r := H
          have A26 := Aside0.mk A260
          clear A260
          replace H := Option.bind_eq_some_iff.mp H
          obtain ⟨t287, A270, H⟩ := H
          replace H : (if t287 = true then ((figureheadref01_Text.f k (([t271] : List Int))).bind fun t291 => (some (t291.toList == t282.toList))) else (some false)) = some r := H
          have A27 := Aside0.mk A270
          clear A270
          by_cases c28 : t287 = true
          · subst c28
            have H1 : ((figureheadref01_Text.f k (([t271] : List Int))).bind fun t291 => (some (t291.toList == t282.toList))) = some r := by rw [if_pos rfl] at H; exact H
            clear H
            have H := H1
            clear H1
            obtain ⟨y288, hy288⟩ : ∃ y_ : List Int, y_ = (([t271] : List Int)) := ⟨_, rfl⟩
            replace H : ((figureheadref01_Text.f k y288).bind fun t291 => (some (t291.toList == t282.toList))) = some r := by first | (rw [hy288]; with_reducible exact H) | (have H2_ := (Option.bind_some _ _).symm.trans H; rw [hy288]; with_reducible exact H2_) | (have H2_ := (Option.bind_some _ _).symm.trans H; with_reducible exact H2_) | with_reducible exact H | (rw [hy288]; exact H) | exact H
            have Ny288 := Aside0.mk hy288
            clear hy288
            replace H := Option.bind_eq_some_iff.mp H
            obtain ⟨t291, A290, H⟩ := H
            replace H : (some (t291.toList == t282.toList)) = some r := H
            have A29 := Aside0.mk A290
            clear A290
            obtain rfl := Option.some.inj H
            go_enter Try.func4, Try.ntmps4
            go_wp2_with (first | ((with_reducible refine gate_dst (N := 12) rfl ?_); (try (refine gate_guard (by rfl) ?_; dsimp only)); refine Kd.R_lit (Kd.int .u32) _ 32 ?hg (N := 12) ?hd (xs := ([a1] : List Int)) (inner := [.int .u32 a1]) (ok := fun _ => True) (okp := fun _ => True) ?hr ?hp (fun _ hk => hk) trivial (Below.refl _ _) (Nat.le_refl _) (by simp) ?_; (case hd => rfl); (case hg => rfl); (case hr => first | (go_simp; done) | (go_simp; rfl)); (case hp => exact (Reps.one (show Kd.M (Kd.int .u32) _ _ _ a1 [.int .u32 a1] from rfl) (Reps.none _ _))); intro v263 w30 ho31 hb hg_ hnew_; clear hg_ hnew_; (first | rw [← Ny262.out] at ho31 | (simp only [Int.reduceToNat] at ho31; rw [← Ny262.out] at ho31)); have n0_ := Aside0.mk (Kd.V_elder' (by (with_reducible repeat (first | apply Kd.V_alloc | apply Kd.V_drewN | apply Kd.V_drew)); exact HO0.out) (Kd.R_base ho31) hb); have n1_ := Aside0.mk (Kd.R_lower (Kd.R_newM (M := fun k_ => (w.heap.size ≤ k_)) ho31 (below_size (by repeat (first | (with_reducible first | exact HB.out | apply below_alloc | apply pw_below_drewN | apply below_drew1) | exact HB.out))) (fun k_ h_ => h_)) (below_size (by repeat (first | (with_reducible first | exact HB.out | apply below_alloc | apply pw_below_drewN | apply below_drew1) | exact HB.out)))); have n2_ := Aside0.mk (below_step (by repeat (first | (with_reducible first | exact HB.out | apply below_alloc | apply pw_below_drewN | apply below_drew1) | exact HB.out)) hb); clear HO0; clear HB; have HO0 := n0_; have HO264 := n1_; have HB := n2_; clear n0_ n1_ n2_; clear hb ho31; obtain ⟨Ao32, co32, eo32⟩ := Kd.R_slice HO264.out; subst eo32) | ((with_reducible refine gate_dst (N := 13) rfl ?_); (try (refine gate_guard (by rfl) ?_; dsimp only)); refine Kd.N_lit (Kd.slice 32 (Kd.int .u32)) _ 22 ?hg (N' := 13) ?hd (xs := ([l0, y262] : List (List Int))) (inner := [.slice A0 l0.length c0, .slice Ao32 y262.length co32]) (ok := (fun k_ => (P0_ k_ ∨ w.heap.size ≤ k_))) (okp := (fun k_ => (P0_ k_ ∨ w.heap.size ≤ k_))) ?hr ?hp (fun _ hk => hk) ((show ∀ k_, w30.heap.size ≤ k_ → (fun k_ => (P0_ k_ ∨ w.heap.size ≤ k_)) k_ from fun k_ hk => (.inr (Nat.le_trans (below_size (by repeat (first | (with_reducible first | exact HB.out | apply below_alloc | apply pw_below_drewN | apply below_drew1) | exact HB.out))) hk))) _ (Nat.le_refl _)) (Below.refl _ _) (Nat.le_refl _) (by simp) ?_; (case hd => rfl); (case hg => rfl); (case hr => first | (go_simp; done) | (go_simp; rfl)); (case hp => exact (Reps.one (show Kd.FK (Kd.slice 32 (Kd.int .u32)) _ _ l0 [.slice A0 l0.length c0] from (Kd.FK_slice_mk (Kd.V_reads' (Kd.V_mono (ok' := (fun k_ => (P0_ k_ ∨ w.heap.size ≤ k_))) (HO0.out) (fun k_ hk => hk.1))).2.1 (Kd.V_F (Kd.V_mono (ok' := (fun k_ => (P0_ k_ ∨ w.heap.size ≤ k_))) (HO0.out) (fun k_ hk => hk.1))))) (Reps.one (show Kd.FK (Kd.slice 32 (Kd.int .u32)) _ _ y262 [.slice Ao32 y262.length co32] from (Kd.FK_slice_mk (Kd.R_reads' (Kd.R_mono (ok' := (fun k_ => (P0_ k_ ∨ w.heap.size ≤ k_))) (HO264.out) (fun k_ hk => (.inr (hk.1))))).2.1 (Kd.R_F (Kd.R_mono (ok' := (fun k_ => (P0_ k_ ∨ w.heap.size ≤ k_))) (HO264.out) (fun k_ hk => (.inr (hk.1))))))) (Reps.none _ _)))); intro v266 w33 ho34 hb hg_ hnew_; clear hg_ hnew_; (first | rw [← Ny265.out] at ho34 | (simp only [Int.reduceToNat] at ho34; rw [← Ny265.out] at ho34)); have n0_ := Aside0.mk (Kd.V_elder' (by (with_reducible repeat (first | apply Kd.V_alloc | apply Kd.V_drewN | apply Kd.V_drew)); exact HO0.out) (Kd.N_base ho34) hb); have n1_ := Aside0.mk (Kd.N_lower ho34 (below_size (by repeat (first | (with_reducible first | exact HB.out | apply below_alloc | apply pw_below_drewN | apply below_drew1) | exact HB.out)))); have n2_ := Aside0.mk (below_step (by repeat (first | (with_reducible first | exact HB.out | apply below_alloc | apply pw_below_drewN | apply below_drew1) | exact HB.out)) hb); clear HO0; clear HB; clear HO264; have HO0 := n0_; have HO267 := n1_; have HB := n2_; clear n0_ n1_ n2_; clear hb ho34; obtain ⟨Ao35, co35, eo35⟩ := Kd.N_slice HO267.out; subst eo35) | ((with_reducible refine gate_callee (f := 8) rfl ?_); refine goesL_ (some 14) rfl rfl Try.func8 (by kernel_rfl) rfl #[.slice Ao35 y265.length co35] rfl (by (try simp only [List.map_toArray, List.map_cons, List.map_nil]); first | done | rfl | (simp only [List.length_drop, List.length_take]; rfl)) ?_; (with_reducible refine (figureheadlaw03_good.calls k _ _ y265 true _ ?side1 ?side2 A3.out).mono ?_); (case side1 => repeat (first | exact (Kd.N_reads' HO267.out).2.2 | (with_reducible refine Kd.C_alloc ?_ _) | (with_reducible refine Kd.C_drewN ?_ _) | (with_reducible refine Kd.C_drew ?_))); (case side2 => exact (Kd.N_reads' HO267.out).2.1); rintro e w' ⟨rfl, ⟨nd, rfl⟩⟩; refine ⟨_, rfl, ?_⟩) | ((with_reducible refine gate_callee (f := 15) rfl ?_); refine goesL_ (some 20) rfl rfl Try.func15 (by kernel_rfl) rfl #[.slice A0 l0.length c0, .int .u32 a1] rfl (by (try simp only [List.map_toArray, List.map_cons, List.map_nil]); first | done | rfl | (simp only [List.length_drop, List.length_take]; rfl)) ?_; (with_reducible refine (div_Small.calls k _ _ l0 a1 t270 t271 true _ ?side1 ?side2 A5.out).mono ?_); (case side1 => repeat (first | exact (Kd.V_reads' HO0.out).2.2 | (with_reducible refine Kd.C_alloc ?_ _) | (with_reducible refine Kd.C_drewN ?_ _) | (with_reducible refine Kd.C_drew ?_))); (case side2 => exact (Kd.V_reads' HO0.out).2.1); rintro e w36 ⟨v273, rfl, ho0, hb⟩; refine ⟨_, rfl, ?_⟩; have n0_ := Aside0.mk (Kd.V_elder' (by (with_reducible repeat (first | apply Kd.V_alloc | apply Kd.V_drewN | apply Kd.V_drew)); exact HO0.out) (Kd.R_base ho0) hb); have n1_ := Aside0.mk (Kd.N_elder' (by (with_reducible repeat (first | apply Kd.N_alloc | apply Kd.N_drewN | apply Kd.N_drew)); exact HO267.out) (Kd.R_base ho0) hb); have n2_ := Aside0.mk (Kd.R_lower (Kd.R_newM (M := fun k_ => (w.heap.size ≤ k_)) ho0 (below_size (by repeat (first | (with_reducible first | exact HB.out | apply below_alloc | apply pw_below_drewN | apply below_drew1) | exact HB.out))) (fun k_ h_ => h_)) (below_size (by repeat (first | (with_reducible first | exact HB.out | apply below_alloc | apply pw_below_drewN | apply below_drew1) | exact HB.out)))); have n3_ := Aside0.mk (below_step (by repeat (first | (with_reducible first | exact HB.out | apply below_alloc | apply pw_below_drewN | apply below_drew1) | exact HB.out)) hb); clear HO0; clear HO267; clear HB; have HO0 := n0_; have HO267 := n1_; have HO274 := n2_; have HB := n3_; clear n0_ n1_ n2_ n3_; (try clear hb); (try clear hb2); (try clear hk); (try clear hi); (try clear ho0)) | ((with_reducible refine gate_callee (f := 11) rfl ?_); refine goesL_ (some 42) rfl rfl Try.func11 (by kernel_rfl) rfl #[.slice A0 l0.length c0] rfl (by (try simp only [List.map_toArray, List.map_cons, List.map_nil]); first | done | rfl | (simp only [List.length_drop, List.length_take]; rfl)) ?_; (with_reducible refine (figureheadref01_Text.calls k _ _ l0 t276 _ ?side1 ?side2 A20.out).mono ?_); (case side1 => repeat (first | exact (Kd.V_reads' HO0.out).2.2 | (with_reducible refine Kd.C_alloc ?_ _) | (with_reducible refine Kd.C_drewN ?_ _) | (with_reducible refine Kd.C_drew ?_))); (case side2 => exact (Kd.V_reads' HO0.out).2.1); rintro e w37 ⟨rfl, hb⟩; refine ⟨_, rfl, ?_⟩; have n0_ := Aside0.mk (Kd.V_below (by (with_reducible repeat (first | apply Kd.V_alloc | apply Kd.V_drewN | apply Kd.V_drew)); exact HO0.out) hb); have n1_ := Aside0.mk (Kd.N_below (by (with_reducible repeat (first | apply Kd.N_alloc | apply Kd.N_drewN | apply Kd.N_drew)); exact HO267.out) hb); have n2_ := Aside0.mk (Kd.R_below (by (with_reducible repeat (first | apply Kd.R_alloc | apply Kd.R_drewN | apply Kd.R_drew)); exact HO274.out) hb); have n3_ := Aside0.mk (below_step (by repeat (first | (with_reducible first | exact HB.out | apply below_alloc | apply pw_below_drewN | apply below_drew1) | exact HB.out)) hb); clear HO0; clear HO267; clear HO274; clear HB; have HO0 := n0_; have HO267 := n1_; have HO274 := n2_; have HB := n3_; clear n0_ n1_ n2_ n3_; (try clear hb); (try clear hb2); (try clear hk); (try clear hi)) | ((with_reducible refine gate_dst (N := 44) rfl ?_); (try (refine gate_guard (by rfl) ?_; dsimp only)); refine Kd.R_lit (Kd.int .u32) _ 32 ?hg (N := 44) ?hd (xs := ([a1] : List Int)) (inner := [.int .u32 a1]) (ok := fun _ => True) (okp := fun _ => True) ?hr ?hp (fun _ hk => hk) trivial (Below.refl _ _) (Nat.le_refl _) (by simp) ?_; (case hd => rfl); (case hg => rfl); (case hr => first | (go_simp; done) | (go_simp; rfl)); (case hp => exact (Reps.one (show Kd.M (Kd.int .u32) _ _ _ a1 [.int .u32 a1] from rfl) (Reps.none _ _))); intro v278 w38 ho39 hb hg_ hnew_; clear hg_ hnew_; (first | rw [← Ny277.out] at ho39 | (simp only [Int.reduceToNat] at ho39; rw [← Ny277.out] at ho39)); have n0_ := Aside0.mk (Kd.V_elder' (by (with_reducible repeat (first | apply Kd.V_alloc | apply Kd.V_drewN | apply Kd.V_drew)); exact HO0.out) (Kd.R_base ho39) hb); have n1_ := Aside0.mk (Kd.N_elder' (by (with_reducible repeat (first | apply Kd.N_alloc | apply Kd.N_drewN | apply Kd.N_drew)); exact HO267.out) (Kd.R_base ho39) hb); have n2_ := Aside0.mk (Kd.R_elder' (by (with_reducible repeat (first | apply Kd.R_alloc | apply Kd.R_drewN | apply Kd.R_drew)); exact HO274.out) (Kd.R_base ho39) hb); have n3_ := Aside0.mk (Kd.R_lower (Kd.R_new' (Kd.R_newM (M := fun k_ => (w.heap.size ≤ k_)) ho39 (below_size (by repeat (first | (with_reducible first | exact HB.out | apply below_alloc | apply pw_below_drewN | apply below_drew1) | exact HB.out))) (fun k_ h_ => h_)) (Kd.R_lt (by (with_reducible repeat (first | apply Kd.R_alloc | apply Kd.R_drewN | apply Kd.R_drew)); exact HO274.out))) (below_size (by repeat (first | (with_reducible first | exact HB.out | apply below_alloc | apply pw_below_drewN | apply below_drew1) | exact HB.out)))); have n4_ := Aside0.mk (below_step (by repeat (first | (with_reducible first | exact HB.out | apply below_alloc | apply pw_below_drewN | apply below_drew1) | exact HB.out)) hb); clear HO0; clear HO267; clear HO274; clear HB; have HO0 := n0_; have HO267 := n1_; have HO274 := n2_; have HO279 := n3_; have HB := n4_; clear n0_ n1_ n2_ n3_ n4_; clear hb ho39; obtain ⟨Ao40, co40, eo40⟩ := Kd.R_slice HO279.out; subst eo40) | ((with_reducible refine gate_callee (f := 11) rfl ?_); refine goesL_ (some 45) rfl rfl Try.func11 (by kernel_rfl) rfl #[.slice Ao40 y277.length co40] rfl (by (try simp only [List.map_toArray, List.map_cons, List.map_nil]); first | done | rfl | (simp only [List.length_drop, List.length_take]; rfl)) ?_; (with_reducible refine (figureheadref01_Text.calls k _ _ y277 t280 _ ?side1 ?side2 A21.out).mono ?_); (case side1 => repeat (first | exact (Kd.R_reads' HO279.out).2.2 | (with_reducible refine Kd.C_alloc ?_ _) | (with_reducible refine Kd.C_drewN ?_ _) | (with_reducible refine Kd.C_drew ?_))); (case side2 => exact (Kd.R_reads' HO279.out).2.1); rintro e w41 ⟨rfl, hb⟩; refine ⟨_, rfl, ?_⟩; have n0_ := Aside0.mk (Kd.V_below (by (with_reducible repeat (first | apply Kd.V_alloc | apply Kd.V_drewN | apply Kd.V_drew)); exact HO0.out) hb); have n1_ := Aside0.mk (Kd.N_below (by (with_reducible repeat (first | apply Kd.N_alloc | apply Kd.N_drewN | apply Kd.N_drew)); exact HO267.out) hb); have n2_ := Aside0.mk (Kd.R_below (by (with_reducible repeat (first | apply Kd.R_alloc | apply Kd.R_drewN | apply Kd.R_drew)); exact HO274.out) hb); have n3_ := Aside0.mk (Kd.R_below (by (with_reducible repeat (first | apply Kd.R_alloc | apply Kd.R_drewN | apply Kd.R_drew)); exact HO279.out) hb); have n4_ := Aside0.mk (below_step (by repeat (first | (with_reducible first | exact HB.out | apply below_alloc | apply pw_below_drewN | apply below_drew1) | exact HB.out)) hb); clear HO0; clear HO267; clear HO274; clear HO279; clear HB; have HO0 := n0_; have HO267 := n1_; have HO274 := n2_; have HO279 := n3_; have HB := n4_; clear n0_ n1_ n2_ n3_ n4_; (try clear hb); (try clear hb2); (try clear hk); (try clear hi)) | ((with_reducible refine gate_callee (f := 12) rfl ?_); refine goesL_ (some 46) rfl rfl Try.func12 (by kernel_rfl) rfl #[.string t276, .string t280] rfl (by (try simp only [List.map_toArray, List.map_cons, List.map_nil]); first | done | rfl | (simp only [List.length_drop, List.length_take]; rfl)) ?_; (with_reducible refine (figureheadref01_Over.calls k t276 t280 t281 t282 _ A22.out).mono ?_); rintro e w42 ⟨rfl, hb⟩; refine ⟨_, rfl, ?_⟩; have n0_ := Aside0.mk (Kd.V_below (by (with_reducible repeat (first | apply Kd.V_alloc | apply Kd.V_drewN | apply Kd.V_drew)); exact HO0.out) hb); have n1_ := Aside0.mk (Kd.N_below (by (with_reducible repeat (first | apply Kd.N_alloc | apply Kd.N_drewN | apply Kd.N_drew)); exact HO267.out) hb); have n2_ := Aside0.mk (Kd.R_below (by (with_reducible repeat (first | apply Kd.R_alloc | apply Kd.R_drewN | apply Kd.R_drew)); exact HO274.out) hb); have n3_ := Aside0.mk (Kd.R_below (by (with_reducible repeat (first | apply Kd.R_alloc | apply Kd.R_drewN | apply Kd.R_drew)); exact HO279.out) hb); have n4_ := Aside0.mk (below_step (by repeat (first | (with_reducible first | exact HB.out | apply below_alloc | apply pw_below_drewN | apply below_drew1) | exact HB.out)) hb); clear HO0; clear HO267; clear HO274; clear HO279; clear HB; have HO0 := n0_; have HO267 := n1_; have HO274 := n2_; have HO279 := n3_; have HB := n4_; clear n0_ n1_ n2_ n3_ n4_; (try clear hb); (try clear hb2); (try clear hk); (try clear hi)) | ((with_reducible refine gate_callee (f := 9) rfl ?_); refine goesL_ (some 49) rfl rfl Try.func9 (by kernel_rfl) rfl #[] rfl (by (try simp only [List.map_toArray, List.map_cons, List.map_nil]); first | done | rfl | (simp only [List.length_drop, List.length_take]; rfl)) ?_; (with_reducible refine (figureheadlaw03_answers.calls k  true _ ?side1 A23.out).mono ?_); (case side1 => exact ⟨by first | rfl | exact HT.out⟩); rintro e w43 ⟨rfl, hb⟩; refine ⟨_, rfl, ?_⟩; have n0_ := Aside0.mk (Kd.V_below (by (with_reducible repeat (first | apply Kd.V_alloc | apply Kd.V_drewN | apply Kd.V_drew)); exact HO0.out) hb); have n1_ := Aside0.mk (Kd.N_below (by (with_reducible repeat (first | apply Kd.N_alloc | apply Kd.N_drewN | apply Kd.N_drew)); exact HO267.out) hb); have n2_ := Aside0.mk (Kd.R_below (by (with_reducible repeat (first | apply Kd.R_alloc | apply Kd.R_drewN | apply Kd.R_drew)); exact HO274.out) hb); have n3_ := Aside0.mk (Kd.R_below (by (with_reducible repeat (first | apply Kd.R_alloc | apply Kd.R_drewN | apply Kd.R_drew)); exact HO279.out) hb); have n4_ := Aside0.mk (below_step (by repeat (first | (with_reducible first | exact HB.out | apply below_alloc | apply pw_below_drewN | apply below_drew1) | exact HB.out)) hb); clear HO0; clear HO267; clear HO274; clear HO279; clear HB; have HO0 := n0_; have HO267 := n1_; have HO274 := n2_; have HO279 := n3_; have HB := n4_; clear n0_ n1_ n2_ n3_ n4_; (try clear hb); (try clear hb2); (try clear hk); (try clear hi)) | ((with_reducible refine gate_dst (N := 56) rfl ?_); (try (refine gate_guard (by rfl) ?_; dsimp only)); (refine gate_guard (by rfl) ?_; dsimp only); (with_reducible refine gate_callee (f := 14) rfl ?_); refine goesL_ (some 56) rfl rfl Try.func14 (by kernel_rfl) rfl #[.string t281] rfl (by (try simp only [List.map_toArray, List.map_cons, List.map_nil]); first | done | rfl | (simp only [List.length_drop, List.length_take]; rfl)) ?_; (with_reducible refine (figureheadref01_Number.calls k t281 t284 _ A26.out).mono ?_); rintro e w44 ⟨v285, rfl, ho0, hb⟩; refine ⟨_, rfl, ?_⟩; have n0_ := Aside0.mk (Kd.V_elder' (by (with_reducible repeat (first | apply Kd.V_alloc | apply Kd.V_drewN | apply Kd.V_drew)); exact HO0.out) (Kd.R_base ho0) hb); have n1_ := Aside0.mk (Kd.N_elder' (by (with_reducible repeat (first | apply Kd.N_alloc | apply Kd.N_drewN | apply Kd.N_drew)); exact HO267.out) (Kd.R_base ho0) hb); have n2_ := Aside0.mk (Kd.R_elder' (by (with_reducible repeat (first | apply Kd.R_alloc | apply Kd.R_drewN | apply Kd.R_drew)); exact HO274.out) (Kd.R_base ho0) hb); have n3_ := Aside0.mk (Kd.R_elder' (by (with_reducible repeat (first | apply Kd.R_alloc | apply Kd.R_drewN | apply Kd.R_drew)); exact HO279.out) (Kd.R_base ho0) hb); have n4_ := Aside0.mk (Kd.R_lower (Kd.R_new' (Kd.R_new' (Kd.R_newM (M := fun k_ => (w.heap.size ≤ k_)) ho0 (below_size (by repeat (first | (with_reducible first | exact HB.out | apply below_alloc | apply pw_below_drewN | apply below_drew1) | exact HB.out))) (fun k_ h_ => h_)) (Kd.R_lt (by (with_reducible repeat (first | apply Kd.R_alloc | apply Kd.R_drewN | apply Kd.R_drew)); exact HO274.out))) (Kd.R_lt (by (with_reducible repeat (first | apply Kd.R_alloc | apply Kd.R_drewN | apply Kd.R_drew)); exact HO279.out))) (below_size (by repeat (first | (with_reducible first | exact HB.out | apply below_alloc | apply pw_below_drewN | apply below_drew1) | exact HB.out)))); have n5_ := Aside0.mk (below_step (by repeat (first | (with_reducible first | exact HB.out | apply below_alloc | apply pw_below_drewN | apply below_drew1) | exact HB.out)) hb); clear HO0; clear HO267; clear HO274; clear HO279; clear HB; have HO0 := n0_; have HO267 := n1_; have HO274 := n2_; have HO279 := n3_; have HO286 := n4_; have HB := n5_; clear n0_ n1_ n2_ n3_ n4_ n5_; (try clear hb); (try clear hb2); (try clear hk); (try clear hi); (try clear ho0); obtain ⟨Ao45, co45, eo45⟩ := Kd.R_slice HO274.out; subst eo45; obtain ⟨Ao46, co46, eo46⟩ := Kd.R_slice HO286.out; subst eo46) | ((with_reducible refine gate_dst (N := 57) rfl ?_); (try (refine gate_guard (by rfl) ?_; dsimp only)); (refine gate_guard (by rfl) ?_; dsimp only); (with_reducible refine gate_callee (f := 13) rfl ?_); refine goesL_ (some 57) rfl rfl Try.func13 (by kernel_rfl) rfl #[.slice Ao45 t270.length co45, .slice Ao46 t284.length co46] rfl (by (try simp only [List.map_toArray, List.map_cons, List.map_nil]); first | done | rfl | (simp only [List.length_drop, List.length_take]; rfl)) ?_; (with_reducible refine (figureheadref01_Same.calls k _ _ t270 _ _ t284 true _ ?side1 ?side2 ?side3 ?side4 A27.out).mono ?_); (case side1 => repeat (first | exact (Kd.R_reads' HO274.out).2.2 | (with_reducible refine Kd.C_alloc ?_ _) | (with_reducible refine Kd.C_drewN ?_ _) | (with_reducible refine Kd.C_drew ?_))); (case side2 => exact (Kd.R_reads' HO274.out).2.1); (case side3 => repeat (first | exact (Kd.R_reads' HO286.out).2.2 | (with_reducible refine Kd.C_alloc ?_ _) | (with_reducible refine Kd.C_drewN ?_ _) | (with_reducible refine Kd.C_drew ?_))); (case side4 => exact (Kd.R_reads' HO286.out).2.1); rintro e w' ⟨rfl, ⟨nd, rfl⟩⟩; refine ⟨_, rfl, ?_⟩) | ((with_reducible refine gate_dst (N := 61) rfl ?_); (try (refine gate_guard (by rfl) ?_; dsimp only)); refine Kd.R_lit (Kd.int .u32) _ 32 ?hg (N := 61) ?hd (xs := ([t271] : List Int)) (inner := [.int .u32 t271]) (ok := fun _ => True) (okp := fun _ => True) ?hr ?hp (fun _ hk => hk) trivial (Below.refl _ _) (Nat.le_refl _) (by simp) ?_; (case hd => rfl); (case hg => rfl); (case hr => first | (go_simp; done) | (go_simp; rfl)); (case hp => exact (Reps.one (show Kd.M (Kd.int .u32) _ _ _ t271 [.int .u32 t271] from rfl) (Reps.none _ _))); intro v289 w47 ho48 hb hg_ hnew_; clear hg_ hnew_; (first | rw [← Ny288.out] at ho48 | (simp only [Int.reduceToNat] at ho48; rw [← Ny288.out] at ho48)); have n0_ := Aside0.mk (Kd.V_elder' (by (with_reducible repeat (first | apply Kd.V_alloc | apply Kd.V_drewN | apply Kd.V_drew)); exact HO0.out) (Kd.R_base ho48) hb); have n1_ := Aside0.mk (Kd.N_elder' (by (with_reducible repeat (first | apply Kd.N_alloc | apply Kd.N_drewN | apply Kd.N_drew)); exact HO267.out) (Kd.R_base ho48) hb); have n2_ := Aside0.mk (Kd.R_elder' (by (with_reducible repeat (first | apply Kd.R_alloc | apply Kd.R_drewN | apply Kd.R_drew)); exact HO274.out) (Kd.R_base ho48) hb); have n3_ := Aside0.mk (Kd.R_elder' (by (with_reducible repeat (first | apply Kd.R_alloc | apply Kd.R_drewN | apply Kd.R_drew)); exact HO279.out) (Kd.R_base ho48) hb); have n4_ := Aside0.mk (Kd.R_elder' (by (with_reducible repeat (first | apply Kd.R_alloc | apply Kd.R_drewN | apply Kd.R_drew)); exact HO286.out) (Kd.R_base ho48) hb); have n5_ := Aside0.mk (Kd.R_lower (Kd.R_new' (Kd.R_new' (Kd.R_new' (Kd.R_newM (M := fun k_ => (w.heap.size ≤ k_)) ho48 (below_size (by repeat (first | (with_reducible first | exact HB.out | apply below_alloc | apply pw_below_drewN | apply below_drew1) | exact HB.out))) (fun k_ h_ => h_)) (Kd.R_lt (by (with_reducible repeat (first | apply Kd.R_alloc | apply Kd.R_drewN | apply Kd.R_drew)); exact HO274.out))) (Kd.R_lt (by (with_reducible repeat (first | apply Kd.R_alloc | apply Kd.R_drewN | apply Kd.R_drew)); exact HO279.out))) (Kd.R_lt (by (with_reducible repeat (first | apply Kd.R_alloc | apply Kd.R_drewN | apply Kd.R_drew)); exact HO286.out))) (below_size (by repeat (first | (with_reducible first | exact HB.out | apply below_alloc | apply pw_below_drewN | apply below_drew1) | exact HB.out)))); have n6_ := Aside0.mk (below_step (by repeat (first | (with_reducible first | exact HB.out | apply below_alloc | apply pw_below_drewN | apply below_drew1) | exact HB.out)) hb); clear HO0; clear HO267; clear HO274; clear HO279; clear HO286; clear HB; have HO0 := n0_; have HO267 := n1_; have HO274 := n2_; have HO279 := n3_; have HO286 := n4_; have HO290 := n5_; have HB := n6_; clear n0_ n1_ n2_ n3_ n4_ n5_ n6_; clear hb ho48; obtain ⟨Ao49, co49, eo49⟩ := Kd.R_slice HO290.out; subst eo49) | ((with_reducible refine gate_dst (N := 62) rfl ?_); (try (refine gate_guard (by rfl) ?_; dsimp only)); (refine gate_guard (by rfl) ?_; dsimp only); (with_reducible refine gate_callee (f := 11) rfl ?_); refine goesL_ (some 62) rfl rfl Try.func11 (by kernel_rfl) rfl #[.slice Ao49 y288.length co49] rfl (by (try simp only [List.map_toArray, List.map_cons, List.map_nil]); first | done | rfl | (simp only [List.length_drop, List.length_take]; rfl)) ?_; (with_reducible refine (figureheadref01_Text.calls k _ _ y288 t291 _ ?side1 ?side2 A29.out).mono ?_); (case side1 => repeat (first | exact (Kd.R_reads' HO290.out).2.2 | (with_reducible refine Kd.C_alloc ?_ _) | (with_reducible refine Kd.C_drewN ?_ _) | (with_reducible refine Kd.C_drew ?_))); (case side2 => exact (Kd.R_reads' HO290.out).2.1); rintro e w50 ⟨rfl, hb⟩; refine ⟨_, rfl, ?_⟩; have n0_ := Aside0.mk (Kd.V_below (by (with_reducible repeat (first | apply Kd.V_alloc | apply Kd.V_drewN | apply Kd.V_drew)); exact HO0.out) hb); have n1_ := Aside0.mk (Kd.N_below (by (with_reducible repeat (first | apply Kd.N_alloc | apply Kd.N_drewN | apply Kd.N_drew)); exact HO267.out) hb); have n2_ := Aside0.mk (Kd.R_below (by (with_reducible repeat (first | apply Kd.R_alloc | apply Kd.R_drewN | apply Kd.R_drew)); exact HO274.out) hb); have n3_ := Aside0.mk (Kd.R_below (by (with_reducible repeat (first | apply Kd.R_alloc | apply Kd.R_drewN | apply Kd.R_drew)); exact HO279.out) hb); have n4_ := Aside0.mk (Kd.R_below (by (with_reducible repeat (first | apply Kd.R_alloc | apply Kd.R_drewN | apply Kd.R_drew)); exact HO286.out) hb); have n5_ := Aside0.mk (Kd.R_below (by (with_reducible repeat (first | apply Kd.R_alloc | apply Kd.R_drewN | apply Kd.R_drew)); exact HO290.out) hb); have n6_ := Aside0.mk (below_step (by repeat (first | (with_reducible first | exact HB.out | apply below_alloc | apply pw_below_drewN | apply below_drew1) | exact HB.out)) hb); clear HO0; clear HO267; clear HO274; clear HO279; clear HO286; clear HO290; clear HB; have HO0 := n0_; have HO267 := n1_; have HO274 := n2_; have HO279 := n3_; have HO286 := n4_; have HO290 := n5_; have HB := n6_; clear n0_ n1_ n2_ n3_ n4_ n5_ n6_; (try clear hb); (try clear hb2); (try clear hk); (try clear hi)))
            go_ret
            exact ⟨by first | rfl | (simp [errW_none, errW_some] <;> rfl) | (simp [*, errW_none, errW_some] <;> rfl), by repeat (first | (with_reducible first | exact HB.out | apply below_alloc | apply pw_below_drewN | apply below_drew1) | exact HB.out)⟩
          · replace c28 := Bool.eq_false_iff.mpr c28
            subst c28
            have H1 : (some false) = some r := by rw [if_neg (show ¬ (false = true) by decide)] at H; exact H
            clear H
            have H := H1
            clear H1
            exact absurd ((Option.some.inj H).trans HT.out) (by decide)
        · replace c25 := Bool.eq_false_iff.mpr c25
          subst c25
          have H1 : (some false) = some r := by rw [if_neg (show ¬ (false = true) by decide)] at H; exact H
          clear H
          have H := H1
          clear H1
          exact absurd ((Option.some.inj H).trans HT.out) (by decide)
      · replace c24 := Bool.eq_false_iff.mpr c24
        subst c24
        have H1 : (some false) = some r := by rw [if_neg (show ¬ (false = true) by decide)] at H; exact H
        clear H
        have H := H1
        clear H1
        exact absurd ((Option.some.inj H).trans HT.out) (by decide)
  · replace c4 := Bool.eq_false_iff.mpr c4
    subst c4
    have H1 : ((figureheadlaw03_answers.f k).bind fun t269 => (some t269)) = some r := by rw [if_neg (show ¬ (false = true) by decide)] at H; exact H
    clear H
    have H := H1
    clear H1
    replace H := Option.bind_eq_some_iff.mp H
    obtain ⟨t269, A510, H⟩ := H
    replace H : (some t269) = some r := H
    have A51 := Aside0.mk A510
    clear A510
    obtain rfl := Option.some.inj H
    go_enter Try.func4, Try.ntmps4
    go_wp2_with (first | ((with_reducible refine gate_dst (N := 12) rfl ?_); (try (refine gate_guard (by rfl) ?_; dsimp only)); refine Kd.R_lit (Kd.int .u32) _ 32 ?hg (N := 12) ?hd (xs := ([a1] : List Int)) (inner := [.int .u32 a1]) (ok := fun _ => True) (okp := fun _ => True) ?hr ?hp (fun _ hk => hk) trivial (Below.refl _ _) (Nat.le_refl _) (by simp) ?_; (case hd => rfl); (case hg => rfl); (case hr => first | (go_simp; done) | (go_simp; rfl)); (case hp => exact (Reps.one (show Kd.M (Kd.int .u32) _ _ _ a1 [.int .u32 a1] from rfl) (Reps.none _ _))); intro v263 w52 ho53 hb hg_ hnew_; clear hg_ hnew_; (first | rw [← Ny262.out] at ho53 | (simp only [Int.reduceToNat] at ho53; rw [← Ny262.out] at ho53)); have n0_ := Aside0.mk (Kd.V_elder' (by (with_reducible repeat (first | apply Kd.V_alloc | apply Kd.V_drewN | apply Kd.V_drew)); exact HO0.out) (Kd.R_base ho53) hb); have n1_ := Aside0.mk (Kd.R_lower (Kd.R_newM (M := fun k_ => (w.heap.size ≤ k_)) ho53 (below_size (by repeat (first | (with_reducible first | exact HB.out | apply below_alloc | apply pw_below_drewN | apply below_drew1) | exact HB.out))) (fun k_ h_ => h_)) (below_size (by repeat (first | (with_reducible first | exact HB.out | apply below_alloc | apply pw_below_drewN | apply below_drew1) | exact HB.out)))); have n2_ := Aside0.mk (below_step (by repeat (first | (with_reducible first | exact HB.out | apply below_alloc | apply pw_below_drewN | apply below_drew1) | exact HB.out)) hb); clear HO0; clear HB; have HO0 := n0_; have HO264 := n1_; have HB := n2_; clear n0_ n1_ n2_; clear hb ho53; obtain ⟨Ao54, co54, eo54⟩ := Kd.R_slice HO264.out; subst eo54) | ((with_reducible refine gate_dst (N := 13) rfl ?_); (try (refine gate_guard (by rfl) ?_; dsimp only)); refine Kd.N_lit (Kd.slice 32 (Kd.int .u32)) _ 22 ?hg (N' := 13) ?hd (xs := ([l0, y262] : List (List Int))) (inner := [.slice A0 l0.length c0, .slice Ao54 y262.length co54]) (ok := (fun k_ => (P0_ k_ ∨ w.heap.size ≤ k_))) (okp := (fun k_ => (P0_ k_ ∨ w.heap.size ≤ k_))) ?hr ?hp (fun _ hk => hk) ((show ∀ k_, w52.heap.size ≤ k_ → (fun k_ => (P0_ k_ ∨ w.heap.size ≤ k_)) k_ from fun k_ hk => (.inr (Nat.le_trans (below_size (by repeat (first | (with_reducible first | exact HB.out | apply below_alloc | apply pw_below_drewN | apply below_drew1) | exact HB.out))) hk))) _ (Nat.le_refl _)) (Below.refl _ _) (Nat.le_refl _) (by simp) ?_; (case hd => rfl); (case hg => rfl); (case hr => first | (go_simp; done) | (go_simp; rfl)); (case hp => exact (Reps.one (show Kd.FK (Kd.slice 32 (Kd.int .u32)) _ _ l0 [.slice A0 l0.length c0] from (Kd.FK_slice_mk (Kd.V_reads' (Kd.V_mono (ok' := (fun k_ => (P0_ k_ ∨ w.heap.size ≤ k_))) (HO0.out) (fun k_ hk => hk.1))).2.1 (Kd.V_F (Kd.V_mono (ok' := (fun k_ => (P0_ k_ ∨ w.heap.size ≤ k_))) (HO0.out) (fun k_ hk => hk.1))))) (Reps.one (show Kd.FK (Kd.slice 32 (Kd.int .u32)) _ _ y262 [.slice Ao54 y262.length co54] from (Kd.FK_slice_mk (Kd.R_reads' (Kd.R_mono (ok' := (fun k_ => (P0_ k_ ∨ w.heap.size ≤ k_))) (HO264.out) (fun k_ hk => (.inr (hk.1))))).2.1 (Kd.R_F (Kd.R_mono (ok' := (fun k_ => (P0_ k_ ∨ w.heap.size ≤ k_))) (HO264.out) (fun k_ hk => (.inr (hk.1))))))) (Reps.none _ _)))); intro v266 w55 ho56 hb hg_ hnew_; clear hg_ hnew_; (first | rw [← Ny265.out] at ho56 | (simp only [Int.reduceToNat] at ho56; rw [← Ny265.out] at ho56)); have n0_ := Aside0.mk (Kd.V_elder' (by (with_reducible repeat (first | apply Kd.V_alloc | apply Kd.V_drewN | apply Kd.V_drew)); exact HO0.out) (Kd.N_base ho56) hb); have n1_ := Aside0.mk (Kd.N_lower ho56 (below_size (by repeat (first | (with_reducible first | exact HB.out | apply below_alloc | apply pw_below_drewN | apply below_drew1) | exact HB.out)))); have n2_ := Aside0.mk (below_step (by repeat (first | (with_reducible first | exact HB.out | apply below_alloc | apply pw_below_drewN | apply below_drew1) | exact HB.out)) hb); clear HO0; clear HB; clear HO264; have HO0 := n0_; have HO267 := n1_; have HB := n2_; clear n0_ n1_ n2_; clear hb ho56; obtain ⟨Ao57, co57, eo57⟩ := Kd.N_slice HO267.out; subst eo57) | ((with_reducible refine gate_callee (f := 8) rfl ?_); refine goesL_ (some 14) rfl rfl Try.func8 (by kernel_rfl) rfl #[.slice Ao57 y265.length co57] rfl (by (try simp only [List.map_toArray, List.map_cons, List.map_nil]); first | done | rfl | (simp only [List.length_drop, List.length_take]; rfl)) ?_; (with_reducible refine (figureheadlaw03_good.calls k _ _ y265 false _ ?side1 ?side2 A3.out).mono ?_); (case side1 => repeat (first | exact (Kd.N_reads' HO267.out).2.2 | (with_reducible refine Kd.C_alloc ?_ _) | (with_reducible refine Kd.C_drewN ?_ _) | (with_reducible refine Kd.C_drew ?_))); (case side2 => exact (Kd.N_reads' HO267.out).2.1); rintro e w' ⟨rfl, ⟨nd, rfl⟩⟩; refine ⟨_, rfl, ?_⟩) | ((with_reducible refine gate_callee (f := 9) rfl ?_); refine goesL_ (some 16) rfl rfl Try.func9 (by kernel_rfl) rfl #[] rfl (by (try simp only [List.map_toArray, List.map_cons, List.map_nil]); first | done | rfl | (simp only [List.length_drop, List.length_take]; rfl)) ?_; (with_reducible refine (figureheadlaw03_answers.calls k  t269 _ ?side1 A51.out).mono ?_); (case side1 => exact ⟨by first | rfl | exact HT.out⟩); rintro e w58 ⟨rfl, hb⟩; refine ⟨_, rfl, ?_⟩; have n0_ := Aside0.mk (Kd.V_below (by (with_reducible repeat (first | apply Kd.V_alloc | apply Kd.V_drewN | apply Kd.V_drew)); exact HO0.out) hb); have n1_ := Aside0.mk (Kd.N_below (by (with_reducible repeat (first | apply Kd.N_alloc | apply Kd.N_drewN | apply Kd.N_drew)); exact HO267.out) hb); have n2_ := Aside0.mk (below_step (by repeat (first | (with_reducible first | exact HB.out | apply below_alloc | apply pw_below_drewN | apply below_drew1) | exact HB.out)) hb); clear HO0; clear HO267; clear HB; have HO0 := n0_; have HO267 := n1_; have HB := n2_; clear n0_ n1_ n2_; (try clear hb); (try clear hb2); (try clear hk); (try clear hi)))
    go_ret
    exact ⟨by first | rfl | (simp [errW_none, errW_some] <;> rfl) | (simp [*, errW_none, errW_some] <;> rfl), by repeat (first | (with_reducible first | exact HB.out | apply below_alloc | apply pw_below_drewN | apply below_drew1) | exact HB.out)⟩

end Go.Proofs.Ytnpibnjncjieaaa.Px

namespace Go.Proofs.Ytnpibnjncjieaaa.Px
open Fig Go.RowKit Go.Proofs.YtnpibnjncjieaaaW.PrintWords Go.Proofs.YtnpibnjncjieaaaW.PrintLast Go.Proofs.YtnpibnjncjieaaaW.PrintMore
attribute [local go_sem] max2_int min2_int max_two min_two max_three min_three max_four min_four   -- for this text's walks alone

/-! plain facts: figureheadref01_Good -/
theorem Good_loop (l : List Int) (hl : l.length ≤ 4611686018427387904) (h0 : ∀ x ∈ l, 0 ≤ x) : ∀ (d n : Nat), l.length - n = d → n ≤ l.length → Ev (fun k => figureheadref01_Good.l0 k l (n : Int)) (goodL (l.drop n))
  | 0, n, hd, hn => by
    refine evDone (r' := true) (fun k => ?_) ?_
    · simp only [figureheadref01_Good.l0]; rw [if_neg (by omega)]
    · rw [List.drop_of_length_le (by omega)]; rfl
  | d + 1, n, hd, hn => by
    have hlt : n < l.length := by omega
    have hb := rd_get hlt
    have hc := List.drop_eq_getElem_cons hlt
    have hp := h0 _ (List.getElem_mem hlt)
    by_cases h9 : rd l (n : Int) > 999999999
    · refine evDone (r' := false) (fun k => ?_) ?_
      · simp only [figureheadref01_Good.l0]; rw [if_pos (by omega), if_pos (by omega), if_pos h9]
      · rw [hc]; symm; rw [Bool.eq_false_iff]; intro e; have := (goodL_cons.1 e).1; omega
    · refine Ev.step (f := fun k => figureheadref01_Good.l0 k l ((n + 1 : Nat) : Int)) (fun k => ?_) ?_
      · simp only [figureheadref01_Good.l0]; rw [if_pos (by omega), if_pos (by omega), if_neg h9, w64 (by omega) (by omega)]; rfl
      · have := Good_loop l hl h0 d (n + 1) (by omega) (by omega)
        rw [hc]
        have e : goodL (l[n] :: l.drop (n + 1)) = goodL (l.drop (n + 1)) := by
          rw [Bool.eq_iff_iff, goodL_cons]
          exact ⟨fun h => h.2, fun h => ⟨⟨hp, by omega⟩, h⟩⟩
        rw [e]; exact this
theorem Good_ev {l : List Int} (hl : l.length ≤ 4611686018427387904) (h0 : ∀ x ∈ l, 0 ≤ x) : Ev (fun k => figureheadref01_Good.f k l) (goodL l) := by
  have := Good_loop l hl h0 l.length 0 (by omega) (by omega)
  simpa [figureheadref01_Good.f] using this

end Go.Proofs.Ytnpibnjncjieaaa.Px

namespace Go.Proofs.Ytnpibnjncjieaaa.Px
open Fig Go.RowKit Go.Proofs.YtnpibnjncjieaaaW.PrintWords Go.Proofs.YtnpibnjncjieaaaW.PrintLast Go.Proofs.YtnpibnjncjieaaaW.PrintMore
attribute [local go_sem] max2_int min2_int max_two min_two max_three min_three max_four min_four   -- for this text's walks alone

/-! plain facts: figureheadlaw03_good -/
theorem good03_loop (ls : List (List Int)) (hl : ls.length ≤ 1000) (hb : ∀ l ∈ ls, l.length ≤ 4611686018427387904) (h0 : ∀ l ∈ ls, ∀ x ∈ l, 0 ≤ x) : ∀ (d n : Nat), ls.length - n = d → n ≤ ls.length → Ev (fun k => figureheadlaw03_good.l0 k ls (n : Int)) ((ls.drop n).all fun l => decide (l.length ≤ 20) && goodL l)
  | 0, n, hd, hn => by
    refine evDone (r' := true) (fun k => ?_) (by rw [List.drop_of_length_le (by omega)]; rfl)
    simp only [figureheadlaw03_good.l0]; rw [if_neg (by omega)]
  | d + 1, n, hd, hn => by
    have hlt : n < ls.length := by omega
    have hm := List.getElem_mem hlt
    have hrd : rd_L1 ls (n : Int) = ls[n] := by
      unfold rd_L1; rw [Int.toNat_natCast, List.getD_eq_getElem?_getD, List.getElem?_eq_getElem hlt]; rfl
    rw [List.drop_eq_getElem_cons hlt, List.all_cons]
    have hbm := hb _ hm
    by_cases h20 : ls[n].length ≤ 20
    · refine evIs (Ev.step (f := fun k => (figureheadref01_Good.f k ls[n]).bind fun t => if t = true then figureheadlaw03_good.l0 k ls ((n + 1 : Nat) : Int) else some false) (fun k => ?_) (Ev.bind (a := goodL ls[n]) (r := goodL ls[n] && ((ls.drop (n + 1)).all fun l => decide (l.length ≤ 20) && goodL l)) (Good_ev hbm (h0 _ hm)) ?_)) ?_
      · simp only [figureheadlaw03_good.l0]; rw [if_pos (by omega), if_pos (by omega), hrd, if_neg (by omega), succ64 _ (by omega)]
      · cases hg : goodL ls[n]
        · simpa using Ev.now false
        · simpa using good03_loop ls hl hb h0 d (n + 1) (by omega) (by omega)
      · simp [h20]
    · refine evDone (r' := false) (fun k => ?_) (by simp [h20])
      simp only [figureheadlaw03_good.l0]; rw [if_pos (by omega), if_pos (by omega), hrd, if_pos (by omega)]
theorem good03_ev {ls : List (List Int)} (hl : ls.length ≤ 1000) (hb : ∀ l ∈ ls, l.length ≤ 4611686018427387904) (h0 : ∀ l ∈ ls, ∀ x ∈ l, 0 ≤ x) : Ev (fun k => figureheadlaw03_good.f k ls) (ls.all fun l => decide (l.length ≤ 20) && goodL l) := by
  have := good03_loop ls hl hb h0 ls.length 0 (by omega) (by omega)
  simpa [figureheadlaw03_good.f] using this

end Go.Proofs.Ytnpibnjncjieaaa.Px

namespace Go.Proofs.Ytnpibnjncjieaaa.Px
open Fig Go.RowKit Go.Proofs.YtnpibnjncjieaaaW.PrintWords Go.Proofs.YtnpibnjncjieaaaW.PrintLast Go.Proofs.YtnpibnjncjieaaaW.PrintMore
attribute [local go_sem] max2_int min2_int max_two min_two max_three min_three max_four min_four   -- for this text's walks alone

/-! plain facts: mul_row -/
theorem row_step (s v y c : Nat) (hs : s < 1000000000) (hv : v < 1000000000) (hy : y < 1000000000) (hc : c < 1000000000) :
    IntKind.u64.wrap ((IntKind.u64.wrap ((IntKind.u64.wrap (s : Int)) + (IntKind.u64.wrap ((IntKind.u64.wrap (v : Int)) * (IntKind.u64.wrap (y : Int)))))) + (c : Int)) = ((s + v * y + c : Nat) : Int) := by
  have h1 : v * y ≤ 999999999 * 999999999 := Nat.mul_le_mul (by omega) (by omega)
  rw [u64w (x := (s : Int)) (by omega) (by omega), u64w (x := (v : Int)) (by omega) (by omega), u64w (x := (y : Int)) (by omega) (by omega)]
  have e2 : (v : Int) * (y : Int) = ((v * y : Nat) : Int) := by simp
  rw [e2]
  generalize v * y = t at *
  rw [u64w (x := (t : Int)) (by omega) (by omega), u64w (x := (s : Int) + (t : Int)) (by omega) (by omega), u64w (by omega) (by omega)]; omega
theorem row_low (n : Nat) (h : n ≤ 18446744073709551615) : Int.tmod (n : Int) 1000000000 % 4294967296 = ((n % 1000000000 : Nat) : Int) := by
  rw [Int.tmod_eq_emod_of_nonneg (by omega)]; omega
theorem row_high (n : Nat) (h : n ≤ 18446744073709551615) : IntKind.u64.wrap (Int.tdiv (n : Int) 1000000000) = ((n / 1000000000 : Nat) : Int) := by
  rw [Int.tdiv_eq_ediv_of_nonneg (by omega), u64w (by omega) (by omega)]; omega
theorem row_step1 (s c : Nat) (hs : s < 1000000000) (hc : c < 1000000000) : IntKind.u64.wrap ((IntKind.u64.wrap (s : Int)) + (c : Int)) = ((s + c : Nat) : Int) := by
  rw [u64w (x := (s : Int)) (by omega) (by omega), u64w (by omega) (by omega)]; omega
theorem valL_set : ∀ (l : List Int) (m : Nat) (h : m < l.length) (v s : Nat), l[m] = (s : Int) → valL (l.set m (v : Int)) + 1000000000 ^ m * s = valL l + 1000000000 ^ m * v
  | x :: l, 0, h, v, s, h0 => by
    simp only [List.set_cons_zero, valL, List.getElem_cons_zero] at h0 ⊢
    rw [Nat.pow_zero]; omega
  | x :: l, m + 1, h, v, s, h0 => by
    simp only [List.set_cons_succ, valL, List.getElem_cons_succ] at h0 ⊢
    have := valL_set l m (by simpa using h) v s h0
    rw [Nat.pow_succ, Nat.mul_comm (1000000000 ^ m) 1000000000, Nat.mul_assoc, Nat.mul_assoc]; omega
theorem goodL_set {l : List Int} (h : goodL l = true) (m : Nat) {v : Int} (hv : 0 ≤ v ∧ v < 1000000000) : goodL (l.set m v) = true := by
  rw [goodL_iff]; intro e he
  rcases List.mem_or_eq_of_mem_set he with h1 | h1
  · exact goodL_iff.1 h e h1
  · subst h1; exact hv
/-- what row leaves -/
def RowPost (x : List Int) (V : Nat) (r : List Int) : Prop := goodL r = true ∧ r.length = x.length ∧ valL r = V
theorem row_end (V : Nat) : ∀ (d n : Nat) (x : List Int) (c : Nat), x.length - n = d → goodL x = true → x.length ≤ 1000000000000 → n ≤ x.length → c < 1000000000 → valL x + 1000000000 ^ n * c = V → V < 1000000000 ^ x.length →
    ∃ r, Ev (fun k => mul_row.l1 k x (c : Int) (n : Int)) r ∧ RowPost x V r
  | d, n, x, c, h1, hg, hl, hn, hc, hV, hlt => by
    by_cases h0 : c = 0
    · subst h0
      refine ⟨x, evDone (r' := x) (fun k => ?_) rfl, hg, rfl, by omega⟩
      simp only [mul_row.l1]; rw [if_neg (by omega)]
    · have hnx : n < x.length := by
        rcases Nat.lt_or_ge n x.length with h | h
        · exact h
        · obtain rfl : n = x.length := by omega
          have := Nat.mul_le_mul_left (1000000000 ^ x.length) (show 1 ≤ c by omega)
          omega
      obtain ⟨d, rfl⟩ : ∃ e, d = e + 1 := ⟨d - 1, by omega⟩
      have hp := goodL_iff.1 hg _ (List.getElem_mem hnx)
      obtain ⟨s, hs⟩ : ∃ s : Nat, x[n] = (s : Int) := ⟨x[n].toNat, by omega⟩
      have hset := valL_set x n hnx ((s + c) % 1000000000) s hs
      have hdm := Nat.div_add_mod (s + c) 1000000000
      have key : valL (x.set n (((s + c) % 1000000000 : Nat) : Int)) + 1000000000 ^ (n + 1) * ((s + c) / 1000000000) = V := by
        have e := congrArg (fun z => 1000000000 ^ n * z) hdm
        simp only [Nat.mul_add] at e
        rw [Nat.pow_succ, Nat.mul_assoc]
        omega
      have hc' : (s + c) / 1000000000 < 1000000000 := by omega
      obtain ⟨r, hr, p1, p2, p3⟩ := row_end V d (n + 1) (x.set n (((s + c) % 1000000000 : Nat) : Int)) ((s + c) / 1000000000) (by simp; omega) (goodL_set hg n (by omega)) (by simpa using hl) (by simp; omega) hc' key (by simpa using hlt)
      refine ⟨r, Ev.step (fun k => ?_) hr, p1, by simpa using p2, p3⟩
      simp only [mul_row.l1]; rw [if_pos (by omega), if_pos (by omega), if_pos (by omega), rd_get hnx, hs, row_step1 _ _ (by omega) hc, row_low _ (by omega), row_high _ (by omega), w64 (by omega) (by omega), Int.toNat_natCast]; rfl
theorem row_idx (p q : Nat) (hp : p ≤ 1000000000000) (hq : q ≤ 1000000000000) : wrap64 ((p : Int) + (q : Int)) = ((p + q : Nat) : Int) := by rw [w64 (by omega) (by omega)]; omega
theorem row_loop (a : List Int) (ga : goodL a = true) (y p V : Nat) (hy : y < 1000000000) : ∀ (d n : Nat) (x : List Int) (c : Nat), a.length - n = d → goodL x = true → x.length ≤ 1000000000000 → n ≤ a.length → p + a.length ≤ x.length → c < 1000000000 → valL x + 1000000000 ^ (p + n) * (c + valL (a.drop n) * y) = V → V < 1000000000 ^ x.length →
    ∃ r, Ev (fun k => mul_row.l0 k x a (y : Int) (p : Int) (c : Int) a (a.length : Int) (n : Int)) r ∧ RowPost x V r
  | 0, n, x, c, h1, hg, hl, hn, hpa, hc, hV, hlt => by
    have e : a.drop n = [] := List.drop_of_length_le (by omega)
    rw [e] at hV
    obtain ⟨r, hr, p1⟩ := row_end V _ (p + n) x c rfl hg hl (by omega) hc (by simpa [valL] using hV) hlt
    refine ⟨r, Ev.step (fun k => ?_) hr, p1⟩
    simp only [mul_row.l0]; rw [if_neg (by omega), row_idx p a.length (by omega) (by omega), show a.length = n by omega]
  | d + 1, n, x, c, h1, hg, hl, hn, hpa, hc, hV, hlt => by
    have hna : n < a.length := by omega
    have hnx : p + n < x.length := by omega
    have pa := goodL_iff.1 ga _ (List.getElem_mem hna)
    have px := goodL_iff.1 hg _ (List.getElem_mem hnx)
    obtain ⟨v, hv⟩ : ∃ v : Nat, a[n] = (v : Int) := ⟨a[n].toNat, by omega⟩
    obtain ⟨s, hs⟩ : ∃ s : Nat, x[p + n] = (s : Int) := ⟨x[p + n].toNat, by omega⟩
    have hvy : v * y ≤ 999999999 * 999999999 := Nat.mul_le_mul (by omega) (by omega)
    have e : valL (a.drop n) = v + 1000000000 * valL (a.drop (n + 1)) := by rw [List.drop_eq_getElem_cons hna, hv]; rfl
    have hset := valL_set x (p + n) hnx ((s + v * y + c) % 1000000000) s hs
    have hdm := Nat.div_add_mod (s + v * y + c) 1000000000
    have key : valL (x.set (p + n) (((s + v * y + c) % 1000000000 : Nat) : Int)) + 1000000000 ^ (p + (n + 1)) * ((s + v * y + c) / 1000000000 + valL (a.drop (n + 1)) * y) = V := by
      have e1 := congrArg (fun z => 1000000000 ^ (p + n) * z) hdm
      simp only [Nat.mul_add] at e1
      rw [e, Nat.add_mul, Nat.mul_add, Nat.mul_add, Nat.mul_assoc 1000000000, ← Nat.mul_assoc _ 1000000000] at hV
      rw [← Nat.add_assoc, Nat.pow_succ, Nat.mul_add, Nat.mul_assoc _ 1000000000 (_ / _)]
      omega
    have hc' : (s + v * y + c) / 1000000000 < 1000000000 := by omega
    obtain ⟨r, hr, p1, p2, p3⟩ := row_loop a ga y p V hy d (n + 1) (x.set (p + n) (((s + v * y + c) % 1000000000 : Nat) : Int)) ((s + v * y + c) / 1000000000) (by omega) (goodL_set hg _ (by omega)) (by simpa using hl) (by omega) (by simpa using hpa) hc' key (by simpa using hlt)
    refine ⟨r, Ev.step (fun k => ?_) hr, p1, by simpa using p2, p3⟩
    simp only [mul_row.l0]
    rw [if_pos (by omega), if_pos (by omega), if_pos (by omega), row_idx p n (by omega) (by omega), if_pos (by omega), if_pos (by omega), rd_get hnx, rd_get hna, hs, hv, row_step _ _ _ _ (by omega) (by omega) hy hc, row_low _ (by omega), row_high _ (by omega), succ64 _ (by omega), Int.toNat_natCast]
theorem row_ev {x a : List Int} {y p : Nat} (gx : goodL x = true) (ga : goodL a = true) (hy : y < 1000000000) (hl : x.length ≤ 1000000000000) (hpa : p + a.length ≤ x.length) (hlt : valL x + 1000000000 ^ p * (valL a * y) < 1000000000 ^ x.length) :
    ∃ r, Ev (fun k => mul_row.f k x a (y : Int) (p : Int)) r ∧ goodL r = true ∧ r.length = x.length ∧ valL r = valL x + 1000000000 ^ p * (valL a * y) := by
  obtain ⟨r, hr, h⟩ := row_loop a ga y p _ hy a.length 0 x 0 rfl gx hl (by omega) hpa (by omega) rfl (by simpa using hlt)
  exact ⟨r, hr, h.1, h.2.1, by rw [h.2.2]; simp⟩

end Go.Proofs.Ytnpibnjncjieaaa.Px

namespace Go.Proofs.Ytnpibnjncjieaaa.Px
open Fig Go.RowKit Go.Proofs.YtnpibnjncjieaaaW.PrintWords Go.Proofs.YtnpibnjncjieaaaW.PrintLast Go.Proofs.YtnpibnjncjieaaaW.PrintMore
attribute [local go_sem] max2_int min2_int max_two min_two max_three min_three max_four min_four   -- for this text's walks alone

/-! plain facts: div_Small -/
theorem cast_bd {x : Nat} (h : x < 1000000000) : (0 : Int) ≤ (x : Int) ∧ (x : Int) < 1000000000 := by omega
theorem divs_step (r p y : Nat) (hy0 : 0 < y) (hy : y < 1000000000) (hr : r < y) (hp : p < 1000000000) : IntKind.u64.wrap ((IntKind.u64.wrap ((r : Int) * 1000000000)) + (IntKind.u64.wrap (p : Int))) = ((r * 1000000000 + p : Nat) : Int) := by
  rw [u64w (x := (r : Int) * 1000000000) (by omega) (by omega), u64w (x := (p : Int)) (by omega) (by omega), u64w (by omega) (by omega)]; omega
theorem divs_quo (r p y : Nat) (hy0 : 0 < y) (hy : y < 1000000000) (hr : r < y) (hp : p < 1000000000) : (r * 1000000000 + p) / y < 1000000000 := by
  rw [Nat.div_lt_iff_lt_mul hy0]
  have : (r + 1) * 1000000000 ≤ y * 1000000000 := Nat.mul_le_mul_right _ hr
  rw [Nat.mul_comm]; omega
theorem u64_nat (p : Nat) (hp : p ≤ 18446744073709551615) : IntKind.u64.wrap (p : Int) = (p : Int) := u64w (by omega) (by omega)
theorem divs_low (t y : Nat) (ht : t ≤ 18446744073709551615) (h : t / y < 1000000000) : (IntKind.u64.wrap (Int.tdiv (t : Int) (y : Int))) % 4294967296 = ((t / y : Nat) : Int) := by
  rw [← Int.ofNat_tdiv, u64_nat _ (by have := Nat.div_le_self t y; omega)]; generalize t / y = u at *; omega
theorem divs_mod (t y : Nat) : Int.tmod (t : Int) (y : Int) = ((t % y : Nat) : Int) := (Int.ofNat_tmod t y).symm
theorem drop_set_self : ∀ (q : List Int) (n : Nat) (v : Int), n < q.length → (q.set n v).drop n = v :: q.drop (n + 1)
  | x :: q, 0, v, h => rfl
  | x :: q, n + 1, v, h => by simpa using drop_set_self q n v (by simpa using h)
theorem divs_val (A V y p r X : Nat) (hy : 0 < y) (h : X * y + r = V) : (((r * 1000000000 + p) / y) + 1000000000 * X) * y + (r * 1000000000 + p) % y = p + 1000000000 * V := by
  have := Nat.div_add_mod (r * 1000000000 + p) y
  rw [Nat.add_mul, Nat.mul_assoc, Nat.mul_comm _ y, ← h, Nat.mul_add]; omega
theorem Small_div_loop (a : List Int) (ga : goodL a = true) (la : a.length ≤ 1000000000000) (y : Nat) (hy0 : 0 < y) (hy : y < 1000000000) : ∀ (n : Nat) (q : List Int) (r : Nat), n ≤ a.length → q.length = a.length → goodL q = true → r < y → valL (q.drop n) * y + r = valL (a.drop n) →
    Ev (fun k => div_Small.l0 k a (y : Int) q (r : Int) ((n : Int) - 1)) (limbs (valL a / y), ((valL a % y : Nat) : Int), true)
  | 0, q, r, hn, hq, gq, hr, hv => by
    rw [List.drop_zero, List.drop_zero] at hv
    have e1 : valL q = valL a / y := by rw [← hv, Nat.mul_comm, Nat.mul_add_div hy0, Nat.div_eq_of_lt hr]; rfl
    have e2 : r = valL a % y := by rw [← hv, Nat.mul_comm, Nat.mul_add_mod, Nat.mod_eq_of_lt hr]
    refine evIs (Ev.step (f := fun _ => (nat_Trim.f q).bind fun t => some (t, ((r : Nat) : Int) % 4294967296, true)) (fun k => ?_) (Ev.bind (evSome fun _ => trimF_eq gq (by omega)) (Ev.now _))) ?_
    · simp only [div_Small.l0]; rw [if_neg (by omega)]
    · rw [e1, ← e2]
      have : ((r : Nat) : Int) % 4294967296 = (r : Int) := by omega
      rw [this]
  | n + 1, q, r, hn, hq, gq, hr, hv => by
    have hna : n < a.length := by omega
    have hnq : n < q.length := by omega
    have pa := goodL_iff.1 ga _ (List.getElem_mem hna)
    obtain ⟨p, hp⟩ : ∃ v : Nat, a[n] = (v : Int) := ⟨a[n].toNat, by omega⟩
    have hp9 : p < 1000000000 := by omega
    have hqb := divs_quo r p y hy0 hy hr hp9
    have hmod := Nat.mod_lt (r * 1000000000 + p) hy0
    have ht : r * 1000000000 + p ≤ 18446744073709551615 := by omega
    have ex : (((n + 1 : Nat) : Int) - 1) = (n : Int) := by omega
    refine Ev.step (f := fun k => div_Small.l0 k a (y : Int) (q.set n (((r * 1000000000 + p) / y : Nat) : Int)) (((r * 1000000000 + p) % y : Nat) : Int) ((n : Int) - 1)) (fun k => ?_) (Small_div_loop a ga la y hy0 hy n _ _ (by omega) (by simpa using hq) (goodL_set gq n (cast_bd hqb)) hmod ?_)
    · simp only [ex, div_Small.l0]
      rw [if_pos (by omega), if_pos (by omega), if_pos (by omega), u64_nat y (by omega), if_neg (by omega), if_pos (by omega), rd_get hna, hp, divs_step r p y hy0 hy hr hp9, divs_low _ _ ht hqb, divs_mod, w64 (x := (n : Int) - 1) (by omega) (by omega), Int.toNat_natCast]
    · rw [drop_set_self q n _ hnq, List.drop_eq_getElem_cons hna, hp]
      exact divs_val 0 _ y p r _ hy0 hv
theorem DivSmall_ev {a : List Int} {y : Nat} (ga : goodL a = true) (la : a.length ≤ 1000000000000) (hy0 : 0 < y) (hy : y < 1000000000) : Ev (fun k => div_Small.f k a (y : Int)) (limbs (valL a / y), ((valL a % y : Nat) : Int), true) := by
  have h0 : ¬ (y : Int) = 0 := by omega
  have h1 : (0 : Int) ≤ (a.length : Int) := by omega
  have h2 : a.length ≤ 70368744177664 := by omega
  unfold div_Small.f
  simp only [h0, h1, if_true, if_false, Int.toNat_natCast, h2]
  rw [w64 (by omega) (by omega)]
  refine Small_div_loop a ga la y hy0 hy a.length _ 0 (Nat.le_refl _) (by simp) (goodL_replicate _) hy0 ?_
  rw [List.drop_of_length_le (by simp), List.drop_of_length_le (Nat.le_refl _)]; simp [valL]

end Go.Proofs.Ytnpibnjncjieaaa.Px

namespace Go.Proofs.Ytnpibnjncjieaaa.Px
open Fig Go.RowKit Go.Proofs.YtnpibnjncjieaaaW.PrintWords Go.Proofs.YtnpibnjncjieaaaW.PrintLast Go.Proofs.YtnpibnjncjieaaaW.PrintMore
attribute [local go_sem] max2_int min2_int max_two min_two max_three min_three max_four min_four   -- for this text's walks alone

/-! plain facts: figureheadlaw03_answers -/
theorem answers03_ev : Ev (fun k => figureheadlaw03_answers.f k) true := Ev.of figureheadlaw03_answers.mono (k := 60) (by decide +kernel)

end Go.Proofs.Ytnpibnjncjieaaa.Px

namespace Go.Proofs.Ytnpibnjncjieaaa.Px
open Fig Go.RowKit Go.Proofs.YtnpibnjncjieaaaW.PrintWords Go.Proofs.YtnpibnjncjieaaaW.PrintLast Go.Proofs.YtnpibnjncjieaaaW.PrintMore
attribute [local go_sem] max2_int min2_int max_two min_two max_three min_three max_four min_four   -- for this text's walks alone

/-! plain facts: figureheadref01_Strip -/
theorem Strip_loop (s : ByteArray) (hs : s.size ≤ 4611686018427387904) : ∀ (d n : Nat), s.size - n = d → n ≤ s.size → Ev (fun k => figureheadref01_Strip.l0 k s (n : Int)) (⟨(stripL (s.data.toList.drop n)).toArray⟩ : ByteArray)
  | 0, n, hd, hn => by
    refine evDone (r' := s.extract n s.size) (fun k => ?_) ?_
    · simp only [figureheadref01_Strip.l0]; rw [if_neg (by omega), if_pos (by omega), if_pos (by omega)]; simp
    · apply B_ext; rw [B_from]
      have : s.data.toList.drop n = [] := List.drop_of_length_le (by rw [← size_eq]; omega)
      rw [this]; rfl
  | d + 1, n, hd, hn => by
    have hlt : n < s.size := by omega
    have hb := bt_get hlt
    have hc := List.drop_eq_getElem_cons (l := s.data.toList) (i := n) (by rw [← size_eq]; exact hlt)
    by_cases h48 : bt s (n : Int) = 48
    · refine Ev.step (f := fun k => figureheadref01_Strip.l0 k s ((n + 1 : Nat) : Int)) (fun k => ?_) ?_
      · simp only [figureheadref01_Strip.l0]; rw [if_pos (by omega), if_pos (by omega), if_pos h48, w64 (by omega) (by omega)]; rfl
      · have := Strip_loop s hs d (n + 1) (by omega) (by omega)
        rw [hc]
        have h2 : s.data.toList[n]'(by rw [← size_eq]; exact hlt) = 48 := UInt8.toNat.inj (by rw [hb] at h48; show _ = 48; omega)
        rw [h2]
        simpa [stripL] using this
    · refine evDone (r' := s.extract n s.size) (fun k => ?_) ?_
      · simp only [figureheadref01_Strip.l0]; rw [if_pos (by omega), if_pos (by omega), if_neg h48, if_pos (by omega)]; simp
      · apply B_ext; rw [B_from]
        refine (stripL_of_head ?_).symm
        rw [hc, List.head?_cons]
        intro e
        injection e with e
        rw [hb, e] at h48; exact h48 rfl
theorem Strip_ev {s : ByteArray} (hs : s.size ≤ 4611686018427387904) : Ev (fun k => figureheadref01_Strip.f k s) (stripB s) := by
  have := Strip_loop s hs s.size 0 (by omega) (by omega)
  simpa [figureheadref01_Strip.f, stripB] using this
theorem StripD_ev {s : ByteArray} (hs : s.size ≤ 4611686018427387904) (h : dB s = true) : Ev (fun k => figureheadref01_Strip.f k s) (digB (vB s)) := by
  rw [← stripB_eq h]; exact Strip_ev hs

end Go.Proofs.Ytnpibnjncjieaaa.Px

namespace Go.Proofs.Ytnpibnjncjieaaa.Px
open Fig Go.RowKit Go.Proofs.YtnpibnjncjieaaaW.PrintWords Go.Proofs.YtnpibnjncjieaaaW.PrintLast Go.Proofs.YtnpibnjncjieaaaW.PrintMore
attribute [local go_sem] max2_int min2_int max_two min_two max_three min_three max_four min_four   -- for this text's walks alone

/-! plain facts: figureheadref01_Text -/
theorem pow_split (n m : Nat) : 10 ^ (n + m) = 10 ^ n * 10 ^ m := Nat.pow_add 10 n m
theorem one_char {c : Nat} (h : c ≤ 9) : dB (strOfNums [((48 : Int) + (c : Int)) % 4294967296 % 256]) = true ∧ vB (strOfNums [((48 : Int) + (c : Int)) % 4294967296 % 256]) = c ∧ (strOfNums [((48 : Int) + (c : Int)) % 4294967296 % 256]).size = 1 := by
  have e : ((48 : Int) + (c : Int)) % 4294967296 % 256 = ((48 + c : Nat) : Int) := by omega
  have e2 : (UInt8.ofNat (48 + c)).toNat = 48 + c := by rw [UInt8.toNat_ofNat']; omega
  rw [e]
  refine ⟨?_, ?_, ?_⟩
  · unfold dB; rw [B_nums]; simp only [List.map_cons, List.map_nil, Int.toNat_natCast]; rw [digL_cons, isD_iff, e2]; exact ⟨by omega, rfl⟩
  · unfold vB; rw [B_nums]; simp only [List.map_cons, List.map_nil, Int.toNat_natCast, List.reverse_singleton, rv, e2]; omega
  · rw [strOfNums_size]; rfl
theorem Text_in (l : List Int) (i : Nat) (hi : i < 4611686018427387904) (r : ByteArray) : ∀ (m : Nat) (s : ByteArray) (v : Nat), m ≤ 9 → v < 4294967296 → dB s = true → s.size + m ≤ 4611686018427387904 →
    (∀ s', dB s' = true → vB s' = vB s + 10 ^ s.size * (v % 10 ^ m) → s'.size = s.size + m → Ev (fun k => figureheadref01_Text.l0 k l s' ((i + 1 : Nat) : Int)) r) →
    Ev (fun k => figureheadref01_Text.l1 k l s (i : Int) (v : Int) ((9 - m : Nat) : Int)) r
  | 0, s, v, hm, hv, hd, hs, h => by
    refine Ev.step (f := fun k => figureheadref01_Text.l0 k l s ((i + 1 : Nat) : Int)) (fun k => ?_) (h s hd (by simp [Nat.mod_one]) rfl)
    simp only [figureheadref01_Text.l1]; rw [if_neg (by omega), w64 (by omega) (by omega)]; rfl
  | m + 1, s, v, hm, hv, hd, hs, h => by
    obtain ⟨c1, c2, c3⟩ := one_char (c := v % 10) (by omega)
    have et : Int.tmod (v : Int) 10 = ((v % 10 : Nat) : Int) := by rw [Int.tmod_eq_emod_of_nonneg (by omega)]; omega
    have ed : (Int.tdiv (v : Int) 10) % 4294967296 = ((v / 10 : Nat) : Int) := by rw [Int.tdiv_eq_ediv_of_nonneg (by omega)]; omega
    refine Ev.step (f := fun k => figureheadref01_Text.l1 k l (strOfNums [((48 : Int) + ((v % 10 : Nat) : Int)) % 4294967296 % 256] ++ s) (i : Int) ((v / 10 : Nat) : Int) ((9 - m : Nat) : Int)) (fun k => ?_) (Text_in l i hi r m _ (v / 10) (by omega) (by omega) (dB_append.2 ⟨c1, hd⟩) (by rw [ByteArray.size_append]; omega) ?_)
    · simp only [figureheadref01_Text.l1, Option.bind_some]; rw [if_pos (by omega), et, ed, if_pos (by omega), w64 (by omega) (by omega)]
      congr 1; omega
    · intro s' d' v' z'
      rw [ByteArray.size_append, c3] at z' v'
      refine h s' d' ?_ (by omega)
      rw [v', vB_append, c2]
      have e3 : v % 10 ^ (m + 1) = v % 10 + 10 * (v / 10 % 10 ^ m) := by rw [Nat.pow_succ, Nat.mul_comm (10 ^ m) 10, Nat.mod_mul]
      rw [e3, Nat.mul_add, Nat.add_comm 1 s.size, Nat.pow_succ, Nat.mul_comm (v % 10), ← Nat.mul_assoc]; omega
theorem Text_loop (l : List Int) (hg : goodL l = true) (hl : l.length ≤ 1000000000000) : ∀ (d n : Nat) (s : ByteArray), l.length - n = d → n ≤ l.length → dB s = true → s.size = 9 * n →
    Ev (fun k => figureheadref01_Text.l0 k l s (n : Int)) (digB (vB s + 10 ^ s.size * valL (l.drop n)))
  | 0, n, s, hd, hn, hs, hz => by
    refine Ev.step (f := fun k => (figureheadref01_Strip.f k s).bind fun t => some t) (fun k => ?_) (Ev.bind (StripD_ev (by omega) hs) ?_)
    · simp only [figureheadref01_Text.l0]; rw [if_neg (by omega)]
    · rw [List.drop_of_length_le (by omega)]; simpa [valL] using Ev.now _
  | d + 1, n, s, hd, hn, hs, hz => by
    have hlt : n < l.length := by omega
    have hb := rd_get hlt
    have hc := List.drop_eq_getElem_cons hlt
    have hp := goodL_iff.1 hg _ (List.getElem_mem hlt)
    refine Ev.step (f := fun k => figureheadref01_Text.l1 k l s (n : Int) ((l[n].toNat : Nat) : Int) ((9 - 9 : Nat) : Int)) (fun k => ?_) (Text_in l n (by omega) _ 9 s l[n].toNat (by omega) (by omega) hs (by omega) ?_)
    · simp only [figureheadref01_Text.l0]; rw [if_pos (by omega), if_pos (by omega), hb, Int.toNat_of_nonneg hp.1]; rfl
    · intro s' d' v' z'
      refine evIs (Text_loop l hg hl d (n + 1) s' (by omega) (by omega) d' (by omega)) ?_
      rw [v', z', hc]
      simp only [valL]
      rw [Nat.mod_eq_of_lt (by omega), pow_split, Nat.mul_add, Nat.mul_assoc]
      congr 1; rw [show (10 : Nat) ^ 9 = 1000000000 from rfl]; omega
theorem Text_ev {l : List Int} (hg : goodL l = true) (hl : l.length ≤ 1000000000000) : Ev (fun k => figureheadref01_Text.f k l) (digB (valL l)) := by
  have := Text_loop l hg hl l.length 0 (⟨#[]⟩ : ByteArray) (by omega) (by omega) rfl rfl
  refine evIs this ?_
  congr 1
  show rv [] + 10 ^ 0 * valL l = valL l
  simp [rv]
theorem Text_any_loop (l : List Int) (h0 : ∀ x ∈ l, 0 ≤ x ∧ x < 4294967296) (hl : l.length ≤ 100000000000000000) : ∀ (d n : Nat) (s : ByteArray), l.length - n = d → n ≤ l.length → dB s = true → s.size = 9 * n → ∃ r, Ev (fun k => figureheadref01_Text.l0 k l s (n : Int)) r
  | 0, n, s, hd, hn, hs, hz => by
    refine ⟨_, Ev.step (f := fun k => (figureheadref01_Strip.f k s).bind fun t => some t) (fun k => ?_) (Ev.bind (StripD_ev (by omega) hs) (Ev.now _))⟩
    simp only [figureheadref01_Text.l0]; rw [if_neg (by omega)]
  | d + 1, n, s, hd, hn, hs, hz => by
    have hlt : n < l.length := by omega
    have hb := rd_get hlt
    have hp := h0 _ (List.getElem_mem hlt)
    have key : ∃ r, ∀ s', dB s' = true → vB s' = vB s + 10 ^ s.size * (l[n].toNat % 10 ^ 9) → s'.size = s.size + 9 → Ev (fun k => figureheadref01_Text.l0 k l s' ((n + 1 : Nat) : Int)) r := by
      rcases Classical.em (∃ s', dB s' = true ∧ vB s' = vB s + 10 ^ s.size * (l[n].toNat % 10 ^ 9) ∧ s'.size = s.size + 9) with ⟨s0, a1, a2, a3⟩ | hno
      · obtain ⟨r, hr⟩ := Text_any_loop l h0 hl d (n + 1) s0 (by omega) (by omega) a1 (by omega)
        refine ⟨r, fun s' b1 b2 b3 => ?_⟩
        have : s' = s0 := by
          apply B_ext
          have e := rv_inj (a := s'.data.toList.reverse) (b := s0.data.toList.reverse) (by rw [digL_reverse]; exact b1) (by rw [digL_reverse]; exact a1) (by rw [List.length_reverse, List.length_reverse, ← size_eq, ← size_eq, b3, a3]) (b2.trans a2.symm)
          have e2 := congrArg List.reverse e
          rwa [List.reverse_reverse, List.reverse_reverse] at e2
        rw [this]; exact hr
      · exact ⟨⟨#[]⟩, fun s' b1 b2 b3 => absurd ⟨s', b1, b2, b3⟩ hno⟩
    obtain ⟨r, hr⟩ := key
    refine ⟨r, Ev.step (f := fun k => figureheadref01_Text.l1 k l s (n : Int) ((l[n].toNat : Nat) : Int) ((9 - 9 : Nat) : Int)) (fun k => ?_) (Text_in l n (by omega) _ 9 s l[n].toNat (by omega) (by omega) hs (by omega) hr)⟩
    simp only [figureheadref01_Text.l0]; rw [if_pos (by omega), if_pos (by omega), hb, Int.toNat_of_nonneg hp.1]; rfl
theorem Text_any {l : List Int} (h0 : ∀ x ∈ l, 0 ≤ x ∧ x < 4294967296) (hl : l.length ≤ 100000000000000000) : ∃ r, Ev (fun k => figureheadref01_Text.f k l) r :=
  Text_any_loop l h0 hl l.length 0 (⟨#[]⟩ : ByteArray) (by omega) (by omega) rfl rfl

end Go.Proofs.Ytnpibnjncjieaaa.Px

namespace Go.Proofs.Ytnpibnjncjieaaa.Px
open Fig Go.RowKit Go.Proofs.YtnpibnjncjieaaaW.PrintWords Go.Proofs.YtnpibnjncjieaaaW.PrintLast Go.Proofs.YtnpibnjncjieaaaW.PrintMore
attribute [local go_sem] max2_int min2_int max_two min_two max_three min_three max_four min_four   -- for this text's walks alone

/-! plain facts: figureheadref01_Less -/
theorem Less_eq (m n : Nat) : figureheadref01_Less.f (digB m) (digB n) = some (decide (m < n)) := by
  unfold figureheadref01_Less.f
  rw [digB_size, digB_size]
  by_cases h : (digs m).length = (digs n).length
  · rw [if_pos (by omega)]
    rw [ByteArray.toList_eq, ByteArray.toList_eq, digB_list, digB_list, less_same (digs_dig m) (digs_dig n) h, digs_val, digs_val]
  · rw [if_neg (by omega)]
    congr 1
    rw [decide_eq_decide]
    constructor
    · intro h1; exact digs_len_lt (by omega)
    · intro h1
      rcases Nat.lt_or_ge (digs m).length (digs n).length with h2 | h2
      · omega
      · have := digs_len_lt (m := n) (n := m) (by omega); omega

end Go.Proofs.Ytnpibnjncjieaaa.Px

namespace Go.Proofs.Ytnpibnjncjieaaa.Px
open Fig Go.RowKit Go.Proofs.YtnpibnjncjieaaaW.PrintWords Go.Proofs.YtnpibnjncjieaaaW.PrintLast Go.Proofs.YtnpibnjncjieaaaW.PrintMore
attribute [local go_sem] max2_int min2_int max_two min_two max_three min_three max_four min_four   -- for this text's walks alone

/-! plain facts: figureheadref01_digit -/
def rs (s : ByteArray) : List UInt8 := s.data.toList.reverse
theorem rs_len (s : ByteArray) : (rs s).length = s.size := by rw [rs, List.length_reverse, ← size_eq]
def dg (s : ByteArray) (k : Nat) : Nat := match (rs s)[k]? with | some c => c.toNat - 48 | none => 0
theorem dg_le {s : ByteArray} (h : dB s = true) (k : Nat) : dg s k ≤ 9 := by
  unfold dg
  split
  · rename_i c hc
    have : isD c = true := digL_iff.1 (show digL (rs s) = true by rw [rs, digL_reverse]; exact h) c (List.mem_of_getElem? hc)
    have := isD_iff.1 this; omega
  · omega
theorem rv_rest (s : ByteArray) (k : Nat) : rv ((rs s).drop k) = dg s k + 10 * rv ((rs s).drop (k + 1)) := by
  unfold dg
  by_cases h : k < (rs s).length
  · rw [List.drop_eq_getElem_cons h, List.getElem?_eq_getElem h]; rfl
  · rw [List.drop_of_length_le (by omega), List.drop_of_length_le (by omega), List.getElem?_eq_none (by omega)]; rfl
theorem rv_rest_end {s : ByteArray} {k : Nat} (h : s.size ≤ k) : rv ((rs s).drop k) = 0 := by
  rw [List.drop_of_length_le (by rw [rs_len]; omega)]; rfl
theorem digit_eq {s : ByteArray} (h : dB s = true) (hs : s.size ≤ 4611686018427387904) {k : Nat} (hk : k ≤ 4611686018427387904) : figureheadref01_digit.f s (k : Int) = some ((dg s k : Nat) : Int) := by
  unfold figureheadref01_digit.f
  by_cases hlt : k < s.size
  · rw [if_neg (by omega), w64 (x := (s.size : Int) - 1) (by omega) (by omega), w64 (by omega) (by omega), if_pos (by omega), if_pos (by omega)]
    have e : (s.size : Int) - 1 - (k : Int) = ((s.size - 1 - k : Nat) : Int) := by omega
    rw [e, bt_get (by omega)]
    have e2 : (rs s)[k]? = some (s.data.toList[s.size - 1 - k]'(by rw [← size_eq]; omega)) := by
      unfold rs
      rw [List.getElem?_reverse (by rw [← size_eq]; exact hlt)]
      rw [List.getElem?_eq_getElem (by rw [← size_eq]; omega)]
      congr 1
    have hd : isD (s.data.toList[s.size - 1 - k]'(by rw [← size_eq]; omega)) = true := digL_iff.1 h _ (List.getElem_mem _)
    have := isD_iff.1 hd
    unfold dg
    rw [e2]
    congr 1
    show _ = ((_ - 48 : Nat) : Int)
    omega
  · rw [if_pos (by omega)]
    unfold dg
    rw [List.getElem?_eq_none (by rw [rs_len]; omega)]; rfl

end Go.Proofs.Ytnpibnjncjieaaa.Px

namespace Go.Proofs.Ytnpibnjncjieaaa.Px
open Fig Go.RowKit Go.Proofs.YtnpibnjncjieaaaW.PrintWords Go.Proofs.YtnpibnjncjieaaaW.PrintLast Go.Proofs.YtnpibnjncjieaaaW.PrintMore
attribute [local go_sem] max2_int min2_int max_two min_two max_three min_three max_four min_four   -- for this text's walks alone

/-! plain facts: figureheadref01_turned -/
theorem turned_loop (l : List Int) (hl : l.length ≤ 1000000000000) : ∀ (n : Nat) (x : List Int), n ≤ l.length → x.length + n = l.length → Ev (fun k => figureheadref01_turned.l0 k l x ((n : Int) - 1)) (strOfNums (x ++ (l.take n).reverse))
  | 0, x, hn, hx => by
    refine evDone (r' := strOfNums x) (fun k => ?_) (by simp)
    simp only [figureheadref01_turned.l0]; rw [if_neg (by omega)]
  | n + 1, x, hn, hx => by
    refine Ev.step (f := fun k => figureheadref01_turned.l0 k l (x ++ [rd l (n : Int)]) ((n : Int) - 1)) (fun k => ?_) ?_
    · have e : (((n + 1 : Nat) : Int) - 1) = (n : Int) := by omega
      simp only [e, figureheadref01_turned.l0]; rw [if_pos (by omega), if_pos (by omega), if_pos (by omega), if_pos (by omega), w64 (by omega) (by omega)]
    · refine evIs (turned_loop l hl n _ (by omega) (by simp; omega)) ?_
      rw [rd_get (by omega), List.append_assoc, List.take_succ_eq_append_getElem (by omega), List.reverse_append]; rfl
theorem turned_ev {l : List Int} (hl : l.length ≤ 1000000000000) : Ev (fun k => figureheadref01_turned.f k l) (strOfNums l.reverse) := by
  have := turned_loop l hl l.length [] (by omega) (by simp)
  unfold figureheadref01_turned.f
  rw [w64 (by omega) (by omega)]
  simpa using this
/-- codes of digits, the last one first -/
def ob (l : List Int) : List UInt8 := l.map fun n => UInt8.ofNat n.toNat
theorem ob_len (l : List Int) : (ob l).length = l.length := by simp [ob]
theorem ob_snoc (l : List Int) {c : Nat} (h : c ≤ 9) : digL (ob l) = true → digL (ob (l ++ [((48 + c : Nat) : Int)])) = true ∧ rv (ob (l ++ [((48 + c : Nat) : Int)])) = rv (ob l) + 10 ^ l.length * c := by
  intro hd
  have e2 : (UInt8.ofNat (48 + c)).toNat = 48 + c := by rw [UInt8.toNat_ofNat']; omega
  unfold ob
  rw [List.map_append, digL_append, rv_append]
  simp only [List.map_cons, List.map_nil, Int.toNat_natCast, List.length_map, rv, e2]
  refine ⟨⟨hd, ?_⟩, ?_⟩
  · rw [digL_cons, isD_iff, e2]; exact ⟨by omega, rfl⟩
  · rw [show 48 + c - 48 + 10 * 0 = c by omega]
theorem turnedStrip_ev {l : List Int} (hl : l.length ≤ 1000000000000) (hd : digL (ob l) = true) : Ev (fun k => (figureheadref01_turned.f k l).bind fun t => (figureheadref01_Strip.f k t).bind fun t2 => some t2) (digB (rv (ob l))) := by
  have e1 : (strOfNums l.reverse).data.toList = (ob l).reverse := by rw [B_nums, ob, List.map_reverse]
  refine Ev.bind (turned_ev hl) (Ev.bind (StripD_ev (by rw [strOfNums_size, List.length_reverse]; omega) (by unfold dB; rw [e1, digL_reverse]; exact hd)) ?_)
  have : vB (strOfNums l.reverse) = rv (ob l) := by unfold vB; rw [e1, List.reverse_reverse]
  rw [this]; exact Ev.now _

end Go.Proofs.Ytnpibnjncjieaaa.Px

namespace Go.Proofs.Ytnpibnjncjieaaa.Px
open Fig Go.RowKit Go.Proofs.YtnpibnjncjieaaaW.PrintWords Go.Proofs.YtnpibnjncjieaaaW.PrintLast Go.Proofs.YtnpibnjncjieaaaW.PrintMore
attribute [local go_sem] max2_int min2_int max_two min_two max_three min_three max_four min_four   -- for this text's walks alone

/-! plain facts: figureheadref01_Minus -/
theorem sub_step (p q c : Nat) (hp : p ≤ 9) (hq : q ≤ 9) (hc : c ≤ 1) : wrap64 (wrap64 ((p : Int) - (q : Int)) - (c : Int)) = (p : Int) - (q : Int) - (c : Int) := by
  rw [w64 (x := (p : Int) - (q : Int)) (by omega) (by omega), w64 (by omega) (by omega)]
theorem sub_neg (p q c : Nat) (hp : p ≤ 9) (hq : q ≤ 9) (hc : c ≤ 1) (h : p < q + c) : (wrap64 (48 + wrap64 ((p : Int) - (q : Int) - (c : Int) + 10))) % 256 = ((48 + (p + 10 - q - c) : Nat) : Int) := by
  rw [w64 (x := (p : Int) - (q : Int) - (c : Int) + 10) (by omega) (by omega), w64 (by omega) (by omega)]; omega
theorem sub_pos (p q c : Nat) (hp : p ≤ 9) (hq : q ≤ 9) (hc : c ≤ 1) (h : q + c ≤ p) : (wrap64 (48 + ((p : Int) - (q : Int) - (c : Int)))) % 256 = ((48 + (p - q - c) : Nat) : Int) := by
  rw [w64 (by omega) (by omega)]; omega
theorem Minus_loop (a b : ByteArray) (ha : dB a = true) (hb : dB b = true) (la : a.size ≤ 100000000000) (lb : b.size ≤ 100000000000) : ∀ (d k : Nat) (x : List Int) (c : Nat), a.size - k = d → k ≤ a.size → c ≤ 1 → x.length = k → digL (ob x) = true → c + rv ((rs b).drop k) ≤ rv ((rs a).drop k) →
    Ev (fun j => figureheadref01_Minus.l0 j a b x (c : Int) (k : Int)) (digB (rv (ob x) + 10 ^ k * (rv ((rs a).drop k) - rv ((rs b).drop k) - c)))
  | 0, k, x, c, h1, h2, hc, hx, hd, hle => by
    refine evIs (Ev.step (fun j => ?_) (turnedStrip_ev (l := x) (by omega) hd)) ?_
    · simp only [figureheadref01_Minus.l0]; rw [if_neg (by omega)]
    · rw [rv_rest_end (s := a) (by omega)]; simp
  | d + 1, k, x, c, h1, h2, hc, hx, hd, hle => by
    have da := dg_le ha k
    have db := dg_le hb k
    rw [rv_rest a k, rv_rest b k] at hle ⊢
    by_cases hneg : dg a k < dg b k + c
    · obtain ⟨o1, o2⟩ := ob_snoc x (c := dg a k + 10 - dg b k - c) (by omega) hd
      refine Ev.step (f := fun j => figureheadref01_Minus.l0 j a b (x ++ [((48 + (dg a k + 10 - dg b k - c) : Nat) : Int)]) ((1 : Nat) : Int) ((k + 1 : Nat) : Int)) (fun j => ?_) ?_
      · simp only [figureheadref01_Minus.l0]
        rw [if_pos (by omega), digit_eq ha (by omega) (by omega), digit_eq hb (by omega) (by omega)]
        simp only [Option.bind_some]
        rw [sub_step _ _ _ da db hc, if_pos (by omega), if_pos (by omega), sub_neg _ _ _ da db hc hneg, w64 (by omega) (by omega)]; rfl
      · refine evIs (Minus_loop a b ha hb la lb d (k + 1) _ 1 (by omega) (by omega) (by omega) (by simp [hx]) o1 (by omega)) ?_
        rw [o2, hx, Nat.pow_succ, Nat.mul_assoc, Nat.add_assoc, ← Nat.mul_add]
        congr 2; congr 1; omega
    · obtain ⟨o1, o2⟩ := ob_snoc x (c := dg a k - dg b k - c) (by omega) hd
      refine Ev.step (f := fun j => figureheadref01_Minus.l0 j a b (x ++ [((48 + (dg a k - dg b k - c) : Nat) : Int)]) ((0 : Nat) : Int) ((k + 1 : Nat) : Int)) (fun j => ?_) ?_
      · simp only [figureheadref01_Minus.l0]
        rw [if_pos (by omega), digit_eq ha (by omega) (by omega), digit_eq hb (by omega) (by omega)]
        simp only [Option.bind_some]
        rw [sub_step _ _ _ da db hc, if_neg (by omega), if_pos (by omega), sub_pos _ _ _ da db hc (by omega), w64 (by omega) (by omega)]; rfl
      · refine evIs (Minus_loop a b ha hb la lb d (k + 1) _ 0 (by omega) (by omega) (by omega) (by simp [hx]) o1 (by omega)) ?_
        rw [o2, hx, Nat.pow_succ, Nat.mul_assoc, Nat.add_assoc, ← Nat.mul_add]
        congr 2; congr 1; omega
theorem Minus_ev {a b : ByteArray} (ha : dB a = true) (hb : dB b = true) (la : a.size ≤ 100000000000) (lb : b.size ≤ 100000000000) (hle : vB b ≤ vB a) : Ev (fun k => figureheadref01_Minus.f k a b) (digB (vB a - vB b)) := by
  refine evIs (Minus_loop a b ha hb la lb a.size 0 [] 0 (by omega) (by omega) (by omega) rfl rfl (by simpa [rs, vB] using hle)) ?_
  simp [ob, rv, vB, rs]

end Go.Proofs.Ytnpibnjncjieaaa.Px

namespace Go.Proofs.Ytnpibnjncjieaaa.Px
open Fig Go.RowKit Go.Proofs.YtnpibnjncjieaaaW.PrintWords Go.Proofs.YtnpibnjncjieaaaW.PrintLast Go.Proofs.YtnpibnjncjieaaaW.PrintMore
attribute [local go_sem] max2_int min2_int max_two min_two max_three min_three max_four min_four   -- for this text's walks alone

/-! plain facts: figureheadref01_Over -/
theorem code_one (j : Nat) (h : j ≤ 9) : (wrap64 (48 + (j : Int))) % 256 = ((48 + j : Nat) : Int) := by rw [w64 (by omega) (by omega)]; omega
theorem one_code {c : Nat} (h : c ≤ 9) : dB (strOfNums [((48 + c : Nat) : Int)]) = true ∧ vB (strOfNums [((48 + c : Nat) : Int)]) = c ∧ (strOfNums [((48 + c : Nat) : Int)]).size = 1 := by
  have := one_char h
  rwa [show ((48 : Int) + (c : Int)) % 4294967296 % 256 = ((48 + c : Nat) : Int) by omega] at this
theorem Over_in (a : ByteArray) (n : Nat) (hn : 0 < n) (ln : (digB n).size ≤ 1000000) (q : ByteArray) (hq : q.size ≤ 1000000000000) (i : Nat) (hi : i < 1000000000000) (t : Nat) (ht : t < 10 * n) (r : ByteArray × ByteArray) : ∀ (d j : Nat), t / n - j = d → j ≤ t / n →
    Ev (fun k => figureheadref01_Over.l0 k a (digB n) (q ++ strOfNums [((48 + t / n : Nat) : Int)]) (digB (t % n)) ((i + 1 : Nat) : Int)) r → Ev (fun k => figureheadref01_Over.l1 k a (digB n) q (digB (t - j * n)) (i : Int) (j : Int)) r
  | 0, j, h1, h2, h => by
    have hj : j = t / n := by omega
    have hq9 : t / n ≤ 9 := by have : t / n < 10 := by rw [Nat.div_lt_iff_lt_mul hn]; exact ht
                               omega
    have e : t - j * n = t % n := by
      have := Nat.div_add_mod t n
      rw [← hj, Nat.mul_comm] at this; omega
    rw [e]
    refine Ev.step (fun k => ?_) h
    have hm := Nat.mod_lt t hn
    obtain ⟨c1, c2, c3⟩ := one_code hq9
    simp only [figureheadref01_Over.l1, Less_eq, hm, decide_true, Option.bind_some, if_true]
    rw [hj, code_one _ hq9, if_pos (by omega), succ64 _ (by omega)]
  | d + 1, j, h1, h2, h => by
    have hjn : j * n + n ≤ t := by
      have h3 : (j + 1) * n ≤ t / n * n := Nat.mul_le_mul_right _ (by omega)
      have := Nat.div_mul_le_self t n
      rw [Nat.add_mul] at h3; omega
    have hnl : ¬ t - j * n < n := by omega
    have lz : (digB (t - j * n)).size ≤ 1000001 := digB_ten ln (by omega)
    have hj9 : j ≤ 9 := by have : t / n < 10 := by rw [Nat.div_lt_iff_lt_mul hn]; exact ht
                           omega
    refine Ev.step (f := fun k => (figureheadref01_Minus.f k (digB (t - j * n)) (digB n)).bind fun t2 => figureheadref01_Over.l1 k a (digB n) q t2 (i : Int) ((j + 1 : Nat) : Int)) (fun k => ?_) (Ev.bind (Minus_ev (dB_digB _) (dB_digB _) (by omega) (by omega) (by rw [vB_digB, vB_digB]; omega)) ?_)
    · simp only [figureheadref01_Over.l1, Less_eq, hnl, decide_false, Option.bind_some, Bool.false_eq_true, if_false]
      rw [succ64 _ (by omega)]
    · rw [vB_digB, vB_digB, Nat.sub_sub, show j * n + n = (j + 1) * n by rw [Nat.add_mul]; omega]
      exact Over_in a n hn ln q hq i hi t ht r d (j + 1) (by omega) (by omega) h
theorem Over_loop (a : ByteArray) (ha : dB a = true) (la : a.size ≤ 1000000) (n : Nat) (hn : 0 < n) (ln : (digB n).size ≤ 1000000) : ∀ (d i : Nat) (q : ByteArray) (m : Nat), a.size - i = d → i ≤ a.size → dB q = true → q.size = i → m < n → vB q * n + m = vB (a.extract 0 i) →
    Ev (fun k => figureheadref01_Over.l0 k a (digB n) q (digB m) (i : Int)) (digB (vB a / n), digB (vB a % n))
  | 0, i, q, m, h1, h2, hq, zq, hm, hv => by
    have e0 : a.extract 0 i = a := by apply B_ext; rw [B_to, List.take_of_length_le (by rw [← size_eq]; omega)]
    rw [e0] at hv
    have e1 : vB q = vB a / n := by rw [← hv, Nat.mul_comm, Nat.mul_add_div hn, Nat.div_eq_of_lt hm]; rfl
    have e2 : m = vB a % n := by rw [← hv, Nat.mul_comm, Nat.mul_add_mod, Nat.mod_eq_of_lt hm]
    rw [← e1, ← e2]
    refine Ev.step (f := fun k => (figureheadref01_Strip.f k q).bind fun t => some (t, digB m)) (fun k => ?_) (Ev.bind (StripD_ev (by omega) hq) (Ev.now _))
    simp only [figureheadref01_Over.l0]; rw [if_neg (by omega)]
  | d + 1, i, q, m, h1, h2, hq, zq, hm, hv => by
    have hlt : i < a.size := by omega
    have hl : i < a.data.toList.length := by rw [← size_eq]; exact hlt
    have hdig := isD_iff.1 (digL_iff.1 ha _ (List.getElem_mem hl))
    have ec : (a.extract i (i + 1)).data.toList = [a.data.toList[i]] := by
      rw [B_extract, show i + 1 - i = 1 by omega, List.drop_eq_getElem_cons hl]; rfl
    have zc : (a.extract i (i + 1)).size = 1 := by rw [size_eq, ec]; rfl
    have dc : dB (a.extract i (i + 1)) = true := by unfold dB; rw [ec, digL_cons]; exact ⟨isD_iff.2 hdig, rfl⟩
    obtain ⟨c, hc⟩ : ∃ c, c = vB (a.extract i (i + 1)) := ⟨_, rfl⟩
    have hc9 : c ≤ 9 := by have := vB_lt dc; rw [zc, ← hc] at this; omega
    have hv2 : vB (a.extract 0 (i + 1)) = vB (a.extract 0 i) * 10 + c := by
      have : a.extract 0 (i + 1) = a.extract 0 i ++ a.extract i (i + 1) := by
        apply B_ext
        rw [B_append, B_to, B_to, ec, List.take_succ_eq_append_getElem hl]
      rw [this, vB_append, zc, ← hc, Nat.pow_one]
    have lm : (digB m).size ≤ 1000000 := digB_mono (by omega) ln
    have ht : m * 10 + c < 10 * n := by omega
    refine Ev.step (f := fun k => (figureheadref01_Strip.f k (digB m ++ a.extract i (i + 1))).bind fun t => figureheadref01_Over.l1 k a (digB n) q t (i : Int) ((0 : Nat) : Int)) (fun k => ?_) (Ev.bind (StripD_ev (by rw [ByteArray.size_append]; omega) (dB_append.2 ⟨dB_digB _, dc⟩)) ?_)
    · simp only [figureheadref01_Over.l0]
      rw [if_pos (by omega), if_pos (by omega), succ64 _ (by omega), if_pos (by omega), if_pos (by omega), Int.toNat_natCast, Int.toNat_natCast, if_pos (by omega)]; rfl
    · rw [vB_append, zc, vB_digB, Nat.pow_one, ← hc]
      have hq9 : (m * 10 + c) / n ≤ 9 := by have : (m * 10 + c) / n < 10 := by rw [Nat.div_lt_iff_lt_mul hn]; exact ht
                                            omega
      obtain ⟨c1, c2, c3⟩ := one_code hq9
      have := Over_in a n hn ln q (by omega) i (by omega) (m * 10 + c) ht _ _ 0 rfl (by omega) (Over_loop a ha la n hn ln d (i + 1) (q ++ strOfNums [((48 + (m * 10 + c) / n : Nat) : Int)]) ((m * 10 + c) % n) (by omega) (by omega) (dB_append.2 ⟨hq, c1⟩) (by rw [ByteArray.size_append]; omega) (Nat.mod_lt _ hn) ?_)
      · rwa [Nat.zero_mul, Nat.sub_zero] at this
      · rw [vB_append, c2, c3, hv2, ← hv, Nat.pow_one]
        have := Nat.div_add_mod (m * 10 + c) n
        rw [Nat.add_mul, Nat.mul_comm ((m * 10 + c) / n) n, Nat.add_mul, Nat.mul_right_comm (vB q) 10 n]; omega
theorem Over_ev {a : ByteArray} {n : Nat} (ha : dB a = true) (la : a.size ≤ 1000000) (hn : 0 < n) (ln : (digB n).size ≤ 1000000) : Ev (fun k => figureheadref01_Over.f k a (digB n)) (digB (vB a / n), digB (vB a % n)) := by
  have e0 : (⟨#[]⟩ : ByteArray) = digB 0 := digB_zero.symm
  have := Over_loop a ha la n hn ln a.size 0 (digB 0) 0 (by omega) (by omega) (dB_digB _) (by rw [digB_zero]; rfl) hn (by
    rw [vB_digB]
    have : (a.extract 0 0).data.toList = [] := by rw [B_to]; rfl
    unfold vB; rw [this]; simp [rv])
  unfold figureheadref01_Over.f
  rw [e0]; exact this

end Go.Proofs.Ytnpibnjncjieaaa.Px

namespace Go.Proofs.Ytnpibnjncjieaaa.Px
open Fig Go.RowKit Go.Proofs.YtnpibnjncjieaaaW.PrintWords Go.Proofs.YtnpibnjncjieaaaW.PrintLast Go.Proofs.YtnpibnjncjieaaaW.PrintMore
attribute [local go_sem] max2_int min2_int max_two min_two max_three min_three max_four min_four   -- for this text's walks alone

/-! plain facts: figureheadref01_Same -/
theorem Same_loop (a b : List Int) (hl : a.length ≤ 4611686018427387904) (he : a.length = b.length) : ∀ (d n : Nat), a.length - n = d → n ≤ a.length → Ev (fun k => figureheadref01_Same.l0 k a b (n : Int)) (decide (a.drop n = b.drop n))
  | 0, n, hd, hn => by
    refine evDone (r' := true) (fun k => ?_) ?_
    · simp only [figureheadref01_Same.l0]; rw [if_neg (by omega)]
    · rw [List.drop_of_length_le (by omega), List.drop_of_length_le (by omega)]; simp
  | d + 1, n, hd, hn => by
    have ha := rd_get (l := a) (n := n) (by omega)
    have hb := rd_get (l := b) (n := n) (by omega)
    have ca := List.drop_eq_getElem_cons (l := a) (i := n) (by omega)
    have cb := List.drop_eq_getElem_cons (l := b) (i := n) (by omega)
    by_cases h9 : rd a (n : Int) = rd b (n : Int)
    · refine Ev.step (f := fun k => figureheadref01_Same.l0 k a b ((n + 1 : Nat) : Int)) (fun k => ?_) ?_
      · simp only [figureheadref01_Same.l0]; rw [if_pos (by omega), if_pos (by omega), if_pos (by omega), if_pos h9, w64 (by omega) (by omega)]; rfl
      · have := Same_loop a b hl he d (n + 1) (by omega) (by omega)
        refine evIs this ?_
        rw [ca, cb, show a[n] = b[n] by rw [← ha, ← hb, h9]]
        simp only [List.cons.injEq, true_and]
    · refine evDone (r' := false) (fun k => ?_) ?_
      · simp only [figureheadref01_Same.l0]; rw [if_pos (by omega), if_pos (by omega), if_pos (by omega), if_neg h9]
      · rw [ca, cb]; symm; rw [decide_eq_false_iff_not]; intro e; injection e with e _
        rw [ha, hb] at h9; exact h9 e
theorem Same_ev {a b : List Int} (hl : a.length ≤ 4611686018427387904) : Ev (fun k => figureheadref01_Same.f k a b) (decide (a = b)) := by
  by_cases he : a.length = b.length
  · have := Same_loop a b hl he a.length 0 (by omega) (by omega)
    simp only [figureheadref01_Same.f, he, if_true]
    simpa using this
  · refine ⟨0, fun k _ => ?_⟩
    simp only [figureheadref01_Same.f]
    rw [if_neg (by omega)]; congr 1; symm; rw [decide_eq_false_iff_not]; rintro rfl; exact he rfl
theorem Same_self {a : List Int} (hl : a.length ≤ 4611686018427387904) : Ev (fun k => figureheadref01_Same.f k a a) true := by
  simpa using Same_ev (a := a) (b := a) hl
theorem Same_true {a b : List Int} (h : a = b) (hl : a.length ≤ 4611686018427387904) : Ev (fun k => figureheadref01_Same.f k a b) true := by subst h; exact Same_self hl

end Go.Proofs.Ytnpibnjncjieaaa.Px

namespace Go.Proofs.Ytnpibnjncjieaaa.Px
open Fig Go.RowKit Go.Proofs.YtnpibnjncjieaaaW.PrintWords Go.Proofs.YtnpibnjncjieaaaW.PrintLast Go.Proofs.YtnpibnjncjieaaaW.PrintMore
attribute [local go_sem] max2_int min2_int max_two min_two max_three min_three max_four min_four   -- for this text's walks alone

/-! plain facts: figureheadref01_Number -/
theorem Number_in (s : ByteArray) (hd : dB s = true) (hs : s.size ≤ 1000000000000) (out : List Int) (ho : out.length ≤ 1000000000000) (fr : Nat) (hf : fr ≤ s.size) (r : List Int) : ∀ (d i x : Nat), s.size - i = d → fr ≤ i → i ≤ s.size → s.size - fr ≤ 9 → x < 10 ^ (i - fr) →
    Ev (fun k => figureheadref01_Number.l0 k (s.extract 0 fr) (out ++ [((x * 10 ^ d + rv (s.data.toList.drop i).reverse : Nat) : Int)])) r → Ev (fun k => figureheadref01_Number.l1 k s out (fr : Int) (x : Int) (i : Int)) r
  | 0, i, x, h1, h2, h3, h4, h5, h => by
    refine Ev.step (fun k => ?_) h
    have e : s.data.toList.drop i = [] := List.drop_of_length_le (by rw [← size_eq]; omega)
    simp only [figureheadref01_Number.l1]; rw [if_neg (by omega), if_pos (by omega), if_pos (by omega), if_pos (by omega), e]; simp [rv]
  | d + 1, i, x, h1, h2, h3, h4, h5, h => by
    have hlt : i < s.size := by omega
    have hb := bt_get hlt
    have hc := List.drop_eq_getElem_cons (l := s.data.toList) (i := i) (by rw [← size_eq]; exact hlt)
    have hdig := isD_iff.1 (digL_iff.1 hd _ (List.getElem_mem (l := s.data.toList) (n := i) (by rw [← size_eq]; exact hlt)))
    generalize hcc : s.data.toList[i]'(by rw [← size_eq]; exact hlt) = c at *
    have p1 : 10 ^ (i - fr) ≤ 10 ^ 8 := Nat.pow_le_pow_right (by omega) (by omega)
    have p8 : (10 : Nat) ^ 8 = 100000000 := rfl
    have p2 : 10 ^ (i + 1 - fr) = 10 ^ (i - fr) * 10 := by rw [show i + 1 - fr = (i - fr) + 1 by omega, Nat.pow_succ]
    refine Ev.step (f := fun k => figureheadref01_Number.l1 k s out (fr : Int) ((x * 10 + (c.toNat - 48) : Nat) : Int) ((i + 1 : Nat) : Int)) (fun k => ?_) (Number_in s hd hs out ho fr hf r d (i + 1) (x * 10 + (c.toNat - 48)) (by omega) (by omega) (by omega) h4 (by omega) ?_)
    · simp only [figureheadref01_Number.l1]; rw [if_pos (by omega), if_pos (by omega), hb, w64 (by omega) (by omega)]
      congr 1; omega
    · refine evIs h rfl |> fun h => ?_
      have e : x * 10 ^ (d + 1) + rv (s.data.toList.drop i).reverse = (x * 10 + (c.toNat - 48)) * 10 ^ d + rv (s.data.toList.drop (i + 1)).reverse := by
        have hl : (s.data.toList.drop (i + 1)).length = d := by rw [List.length_drop, ← size_eq]; omega
        rw [hc, List.reverse_cons, rv_append, List.length_reverse, hl]
        simp only [rv, Nat.mul_zero, Nat.add_zero]
        rw [Nat.pow_succ, Nat.add_mul, Nat.mul_comm (c.toNat - 48), Nat.mul_comm (10 ^ d) 10, ← Nat.mul_assoc]; omega
      rw [← e]; exact h
theorem vB_nonzero {s : ByteArray} (hd : dB s = true) (hh : s.data.toList.head? ≠ some 48) (hs : 0 < s.size) : vB s ≠ 0 := by
  intro h
  have := rv_zero (l := s.data.toList.reverse) (by rw [digL_reverse]; exact hd) (canonR_of_head hh) h
  rw [List.reverse_eq_nil_iff] at this
  rw [size_eq, this] at hs; simp at hs
theorem Number_loop : ∀ (z : Nat) (s : ByteArray) (out : List Int), s.size = z → dB s = true → s.data.toList.head? ≠ some 48 → s.size ≤ 1000000000000 → out.length + s.size ≤ 1000000000000 → Ev (fun k => figureheadref01_Number.l0 k s out) (out ++ limbs (vB s)) := by
  intro z
  induction z using Nat.strongRecOn with
  | _ z ih =>
  intro s out hz hd hh hs ho
  by_cases h0 : s.size = 0
  · refine evDone (r' := out) (fun k => ?_) ?_
    · simp only [figureheadref01_Number.l0]; rw [if_neg (by omega)]
    · have : s.data.toList = [] := List.eq_nil_of_length_eq_zero (by rw [← size_eq]; exact h0)
      unfold vB; rw [this]; simp [rv, limbs_zero]
  · obtain ⟨fr, hfr⟩ : ∃ fr : Nat, fr = s.size - 9 := ⟨_, rfl⟩
    have em : mx 0 (wrap64 ((s.size : Int) - 9)) = (fr : Int) := by rw [w64 (by omega) (by omega)]; unfold mx; split <;> omega
    refine Ev.step (f := fun k => figureheadref01_Number.l1 k s out (fr : Int) ((0 : Nat) : Int) (fr : Int)) (fun k => ?_) (Number_in s hd hs out (by omega) fr (by omega) _ (s.size - fr) fr 0 rfl (by omega) (by omega) (by omega) (by simp) ?_)
    · simp only [figureheadref01_Number.l0]; rw [if_pos (by omega), em]; rfl
    · have e1 : (s.extract 0 fr).data.toList = s.data.toList.take fr := B_to s fr
      have e2 : (s.extract 0 fr).size = fr := by rw [size_eq, e1, List.length_take, ← size_eq]; omega
      have hd2 : dB (s.extract 0 fr) = true := by unfold dB; rw [e1]; exact digL_take hd _
      have hv : vB s = rv (s.data.toList.drop fr).reverse + 10 ^ (s.size - fr) * vB (s.extract 0 fr) := by
        unfold vB; rw [e1]
        conv => lhs; rw [← List.take_append_drop fr s.data.toList, List.reverse_append, rv_append]
        rw [List.length_reverse, List.length_drop, ← size_eq]
      have hx : rv (s.data.toList.drop fr).reverse < 10 ^ (s.size - fr) := by
        have := rv_lt (l := (s.data.toList.drop fr).reverse) (by rw [digL_reverse]; exact digL_drop hd _)
        rwa [List.length_reverse, List.length_drop, ← size_eq] at this
      have hp : 10 ^ (s.size - fr) ≤ 10 ^ 9 := Nat.pow_le_pow_right (by omega) (by omega)
      have p9 : (10 : Nat) ^ 9 = 1000000000 := rfl
      generalize hxx : rv (s.data.toList.drop fr).reverse = x at *
      rw [Nat.zero_mul, Nat.zero_add]
      have hne : vB s ≠ 0 := vB_nonzero hd hh (by omega)
      have hh2 : (s.extract 0 fr).data.toList.head? ≠ some 48 := by
        rw [e1]
        rcases hfz : fr with _ | f
        · simp
        · rcases hll : s.data.toList with _ | ⟨c, l⟩
          · simp
          · rw [hll] at hh; simpa using hh
      refine evIs (ih fr (by omega) (s.extract 0 fr) (out ++ [(x : Int)]) e2 hd2 hh2 (by omega) (by rw [List.length_append, e2]; simp; omega)) ?_
      rw [List.append_assoc, List.singleton_append]
      congr 1
      rw [hv]
      by_cases hf0 : fr = 0
      · have hz0 : vB (s.extract 0 fr) = 0 := by
          have : (s.extract 0 fr).data.toList = [] := List.eq_nil_of_length_eq_zero (by rw [← size_eq]; omega)
          unfold vB; rw [this]; rfl
        rw [hz0] at hv ⊢
        have := limbs_cons (x := (x : Int)) ⟨by omega, by omega⟩ 0 (.inr (by omega))
        rw [this]; congr 1
      · have := limbs_cons (x := (x : Int)) ⟨by omega, by omega⟩ (vB (s.extract 0 fr)) (.inl (vB_nonzero hd2 hh2 (by omega)))
        rw [this, show s.size - fr = 9 by omega, p9]; congr 1
theorem Number_ev {s : ByteArray} (hd : dB s = true) (hs : s.size ≤ 1000000000000) : Ev (fun k => figureheadref01_Number.f k s) (limbs (vB s)) := by
  refine Ev.bind (StripD_ev (by omega) hd) ?_
  have hz : (digB (vB s)).size ≤ s.size := by rw [← stripB_eq hd, size_eq, size_eq]; exact stripL_len _
  refine evIs (Number_loop _ (digB (vB s)) [] rfl (dB_digB _) (digs_head _) (by omega) (by simpa using (by omega))) ?_
  rw [vB_digB]; rfl

end Go.Proofs.Ytnpibnjncjieaaa.Px

namespace Go.Proofs.Ytnpibnjncjieaaa.Px
open Fig Go.RowKit Go.Proofs.YtnpibnjncjieaaaW.PrintWords Go.Proofs.YtnpibnjncjieaaaW.PrintLast Go.Proofs.YtnpibnjncjieaaaW.PrintMore
attribute [local go_sem] max2_int min2_int max_two min_two max_three min_three max_four min_four   -- for this text's walks alone

/-! plain facts: figureheadlaw03_DivSmalls -/
theorem DivSmalls_pure (l0 : List Int) (a1 : Int) (m0 : l0.length * 4 ≤ 140737488351232) (w0 : ∀ x ∈ l0, (Lit.int .u32 x).wf = true) (w1 : (Lit.int .u32 a1).wf = true) : ∃ k, figureheadlaw03_DivSmalls.f k l0 a1 = some true := by
  have n0 := fun x hx => wf_u32 (w0 x hx)
  have n1 := wf_u32 w1
  obtain ⟨y, rfl⟩ : ∃ y : Nat, a1 = (y : Int) := ⟨a1.toNat, by omega⟩
  refine Ev.rounds (g := fun k => figureheadlaw03_DivSmalls.f k l0 y) ?_
  unfold figureheadlaw03_DivSmalls.f
  refine Ev.bind (good03_ev (ls := [l0, [(y : Int)]]) (by simp) (by simp; omega) (by simp; exact fun x hx => (n0 x hx).1)) ?_
  cases hg : [l0, [(y : Int)]].all fun l => decide (l.length ≤ 20) && goodL l
  · simp only [Bool.false_eq_true, if_false]
    exact Ev.bind answers03_ev (Ev.now true)
  · obtain ⟨⟨h0, g0⟩, g1⟩ : (l0.length ≤ 20 ∧ goodL l0 = true) ∧ goodL [(y : Int)] = true := by simpa using hg
    have gy := (goodL_cons.1 g1).1
    have v1 : valL [(y : Int)] = y := by simp [valL]
    have z0 := digB_valL_size g0 h0
    have z1 := digB_valL_size (m := 1) g1 (by simp)
    rw [v1] at z1
    simp only [if_true]
    by_cases hz : y = 0
    · subst hz
      refine Ev.bind (a := ([], 0, false)) (evSome fun k => ?_) ?_
      · simp [div_Small.f]
      · simp only [Int.natCast_zero, if_true]
        refine Ev.bind answers03_ev ?_
        exact evSome fun _ => rfl
    · refine Ev.bind (DivSmall_ev g0 (by omega) (by omega) (by omega)) ?_
      have hz2 : ¬ (y : Int) = 0 := by omega
      simp only [hz2, if_false]
      refine Ev.bind (Text_ev g0 (by omega)) (Ev.bind (Text_ev g1 (by simp)) ?_)
      rw [v1]
      refine Ev.bind (Over_ev (dB_digB _) (by omega) (by omega) (by omega)) (Ev.bind answers03_ev ?_)
      rw [vB_digB]
      have zq := digB_mono (Nat.div_le_self (valL l0) y) z0
      have lq := limbs_len_digB (valL l0 / y)
      have hm := Nat.mod_lt (valL l0) (show 0 < y by omega)
      simp only [if_true]
      refine Ev.bind (Number_ev (dB_digB _) (by omega)) ?_
      rw [vB_digB]
      refine Ev.bind (Same_self (by omega)) ?_
      simp only [if_true]
      refine Ev.bind (Text_ev (l := [((valL l0 % y : Nat) : Int)]) (goodL_cons.2 ⟨cast_bd (by omega), rfl⟩) (by simp)) ?_
      have v2 : valL [((valL l0 % y : Nat) : Int)] = valL l0 % y := by
        generalize valL l0 % y = u
        simp [valL]
      rw [v2]
      exact evSome fun _ => by simp

end Go.Proofs.Ytnpibnjncjieaaa.Px
