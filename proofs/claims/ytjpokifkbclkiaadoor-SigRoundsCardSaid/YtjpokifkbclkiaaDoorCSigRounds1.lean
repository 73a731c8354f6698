/- The functions that the law SigRounds reaches, told as plain functions, with what is proved of them, and the words they need (part 1). -/
import Derived.Test.YtjpokifkbclkiaaDoorCSigRounds0
set_option linter.unusedVariables false
set_option linter.unusedSimpArgs false
section
namespace Go.Proofs.YtjpokifkbclkiaaDoor.Px
open Fig Go.RowKit Go.Proofs.YtjpokifkbclkiaaDoorW.PrintWords Go.Proofs.YtjpokifkbclkiaaDoorW.PrintLast Go.Proofs.YtjpokifkbclkiaaDoorW.PrintMore
attribute [local go_sem] max2_int min2_int max_two min_two max_three min_three max_four min_four   -- for this text's walks alone
attribute [local go_sem] fieldA23_0 fieldA23_1 fieldA23_2
mutual
def figureheadref01_Over.l0 : Nat → ByteArray → ByteArray → ByteArray → ByteArray → Int → Option (ByteArray × ByteArray)
  | 0, _, _, _, _, _ => none
  | k + 1, x0, x1, x6, x7, x8 => if x8 < (x0.size : Int) then (if 0 ≤ x8 then (if x8 ≤ (wrap64 (x8 + 1)) then (if (wrap64 (x8 + 1)) ≤ (x0.size : Int) then (if x7.size + (x0.extract (x8 : Int).toNat ((wrap64 (x8 + 1)) : Int).toNat).size ≤ 9223372036854775807 then ((figureheadref01_Strip.f k (x7 ++ (x0.extract (x8 : Int).toNat ((wrap64 (x8 + 1)) : Int).toNat))).bind fun t229 => (figureheadref01_Over.l1 k x0 x1 x6 t229 x8 0)) else (none)) else (none)) else (none)) else (none)) else ((figureheadref01_Strip.f k x6).bind fun t228 => (some (t228, x7)))
def figureheadref01_Over.l1 : Nat → ByteArray → ByteArray → ByteArray → ByteArray → Int → Int → Option (ByteArray × ByteArray)
  | 0, _, _, _, _, _, _ => none
  | k + 1, x0, x1, x6, x7, x8, x9 => (figureheadref01_Less.f x7 x1).bind fun t230 => (if t230 = true then ((some (([(wrap64 (48 + x9)) % 256] : List Int) : List Int)).bind fun y231 => (if x6.size + (strOfNums y231).size ≤ 9223372036854775807 then (figureheadref01_Over.l0 k x0 x1 (x6 ++ (strOfNums y231)) x7 (wrap64 (x8 + 1))) else (none))) else ((figureheadref01_Minus.f k x7 x1).bind fun t234 => (figureheadref01_Over.l1 k x0 x1 x6 t234 x8 (wrap64 (x9 + 1)))))
end
def figureheadref01_Over.f (k : Nat) (a0 : ByteArray) (a1 : ByteArray) : Option (ByteArray × ByteArray) := figureheadref01_Over.l0 k a0 a1 (⟨#[]⟩ : ByteArray) (⟨#[]⟩ : ByteArray) 0
theorem figureheadref01_Over.mono_l : ∀ k, (∀ y0 y1 y2 y3 y4, LeO (figureheadref01_Over.l0 k y0 y1 y2 y3 y4) (figureheadref01_Over.l0 (k + 1) y0 y1 y2 y3 y4)) ∧ (∀ y0 y1 y2 y3 y4 y5, LeO (figureheadref01_Over.l1 k y0 y1 y2 y3 y4 y5) (figureheadref01_Over.l1 (k + 1) y0 y1 y2 y3 y4 y5))
  | 0 => ⟨fun _ _ _ _ _ r h => by simp [figureheadref01_Over.l0] at h, fun _ _ _ _ _ _ r h => by simp [figureheadref01_Over.l1] at h⟩
  | k + 1 => by
    obtain ⟨ih0, ih1⟩ := figureheadref01_Over.mono_l k
    refine ⟨?_, ?_⟩
    · intro y0 y1 y2 y3 y4
      unfold figureheadref01_Over.l0
      repeat' first
      | (with_reducible exact ih0 _ _ _ _ _)
      | (with_reducible exact ih1 _ _ _ _ _ _)
      | (with_reducible exact figureheadref01_Minus.mono _ _ _)
      | (with_reducible exact figureheadref01_Strip.mono _ _)
      | (with_reducible exact LeO.refl _)
      | (with_reducible exact LeO.none _)
      | (with_reducible refine LeO.ite ?_ ?_)
      | (with_reducible refine LeO.bind ?_ (fun _ => ?_))
      | exact ih0 _ _ _ _ _
      | exact ih1 _ _ _ _ _ _
      | exact figureheadref01_Minus.mono _ _ _
      | exact figureheadref01_Strip.mono _ _
      | exact LeO.none _
      | refine LeO.ite ?_ ?_
      | refine LeO.bind ?_ (fun _ => ?_)
    · intro y0 y1 y2 y3 y4 y5
      unfold figureheadref01_Over.l1
      repeat' first
      | (with_reducible exact ih0 _ _ _ _ _)
      | (with_reducible exact ih1 _ _ _ _ _ _)
      | (with_reducible exact figureheadref01_Minus.mono _ _ _)
      | (with_reducible exact figureheadref01_Strip.mono _ _)
      | (with_reducible exact LeO.refl _)
      | (with_reducible exact LeO.none _)
      | (with_reducible refine LeO.ite ?_ ?_)
      | (with_reducible refine LeO.bind ?_ (fun _ => ?_))
      | exact ih0 _ _ _ _ _
      | exact ih1 _ _ _ _ _ _
      | exact figureheadref01_Minus.mono _ _ _
      | exact figureheadref01_Strip.mono _ _
      | exact LeO.none _
      | refine LeO.ite ?_ ?_
      | refine LeO.bind ?_ (fun _ => ?_)
theorem figureheadref01_Over.mono : ∀ a0 a1 k, LeO (figureheadref01_Over.f k a0 a1) (figureheadref01_Over.f (k + 1) a0 a1) := by
  intro a0 a1 k
  obtain ⟨ih0, ih1⟩ := figureheadref01_Over.mono_l k
  unfold figureheadref01_Over.f
  repeat' first
      | (with_reducible exact ih0 _ _ _ _ _)
      | (with_reducible exact ih1 _ _ _ _ _ _)
      | (with_reducible exact figureheadref01_Minus.mono _ _ _)
      | (with_reducible exact figureheadref01_Strip.mono _ _)
      | (with_reducible exact LeO.refl _)
      | (with_reducible exact LeO.none _)
      | (with_reducible refine LeO.ite ?_ ?_)
      | (with_reducible refine LeO.bind ?_ (fun _ => ?_))
      | exact ih0 _ _ _ _ _
      | exact ih1 _ _ _ _ _ _
      | exact figureheadref01_Minus.mono _ _ _
      | exact figureheadref01_Strip.mono _ _
      | exact LeO.none _
      | refine LeO.ite ?_ ?_
      | refine LeO.bind ?_ (fun _ => ?_)
set_option maxHeartbeats 8000000 in
set_option maxRecDepth 100000 in
theorem figureheadref01_Over.calls (k : Nat) (a0 : ByteArray) (a1 : ByteArray) (r1 : ByteArray) (r2 : ByteArray) (w : World) (h : figureheadref01_Over.f k a0 a1 = some (r1, r2)) :
    Calls Tryd.prog 40 #[.string a0, .string a1] w fun e w' => e = .returned (.tuple #[.string r1, .string r2]) ∧ Below w.heap.size w w' := by
  have HB := Aside0.mk (Below.refl w.heap.size w)
  have H : (figureheadref01_Over.l0 k a0 a1 (⟨#[]⟩ : ByteArray) (⟨#[]⟩ : ByteArray) 0) = some (r1, r2) := h
  clear h
  have H' := Aside0.mk H
  clear H
  go_enter Tryd.func40, Tryd.ntmps40
  go_wp2
  go_loopg [6, 7, 8] k (fun kq v6 v7 v8 w' => ∃ (x6_1 : ByteArray) (x7_1 : ByteArray) (x8_1 : Int), v6 = .string x6_1 ∧ v7 = .string x7_1 ∧ v8 = .int .i64 x8_1 ∧ Aside0 (figureheadref01_Over.l0 kq a0 a1 x6_1 x7_1 x8_1 = some (r1, r2)) ∧ Aside0 (kq ≤ k) ∧ Aside0 (Below w.heap.size w w'))
  case atStart => exact ⟨((⟨#[]⟩ : ByteArray)), ((⟨#[]⟩ : ByteArray)), (0), (by first | rfl | (simp; done) | (simp [*]; done) | (simp [*, Fig.bne_nil]; done)), (by first | rfl | (simp; done) | (simp [*]; done) | (simp [*, Fig.bne_nil]; done)), (by first | rfl | (simp; done) | (simp [*]; done) | (simp [*, Fig.bne_nil]; done)), H', ⟨Nat.le_refl _⟩, ⟨by repeat (first | (with_reducible first | exact HB.out | apply below_alloc | apply pw_below_drewN | apply below_drew1) | exact HB.out)⟩⟩
  case round =>
    clear H'
    try clear p2
    obtain ⟨x6_1, x7_1, x8_1, rfl, rfl, rfl, HA, HK1, HB⟩ := hrel
    cases gk with
    | zero => exact absurd HA.out (by simp [figureheadref01_Over.l0])
    | succ k1 =>
      have H := HA.out
      clear HA
      simp only [figureheadref01_Over.l0] at H
      by_cases c3 : x8_1 < (a0.size : Int)
      · rw [if_pos c3] at H
        have c3b0 : decide (x8_1 < (a0.size : Int)) = true := decide_eq_true c3
        clear c3
        by_cases c4 : 0 ≤ x8_1
        · rw [if_pos c4] at H
          have c4b0 := eq_true c4
          have c4b1 : decide (0 ≤ x8_1) = true := decide_eq_true c4
          clear c4
          by_cases c5 : x8_1 ≤ (wrap64 (x8_1 + 1))
          · rw [if_pos c5] at H
            have c5b0 := eq_true c5
            have c5b1 : decide (x8_1 ≤ (wrap64 (x8_1 + 1))) = true := decide_eq_true c5
            by_cases c6 : (wrap64 (x8_1 + 1)) ≤ (a0.size : Int)
            · rw [if_pos c6] at H
              have c6b0 := eq_true c6
              have c6b1 : decide ((wrap64 (x8_1 + 1)) ≤ (a0.size : Int)) = true := decide_eq_true c6
              by_cases c7 : x7_1.size + (a0.extract (x8_1 : Int).toNat ((wrap64 (x8_1 + 1)) : Int).toNat).size ≤ 9223372036854775807
              · rw [if_pos c7] at H
                have c7b0 := eq_true c7
                have c7b1 : decide (x7_1.size + (a0.extract (x8_1 : Int).toNat ((wrap64 (x8_1 + 1)) : Int).toNat).size ≤ 9223372036854775807) = true := decide_eq_true c7
                try have c7b2 : (9223372036854775807 < x7_1.size + (a0.extract (x8_1 : Int).toNat ((wrap64 (x8_1 + 1)) : Int).toNat).size) = False := eq_false (Nat.not_lt.2 c7)
                replace H := Option.bind_eq_some_iff.mp H
                obtain ⟨t229, A80, H⟩ := H
                replace H : (figureheadref01_Over.l1 k1 a0 a1 x6_1 t229 x8_1 0) = some (r1, r2) := H
                have A8 := Aside0.mk A80
                clear A80
                have H' := Aside0.mk H
                clear H
                go_wp2_with (first | ((with_reducible refine gate_callee (f := 38) rfl ?_); refine goesL_ (some 23) rfl rfl Tryd.func38 (by kernel_rfl) rfl #[.string (x7_1 ++ (a0.extract (x8_1 : Int).toNat ((wrap64 (x8_1 + 1)) : Int).toNat))] rfl (by (try simp only [List.map_toArray]); (try simp only [List.map_cons]); (try simp only [List.map_nil]); first | done | rfl | (simp only [List.length_drop, List.length_take]; rfl)) ?_; (with_reducible refine (figureheadref01_Strip.calls k1 (x7_1 ++ (a0.extract (x8_1 : Int).toNat ((wrap64 (x8_1 + 1)) : Int).toNat)) t229 _ A8.out).mono ?_); rintro e w' ⟨rfl, ⟨nd, rfl⟩⟩; refine ⟨_, rfl, ?_⟩))
                go_loopg [7, 9] k1 (fun kq v7 v9 w' => ∃ (x7_2 : ByteArray) (x9_2 : Int), v7 = .string x7_2 ∧ v9 = .int .i64 x9_2 ∧ Aside0 (figureheadref01_Over.l1 kq a0 a1 x6_1 x7_2 x8_1 x9_2 = some (r1, r2)) ∧ Aside0 (kq ≤ k1) ∧ Aside0 (Below w.heap.size w w'))
                case atStart => exact ⟨(t229), (0), (by first | rfl | (simp; done) | (simp [*]; done) | (simp [*, Fig.bne_nil]; done)), (by first | rfl | (simp; done) | (simp [*]; done) | (simp [*, Fig.bne_nil]; done)), H', ⟨Nat.le_refl _⟩, ⟨by repeat (first | (with_reducible first | exact HB.out | apply below_alloc | apply pw_below_drewN | apply below_drew1) | exact HB.out)⟩⟩
                case round =>
                  clear H'
                  try clear p2
                  try clear c3
                  try clear c3b0
                  try clear c4
                  try clear c4b0
                  try clear c4b1
                  try clear c5
                  try clear c5b0
                  try clear c5b1
                  try clear c6
                  try clear c6b0
                  try clear c6b1
                  try clear p6
                  try clear c7
                  try clear c7b0
                  try clear c7b1
                  try clear c7b2
                  try clear p2
                  obtain ⟨x7_2, x9_2, rfl, rfl, HA, HK2, HB⟩ := hrel
                  cases gk with
                  | zero => exact absurd HA.out (by simp [figureheadref01_Over.l1])
                  | succ k2 =>
                    have H := HA.out
                    clear HA
                    simp only [figureheadref01_Over.l1] at H
                    replace H := Option.bind_eq_some_iff.mp H
                    obtain ⟨t230, A90, H⟩ := H
                    replace H : (if t230 = true then ((some (([(wrap64 (48 + x9_2)) % 256] : List Int) : List Int)).bind fun y231 => (if x6_1.size + (strOfNums y231).size ≤ 9223372036854775807 then (figureheadref01_Over.l0 k2 a0 a1 (x6_1 ++ (strOfNums y231)) x7_2 (wrap64 (x8_1 + 1))) else (none))) else ((figureheadref01_Minus.f k2 x7_2 a1).bind fun t234 => (figureheadref01_Over.l1 k2 a0 a1 x6_1 t234 x8_1 (wrap64 (x9_2 + 1))))) = some (r1, r2) := H
                    have A9 := Aside0.mk A90
                    clear A90
                    by_cases c10 : t230 = true
                    · subst c10
                      have H1 : ((some (([(wrap64 (48 + x9_2)) % 256] : List Int) : List Int)).bind fun y231 => (if x6_1.size + (strOfNums y231).size ≤ 9223372036854775807 then (figureheadref01_Over.l0 k2 a0 a1 (x6_1 ++ (strOfNums y231)) x7_2 (wrap64 (x8_1 + 1))) else (none))) = some (r1, r2) := by rw [if_pos rfl] at H; exact H
                      clear H
                      have H := H1
                      clear H1
                      obtain ⟨y231, hy231⟩ : ∃ y_ : List Int, y_ = (([(wrap64 (48 + x9_2)) % 256] : List Int)) := ⟨_, rfl⟩
                      replace H : (if x6_1.size + (strOfNums y231).size ≤ 9223372036854775807 then (figureheadref01_Over.l0 k2 a0 a1 (x6_1 ++ (strOfNums y231)) x7_2 (wrap64 (x8_1 + 1))) else (none)) = some (r1, r2) := by first | (rw [hy231]; with_reducible exact H) | (have H2_ := (Option.bind_some _ _).symm.trans H; rw [hy231]; with_reducible exact H2_) | (have H2_ := (Option.bind_some _ _).symm.trans H; with_reducible exact H2_) | with_reducible exact H | (rw [hy231]; exact H) | exact H
                      have Ny231 := Aside0.mk hy231
                      clear hy231
                      by_cases c11 : x6_1.size + (strOfNums y231).size ≤ 9223372036854775807
                      · rw [if_pos c11] at H
                        have c11b0 := eq_true c11
                        have c11b1 : decide (x6_1.size + (strOfNums y231).size ≤ 9223372036854775807) = true := decide_eq_true c11
                        try have c11b2 : (9223372036854775807 < x6_1.size + (strOfNums y231).size) = False := eq_false (Nat.not_lt.2 c11)
                        have H' := Aside0.mk H
                        clear H
                        go_wp2_with (first | ((with_reducible refine gate_callee (f := 43) rfl ?_); refine goesL_ (some 26) rfl rfl Tryd.func43 (by kernel_rfl) rfl #[.string x7_2, .string a1] rfl (by (try simp only [List.map_toArray]); (try simp only [List.map_cons]); (try simp only [List.map_nil]); first | done | rfl | (simp only [List.length_drop, List.length_take]; rfl)) ?_; (with_reducible refine (figureheadref01_Less.calls x7_2 a1 true _ A9.out).mono ?_); rintro e w' ⟨rfl, ⟨nd, rfl⟩⟩; refine ⟨_, rfl, ?_⟩) | ((with_reducible refine gate_dst (N := 37) rfl ?_); refine Kd.R_lit (Kd.int .u8) _ 5 ?hg (N := 37) ?hd (xs := ([(wrap64 (48 + x9_2)) % 256] : List Int)) (inner := [.int .u8 ((wrap64 (48 + x9_2)) % 256)]) (ok := fun _ => True) (okp := fun _ => True) ?hr ?hp (fun _ hk => hk) trivial (Below.refl _ _) (Nat.le_refl _) (by simp) ?_; (case hd => rfl); (case hg => rfl); (case hr => first | (go_simp; done) | (go_simp; rfl)); (case hp => exact (Reps.one (show Kd.M (Kd.int .u8) _ _ _ ((wrap64 (48 + x9_2)) % 256) [.int .u8 ((wrap64 (48 + x9_2)) % 256)] from rfl) (Reps.none _ _))); intro v232 w12 ho13 hb hg_ hnew_; clear hg_ hnew_; (first | rw [← Ny231.out] at ho13 | (simp only [Int.reduceToNat] at ho13; rw [← Ny231.out] at ho13)); have n0_ := Aside0.mk (Kd.R_lower ho13 (below_size (by repeat (first | (with_reducible first | exact HB.out | apply below_alloc | apply pw_below_drewN | apply below_drew1) | exact HB.out)))); have n1_ := Aside0.mk (below_step (by repeat (first | (with_reducible first | exact HB.out | apply below_alloc | apply pw_below_drewN | apply below_drew1) | exact HB.out)) hb); clear HB; have HO233 := n0_; have HB := n1_; clear n0_ n1_; clear hb ho13; have hcv14 := own_string (P := Tryd.prog) Tryd.underlying75 Tryd.underlying5 Tryd.underlying9 (Kd.own_of_R HO233.out)))
                        go_roundg k2
                        case measure => have := HK1.out; have := HK2.out; omega
                        case rel => exact ⟨(x6_1 ++ (strOfNums y231)), (x7_2), (wrap64 (x8_1 + 1)), (by first | rfl | (simp; done) | (simp [*]; done) | (simp [*, Fig.bne_nil]; done)), (by first | rfl | (simp; done) | (simp [*]; done) | (simp [*, Fig.bne_nil]; done)), (by first | rfl | (simp; done) | (simp [*]; done) | (simp [*, Fig.bne_nil]; done)), H', ⟨by have := HK1.out; have := HK2.out; omega⟩, ⟨by repeat (first | (with_reducible first | exact HB.out | apply below_alloc | apply pw_below_drewN | apply below_drew1) | exact HB.out)⟩⟩
                      · rw [if_neg c11] at H
                        exact absurd H (by simp)
                    · replace c10 := Bool.eq_false_iff.mpr c10
                      subst c10
                      have H1 : ((figureheadref01_Minus.f k2 x7_2 a1).bind fun t234 => (figureheadref01_Over.l1 k2 a0 a1 x6_1 t234 x8_1 (wrap64 (x9_2 + 1)))) = some (r1, r2) := by rw [if_neg (show ¬ (false = true) by decide)] at H; exact H
                      clear H
                      have H := H1
                      clear H1
                      replace H := Option.bind_eq_some_iff.mp H
                      obtain ⟨t234, A150, H⟩ := H
                      replace H : (figureheadref01_Over.l1 k2 a0 a1 x6_1 t234 x8_1 (wrap64 (x9_2 + 1))) = some (r1, r2) := H
                      have A15 := Aside0.mk A150
                      clear A150
                      have H' := Aside0.mk H
                      clear H
                      go_wp2_with (first | ((with_reducible refine gate_callee (f := 43) rfl ?_); refine goesL_ (some 26) rfl rfl Tryd.func43 (by kernel_rfl) rfl #[.string x7_2, .string a1] rfl (by (try simp only [List.map_toArray]); (try simp only [List.map_cons]); (try simp only [List.map_nil]); first | done | rfl | (simp only [List.length_drop, List.length_take]; rfl)) ?_; (with_reducible refine (figureheadref01_Less.calls x7_2 a1 false _ A9.out).mono ?_); rintro e w' ⟨rfl, ⟨nd, rfl⟩⟩; refine ⟨_, rfl, ?_⟩) | ((with_reducible refine gate_callee (f := 48) rfl ?_); refine goesL_ (some 30) rfl rfl Tryd.func48 (by kernel_rfl) rfl #[.string x7_2, .string a1] rfl (by (try simp only [List.map_toArray]); (try simp only [List.map_cons]); (try simp only [List.map_nil]); first | done | rfl | (simp only [List.length_drop, List.length_take]; rfl)) ?_; (with_reducible refine (figureheadref01_Minus.calls k2 x7_2 a1 t234 _ A15.out).mono ?_); rintro e w16 ⟨rfl, hb⟩; refine ⟨_, rfl, ?_⟩; have n0_ := Aside0.mk (below_step (by repeat (first | (with_reducible first | exact HB.out | apply below_alloc | apply pw_below_drewN | apply below_drew1) | exact HB.out)) hb); clear HB; have HB := n0_; clear n0_; (try clear hb); (try clear hb2); (try clear hk); (try clear hi)))
                      go_roundg k2
                      case measure => have := HK1.out; have := HK2.out; omega
                      case rel => exact ⟨(t234), (wrap64 (x9_2 + 1)), (by first | rfl | (simp; done) | (simp [*]; done) | (simp [*, Fig.bne_nil]; done)), (by first | rfl | (simp; done) | (simp [*]; done) | (simp [*, Fig.bne_nil]; done)), H', ⟨by have := HK1.out; have := HK2.out; omega⟩, ⟨by repeat (first | (with_reducible first | exact HB.out | apply below_alloc | apply pw_below_drewN | apply below_drew1) | exact HB.out)⟩⟩
              · rw [if_neg c7] at H
                exact absurd H (by simp)
            · rw [if_neg c6] at H
              exact absurd H (by simp)
          · rw [if_neg c5] at H
            exact absurd H (by simp)
        · rw [if_neg c4] at H
          exact absurd H (by simp)
      · rw [if_neg c3] at H
        have c3b0 : decide (x8_1 < (a0.size : Int)) = false := decide_eq_false c3
        clear c3
        replace H := Option.bind_eq_some_iff.mp H
        obtain ⟨t228, A170, H⟩ := H
        replace H : (some (t228, x7_1)) = some (r1, r2) := H
        have A17 := Aside0.mk A170
        clear A170
        simp only [Option.some.injEq, Prod.mk.injEq] at H
        obtain ⟨rfl, rfl⟩ := H
        go_wp2_with (first | ((with_reducible refine gate_callee (f := 38) rfl ?_); refine goesL_ (some 41) rfl rfl Tryd.func38 (by kernel_rfl) rfl #[.string x6_1] rfl (by (try simp only [List.map_toArray]); (try simp only [List.map_cons]); (try simp only [List.map_nil]); first | done | rfl | (simp only [List.length_drop, List.length_take]; rfl)) ?_; (with_reducible refine (figureheadref01_Strip.calls k1 x6_1 t228 _ A17.out).mono ?_); rintro e w' ⟨rfl, ⟨nd, rfl⟩⟩; refine ⟨_, rfl, ?_⟩))
        go_ret2
        exact ⟨by first | rfl | (simp [errW_none, errW_some] <;> rfl) | (simp [*, errW_none, errW_some] <;> rfl), by repeat (first | (with_reducible first | exact HB.out | apply below_alloc | apply pw_below_drewN | apply below_drew1) | exact HB.out)⟩
end Go.Proofs.YtjpokifkbclkiaaDoor.Px
end
section
namespace Go.Proofs.YtjpokifkbclkiaaDoor.Px
open Fig Go.RowKit Go.Proofs.YtjpokifkbclkiaaDoorW.PrintWords Go.Proofs.YtjpokifkbclkiaaDoorW.PrintLast Go.Proofs.YtjpokifkbclkiaaDoorW.PrintMore
attribute [local go_sem] max2_int min2_int max_two min_two max_three min_three max_four min_four   -- for this text's walks alone
attribute [local go_sem] fieldA23_0 fieldA23_1 fieldA23_2
def figureheadref05_At.f (k : Nat) (a0_0 : Bool) (a0_1 : ByteArray) (a0_2 : Int) (a1 : Int) : Option (ByteArray) := (figureheadref01_Strip.f k a0_1).bind fun t236 => (if t236.toList = ([] : List UInt8) then (some (⟨#[]⟩ : ByteArray)) else ((figureheadref01_Zeros.f k (wrap64 (a0_2 - a1))).bind fun t237 => (if t236.size + t237.size ≤ 9223372036854775807 then (some (t236 ++ t237)) else (none))))
theorem figureheadref05_At.mono : ∀ a0 a1 a2 a3 k, LeO (figureheadref05_At.f k a0 a1 a2 a3) (figureheadref05_At.f (k + 1) a0 a1 a2 a3) := by
  intro a0 a1 a2 a3 k
  unfold figureheadref05_At.f
  repeat' first
      | (with_reducible exact figureheadref01_Strip.mono _ _)
      | (with_reducible exact figureheadref01_Zeros.mono _ _)
      | (with_reducible exact LeO.refl _)
      | (with_reducible exact LeO.none _)
      | (with_reducible refine LeO.ite ?_ ?_)
      | (with_reducible refine LeO.bind ?_ (fun _ => ?_))
      | exact figureheadref01_Strip.mono _ _
      | exact figureheadref01_Zeros.mono _ _
      | exact LeO.none _
      | refine LeO.ite ?_ ?_
      | refine LeO.bind ?_ (fun _ => ?_)
set_option maxHeartbeats 8000000 in
set_option maxRecDepth 100000 in
theorem figureheadref05_At.calls (k : Nat) (a0_0 : Bool) (a0_1 : ByteArray) (a0_2 : Int) (a1 : Int) (r : ByteArray) (w : World) (h : figureheadref05_At.f k a0_0 a0_1 a0_2 a1 = some r) :
    Calls Tryd.prog 41 #[.agg #[.bool a0_0, .string a0_1, .int .i64 a0_2], .int .i64 a1] w fun e w' => e = .returned (.string r) ∧ Below w.heap.size w w' := by
  have hu23 := Tryd.underlying23
  have HB := Aside0.mk (Below.refl w.heap.size w)
  have H : ((figureheadref01_Strip.f k a0_1).bind fun t236 => (if t236.toList = ([] : List UInt8) then (some (⟨#[]⟩ : ByteArray)) else ((figureheadref01_Zeros.f k (wrap64 (a0_2 - a1))).bind fun t237 => (if t236.size + t237.size ≤ 9223372036854775807 then (some (t236 ++ t237)) else (none))))) = some r := h
  clear h
  replace H := Option.bind_eq_some_iff.mp H
  obtain ⟨t236, A30, H⟩ := H
  replace H : (if t236.toList = ([] : List UInt8) then (some (⟨#[]⟩ : ByteArray)) else ((figureheadref01_Zeros.f k (wrap64 (a0_2 - a1))).bind fun t237 => (if t236.size + t237.size ≤ 9223372036854775807 then (some (t236 ++ t237)) else (none)))) = some r := H
  have A3 := Aside0.mk A30
  clear A30
  by_cases c4 : t236.toList = ([] : List UInt8)
  · rw [if_pos c4] at H
    have c4b0 : (t236.toList == ([] : List UInt8)) = true := beq_iff_eq.mpr c4
    have c4b1 : (t236.toList != ([] : List UInt8)) = false := bne_eq_false_iff_eq.mpr c4
    clear c4
    obtain rfl := Option.some.inj H
    go_enter Tryd.func41, Tryd.ntmps41
    go_wp2_with (first | ((with_reducible refine gate_dst (N := 2) rfl ?_); refine box_event ?hg (N := 2) ?hd (cs := #[.bool a0_0, .string a0_1, .int .i64 a0_2]) (t := 23) ?hr ?_; (case hd => rfl); (case hg => rfl); (case hr => first | (go_simp; done) | (go_simp; rfl)); intro gb235 hg w5 hbox hb; have n0_ := Aside0.mk (below_step (by repeat (first | (with_reducible first | exact HB.out | apply below_alloc | apply pw_below_drewN | apply below_drew1) | exact HB.out)) hb); have n1_ := Aside0.mk (hbox); have n2_ := Aside0.mk ((by rw [hg]; exact (below_size (by repeat (first | (with_reducible first | exact HB.out | apply below_alloc | apply pw_below_drewN | apply below_drew1) | exact HB.out))) : w.heap.size ≤ gb235)); have n3_ := Aside0.mk ((by rw [hg]; exact (below_size (by repeat (first | (with_reducible first | exact HB.out | apply below_alloc | apply pw_below_drewN | apply below_drew1) | exact HB.out))) : w.heap.size ≤ gb235)); clear HB; have HB := n0_; have BK235 := n1_; have GW235 := n2_; have GE235 := n3_; clear n0_ n1_ n2_ n3_; clear hb hbox hg; have hcz6_0 : w5.cell? ⟨gb235, 0, none⟩ = some (.bool a0_0) := (blk_cell BK235.out 0).trans rfl; have hcz6_1 : w5.cell? ⟨gb235, 1, none⟩ = some (.string a0_1) := (blk_cell BK235.out 1).trans rfl; have hcz6_2 : w5.cell? ⟨gb235, 2, none⟩ = some (.int .i64 a0_2) := (blk_cell BK235.out 2).trans rfl; have hfz6_0 := blk_frozen BK235.out 0; have hfz6_1 := blk_frozen BK235.out 1; have hfz6_2 := blk_frozen BK235.out 2) | ((with_reducible refine gate_callee (f := 38) rfl ?_); refine goesL_ (some 8) rfl rfl Tryd.func38 (by kernel_rfl) rfl #[.string a0_1] rfl (by (try simp only [List.map_toArray]); (try simp only [List.map_cons]); (try simp only [List.map_nil]); first | done | rfl | (simp only [List.length_drop, List.length_take]; rfl)) ?_; (with_reducible refine (figureheadref01_Strip.calls k a0_1 t236 _ A3.out).mono ?_); rintro e w' ⟨rfl, ⟨nd, rfl⟩⟩; refine ⟨_, rfl, ?_⟩))
    go_ret
    exact ⟨by first | rfl | (simp [errW_none, errW_some] <;> rfl) | (simp [*, errW_none, errW_some] <;> rfl), by repeat (first | (with_reducible first | exact HB.out | apply below_alloc | apply pw_below_drewN | apply below_drew1 | refine below_set ?_ GE235.out) | exact HB.out)⟩
  · rw [if_neg c4] at H
    have c4b0 : (t236.toList == ([] : List UInt8)) = false := beq_eq_false_iff_ne.mpr c4
    have c4b1 : (t236.toList != ([] : List UInt8)) = true := bne_iff_ne.mpr c4
    replace H := Option.bind_eq_some_iff.mp H
    obtain ⟨t237, A70, H⟩ := H
    replace H : (if t236.size + t237.size ≤ 9223372036854775807 then (some (t236 ++ t237)) else (none)) = some r := H
    have A7 := Aside0.mk A70
    clear A70
    by_cases c8 : t236.size + t237.size ≤ 9223372036854775807
    · rw [if_pos c8] at H
      have c8b0 := eq_true c8
      have c8b1 : decide (t236.size + t237.size ≤ 9223372036854775807) = true := decide_eq_true c8
      try have c8b2 : (9223372036854775807 < t236.size + t237.size) = False := eq_false (Nat.not_lt.2 c8)
      obtain rfl := Option.some.inj H
      go_enter Tryd.func41, Tryd.ntmps41
      go_wp2_with (first | ((with_reducible refine gate_dst (N := 2) rfl ?_); refine box_event ?hg (N := 2) ?hd (cs := #[.bool a0_0, .string a0_1, .int .i64 a0_2]) (t := 23) ?hr ?_; (case hd => rfl); (case hg => rfl); (case hr => first | (go_simp; done) | (go_simp; rfl)); intro gb235 hg w9 hbox hb; have n0_ := Aside0.mk (below_step (by repeat (first | (with_reducible first | exact HB.out | apply below_alloc | apply pw_below_drewN | apply below_drew1) | exact HB.out)) hb); have n1_ := Aside0.mk (hbox); have n2_ := Aside0.mk ((by rw [hg]; exact (below_size (by repeat (first | (with_reducible first | exact HB.out | apply below_alloc | apply pw_below_drewN | apply below_drew1) | exact HB.out))) : w.heap.size ≤ gb235)); have n3_ := Aside0.mk ((by rw [hg]; exact (below_size (by repeat (first | (with_reducible first | exact HB.out | apply below_alloc | apply pw_below_drewN | apply below_drew1) | exact HB.out))) : w.heap.size ≤ gb235)); clear HB; have HB := n0_; have BK235 := n1_; have GW235 := n2_; have GE235 := n3_; clear n0_ n1_ n2_ n3_; clear hb hbox hg; have hcz10_0 : w9.cell? ⟨gb235, 0, none⟩ = some (.bool a0_0) := (blk_cell BK235.out 0).trans rfl; have hcz10_1 : w9.cell? ⟨gb235, 1, none⟩ = some (.string a0_1) := (blk_cell BK235.out 1).trans rfl; have hcz10_2 : w9.cell? ⟨gb235, 2, none⟩ = some (.int .i64 a0_2) := (blk_cell BK235.out 2).trans rfl; have hfz10_0 := blk_frozen BK235.out 0; have hfz10_1 := blk_frozen BK235.out 1; have hfz10_2 := blk_frozen BK235.out 2) | ((with_reducible refine gate_callee (f := 38) rfl ?_); refine goesL_ (some 8) rfl rfl Tryd.func38 (by kernel_rfl) rfl #[.string a0_1] rfl (by (try simp only [List.map_toArray]); (try simp only [List.map_cons]); (try simp only [List.map_nil]); first | done | rfl | (simp only [List.length_drop, List.length_take]; rfl)) ?_; (with_reducible refine (figureheadref01_Strip.calls k a0_1 t236 _ A3.out).mono ?_); rintro e w' ⟨rfl, ⟨nd, rfl⟩⟩; refine ⟨_, rfl, ?_⟩) | ((with_reducible refine gate_callee (f := 39) rfl ?_); refine goesL_ (some 16) rfl rfl Tryd.func39 (by kernel_rfl) rfl #[.int .i64 (wrap64 (a0_2 - a1))] rfl (by (try simp only [List.map_toArray]); (try simp only [List.map_cons]); (try simp only [List.map_nil]); first | done | rfl | (simp only [List.length_drop, List.length_take]; rfl)) ?_; (with_reducible refine (figureheadref01_Zeros.calls k (wrap64 (a0_2 - a1)) t237 _ A7.out).mono ?_); rintro e w11 ⟨rfl, hb⟩; refine ⟨_, rfl, ?_⟩; have n0_ := Aside0.mk (blk_below (g := gb235) (o := .cells #[.bool a0_0, .string a0_1, .int .i64 a0_2] 23 (0, 0)) (by (with_reducible repeat (first | refine blk_drewN ?_ _ | refine blk_drew ?_ | refine blk_alloc ?_ _)); exact BK235.out) hb); have n1_ := Aside0.mk (below_step (by repeat (first | (with_reducible first | exact HB.out | apply below_alloc | apply pw_below_drewN | apply below_drew1 | refine below_set ?_ GE235.out) | exact HB.out)) hb); clear BK235; clear HB; have BK235 := n0_; have HB := n1_; clear n0_ n1_; (try clear hb); (try clear hb2); (try clear hk); (try clear hi)))
      go_ret
      exact ⟨by first | rfl | (simp [errW_none, errW_some] <;> rfl) | (simp [*, errW_none, errW_some] <;> rfl), by repeat (first | (with_reducible first | exact HB.out | apply below_alloc | apply pw_below_drewN | apply below_drew1 | refine below_set ?_ GE235.out) | exact HB.out)⟩
    · rw [if_neg c8] at H
      exact absurd H (by simp)
end Go.Proofs.YtjpokifkbclkiaaDoor.Px
end
section
namespace Go.Proofs.YtjpokifkbclkiaaDoor.Px
open Fig Go.RowKit Go.Proofs.YtjpokifkbclkiaaDoorW.PrintWords Go.Proofs.YtjpokifkbclkiaaDoorW.PrintLast Go.Proofs.YtjpokifkbclkiaaDoorW.PrintMore
attribute [local go_sem] max2_int min2_int max_two min_two max_three min_three max_four min_four   -- for this text's walks alone
attribute [local go_sem] fieldA23_0 fieldA23_1 fieldA23_2
mutual
def figureheadref01_Plus.l0 : Nat → ByteArray → ByteArray → List Int → Int → Int → Option (ByteArray)
  | 0, _, _, _, _, _ => none
  | k + 1, x0, x1, x5, x6, x7 => if x7 < (x0.size : Int) then (figureheadref01_Plus.j1 k x0 x1 x5 x6 x7 true) else (if x7 < (x1.size : Int) then (figureheadref01_Plus.j1 k x0 x1 x5 x6 x7 true) else (figureheadref01_Plus.j1 k x0 x1 x5 x6 x7 (decide (x6 > 0))))
def figureheadref01_Plus.j1 : Nat → ByteArray → ByteArray → List Int → Int → Int → Bool → Option (ByteArray)
  | 0, _, _, _, _, _, _ => none
  | k + 1, x0, x1, x5, x6, x7, x22 => if x22 = true then ((figureheadref01_digit.f x0 x7).bind fun t238 => ((figureheadref01_digit.f x1 x7).bind fun t239 => (if x5.length < 140737488355328 then (figureheadref01_Plus.l0 k x0 x1 (x5 ++ [(wrap64 (48 + (Int.tmod (wrap64 ((wrap64 (t238 + t239)) + x6)) 10))) % 256]) (wrap64 (Int.tdiv (wrap64 ((wrap64 (t238 + t239)) + x6)) 10)) (wrap64 (x7 + 1))) else (none)))) else ((figureheadref01_turned.f k x5).bind fun t243 => ((figureheadref01_Strip.f k t243).bind fun t244 => (some t244)))
end
def figureheadref01_Plus.f (k : Nat) (a0 : ByteArray) (a1 : ByteArray) : Option (ByteArray) := figureheadref01_Plus.l0 k a0 a1 ([] : List Int) 0 0
theorem figureheadref01_Plus.mono_l : ∀ k, (∀ y0 y1 y2 y3 y4, LeO (figureheadref01_Plus.l0 k y0 y1 y2 y3 y4) (figureheadref01_Plus.l0 (k + 1) y0 y1 y2 y3 y4)) ∧ (∀ y0 y1 y2 y3 y4 y5, LeO (figureheadref01_Plus.j1 k y0 y1 y2 y3 y4 y5) (figureheadref01_Plus.j1 (k + 1) y0 y1 y2 y3 y4 y5))
  | 0 => ⟨fun _ _ _ _ _ r h => by simp [figureheadref01_Plus.l0] at h, fun _ _ _ _ _ _ r h => by simp [figureheadref01_Plus.j1] at h⟩
  | k + 1 => by
    obtain ⟨ih0, ih1⟩ := figureheadref01_Plus.mono_l k
    refine ⟨?_, ?_⟩
    · intro y0 y1 y2 y3 y4
      unfold figureheadref01_Plus.l0
      repeat' first
      | (with_reducible exact ih0 _ _ _ _ _)
      | (with_reducible exact ih1 _ _ _ _ _ _)
      | (with_reducible exact figureheadref01_Strip.mono _ _)
      | (with_reducible exact figureheadref01_turned.mono _ _)
      | (with_reducible exact LeO.refl _)
      | (with_reducible exact LeO.none _)
      | (with_reducible refine LeO.ite ?_ ?_)
      | (with_reducible refine LeO.bind ?_ (fun _ => ?_))
      | exact ih0 _ _ _ _ _
      | exact ih1 _ _ _ _ _ _
      | exact figureheadref01_Strip.mono _ _
      | exact figureheadref01_turned.mono _ _
      | exact LeO.none _
      | refine LeO.ite ?_ ?_
      | refine LeO.bind ?_ (fun _ => ?_)
    · intro y0 y1 y2 y3 y4 y5
      unfold figureheadref01_Plus.j1
      repeat' first
      | (with_reducible exact ih0 _ _ _ _ _)
      | (with_reducible exact ih1 _ _ _ _ _ _)
      | (with_reducible exact figureheadref01_Strip.mono _ _)
      | (with_reducible exact figureheadref01_turned.mono _ _)
      | (with_reducible exact LeO.refl _)
      | (with_reducible exact LeO.none _)
      | (with_reducible refine LeO.ite ?_ ?_)
      | (with_reducible refine LeO.bind ?_ (fun _ => ?_))
      | exact ih0 _ _ _ _ _
      | exact ih1 _ _ _ _ _ _
      | exact figureheadref01_Strip.mono _ _
      | exact figureheadref01_turned.mono _ _
      | exact LeO.none _
      | refine LeO.ite ?_ ?_
      | refine LeO.bind ?_ (fun _ => ?_)
theorem figureheadref01_Plus.mono : ∀ a0 a1 k, LeO (figureheadref01_Plus.f k a0 a1) (figureheadref01_Plus.f (k + 1) a0 a1) := by
  intro a0 a1 k
  obtain ⟨ih0, ih1⟩ := figureheadref01_Plus.mono_l k
  unfold figureheadref01_Plus.f
  repeat' first
      | (with_reducible exact ih0 _ _ _ _ _)
      | (with_reducible exact ih1 _ _ _ _ _ _)
      | (with_reducible exact figureheadref01_Strip.mono _ _)
      | (with_reducible exact figureheadref01_turned.mono _ _)
      | (with_reducible exact LeO.refl _)
      | (with_reducible exact LeO.none _)
      | (with_reducible refine LeO.ite ?_ ?_)
      | (with_reducible refine LeO.bind ?_ (fun _ => ?_))
      | exact ih0 _ _ _ _ _
      | exact ih1 _ _ _ _ _ _
      | exact figureheadref01_Strip.mono _ _
      | exact figureheadref01_turned.mono _ _
      | exact LeO.none _
      | refine LeO.ite ?_ ?_
      | refine LeO.bind ?_ (fun _ => ?_)
set_option maxHeartbeats 8000000 in
set_option maxRecDepth 100000 in
theorem figureheadref01_Plus.calls (k : Nat) (a0 : ByteArray) (a1 : ByteArray) (r : ByteArray) (w : World) (h : figureheadref01_Plus.f k a0 a1 = some r) :
    Calls Tryd.prog 42 #[.string a0, .string a1] w fun e w' => e = .returned (.string r) ∧ Below w.heap.size w w' := by
  have HB := Aside0.mk (Below.refl w.heap.size w)
  have H : (figureheadref01_Plus.l0 k a0 a1 ([] : List Int) 0 0) = some r := h
  clear h
  have H' := Aside0.mk H
  clear H
  go_enter Tryd.func42, Tryd.ntmps42
  go_wp2
  go_loopg [5, 6, 7] k (fun kq v5 v6 v7 w' => ∃ (x5_1 : List Int) (x6_1 : Int) (x7_1 : Int), v6 = .int .i64 x6_1 ∧ v7 = .int .i64 x7_1 ∧ Aside0 (figureheadref01_Plus.l0 kq a0 a1 x5_1 x6_1 x7_1 = some r) ∧ Aside0 (kq ≤ k) ∧ Aside0 (Kd.R (Kd.int .u8) 5 w' w.heap.size (fun _ => True) v5 x5_1) ∧ Aside0 (Below w.heap.size w w'))
  case atStart => exact ⟨(([] : List Int)), (0), (0), (by first | rfl | (simp; done) | (simp [*]; done) | (simp [*, Fig.bne_nil]; done)), (by first | rfl | (simp; done) | (simp [*]; done) | (simp [*, Fig.bne_nil]; done)), H', ⟨Nat.le_refl _⟩, ⟨by first | exact Kd.R_nil _ _ _ _ _ | exact Kd.N_nil _ _ _ _ _ | exact Kd.V_nil _ _ _ _ _ | exact Kd.Q_nil _ _ _ _ _ | exact Kd.S_nil _ _ _ _ _⟩, ⟨by repeat (first | (with_reducible first | exact HB.out | apply below_alloc | apply pw_below_drewN | apply below_drew1) | exact HB.out)⟩⟩
  case round =>
    clear H'
    try clear p2
    obtain ⟨x5_1, x6_1, x7_1, rfl, rfl, HA, HK1, HO_5, HB⟩ := hrel
    cases gk with
    | zero => exact absurd HA.out (by simp [figureheadref01_Plus.l0])
    | succ k1 =>
      have H := HA.out
      clear HA
      simp only [figureheadref01_Plus.l0] at H
      have HC3 := Aside0.mk H
      clear H
      go_upto_region 4 with (fail)
      go_cut [22] (fun v22 wc => ∃ (kq : Nat) (x22_2 : Bool), v22 = .bool x22_2 ∧ Aside0 (figureheadref01_Plus.j1 kq a0 a1 x5_1 x6_1 x7_1 x22_2 = some r) ∧ Aside0 (kq ≤ k1) ∧ Aside0 (Kd.R (Kd.int .u8) 5 wc w.heap.size (fun _ => True) u5 x5_1) ∧ Aside0 (Below w.heap.size w wc))
      case first =>
        have H := HC3.out
        clear HC3
        by_cases c4 : x7_1 < (a0.size : Int)
        · rw [if_pos c4] at H
          have c4b0 : decide (x7_1 < (a0.size : Int)) = true := decide_eq_true c4
          clear c4
          (first | rw [c4b0] | (simp only [i64_w, i32_w]; rw [c4b0]) | skip)
          have H' := Aside0.mk H
          clear H
          go_wp2
          go_meet
          case rel => exact ⟨_, (true), (by first | rfl | (simp; done) | (simp [*]; done) | (simp [*, Fig.bne_nil]; done)), H', ⟨by have := HK1.out; first | omega | exact Nat.le_refl _⟩, ⟨by (with_reducible repeat (first | apply Kd.R_alloc | apply Kd.R_drewN | apply Kd.R_drew)); exact HO_5.out⟩, ⟨by repeat (first | (with_reducible first | exact HB.out | apply below_alloc | apply pw_below_drewN | apply below_drew1) | exact HB.out)⟩⟩
        · rw [if_neg c4] at H
          have c4b0 : decide (x7_1 < (a0.size : Int)) = false := decide_eq_false c4
          clear c4
          (first | rw [c4b0] | (simp only [i64_w, i32_w]; rw [c4b0]) | skip)
          by_cases c5 : x7_1 < (a1.size : Int)
          · rw [if_pos c5] at H
            have c5b0 : decide (x7_1 < (a1.size : Int)) = true := decide_eq_true c5
            clear c5
            have H' := Aside0.mk H
            clear H
            go_wp2
            go_meet
            case rel => exact ⟨_, (true), (by first | rfl | (simp; done) | (simp [*]; done) | (simp [*, Fig.bne_nil]; done)), H', ⟨by have := HK1.out; first | omega | exact Nat.le_refl _⟩, ⟨by (with_reducible repeat (first | apply Kd.R_alloc | apply Kd.R_drewN | apply Kd.R_drew)); exact HO_5.out⟩, ⟨by repeat (first | (with_reducible first | exact HB.out | apply below_alloc | apply pw_below_drewN | apply below_drew1) | exact HB.out)⟩⟩
          · rw [if_neg c5] at H
            have c5b0 : decide (x7_1 < (a1.size : Int)) = false := decide_eq_false c5
            clear c5
            have H' := Aside0.mk H
            clear H
            go_wp2
            go_meet
            case rel => exact ⟨_, (decide (x6_1 > 0)), (by first | rfl | (simp; done) | (simp [*]; done) | (simp [*, Fig.bne_nil]; done)), H', ⟨by have := HK1.out; first | omega | exact Nat.le_refl _⟩, ⟨by (with_reducible repeat (first | apply Kd.R_alloc | apply Kd.R_drewN | apply Kd.R_drew)); exact HO_5.out⟩, ⟨by repeat (first | (with_reducible first | exact HB.out | apply below_alloc | apply pw_below_drewN | apply below_drew1) | exact HB.out)⟩⟩
      case rest =>
        clear HC3
        try clear p2
        try clear c4
        try clear c4b0
        try clear c5
        try clear c5b0
        try clear p2
        obtain ⟨kq, x22_2, rfl, HA, HJ2, HO_5, HB⟩ := hcut
        cases kq with
        | zero => exact absurd HA.out (by simp [figureheadref01_Plus.j1])
        | succ kj2 =>
          have H := HA.out
          clear HA
          simp only [figureheadref01_Plus.j1] at H
          by_cases c6 : x22_2 = true
          · subst c6
            have H1 : ((figureheadref01_digit.f a0 x7_1).bind fun t238 => ((figureheadref01_digit.f a1 x7_1).bind fun t239 => (if x5_1.length < 140737488355328 then (figureheadref01_Plus.l0 kj2 a0 a1 (x5_1 ++ [(wrap64 (48 + (Int.tmod (wrap64 ((wrap64 (t238 + t239)) + x6_1)) 10))) % 256]) (wrap64 (Int.tdiv (wrap64 ((wrap64 (t238 + t239)) + x6_1)) 10)) (wrap64 (x7_1 + 1))) else (none)))) = some r := by rw [if_pos rfl] at H; exact H
            clear H
            have H := H1
            clear H1
            replace H := Option.bind_eq_some_iff.mp H
            obtain ⟨t238, A70, H⟩ := H
            replace H : ((figureheadref01_digit.f a1 x7_1).bind fun t239 => (if x5_1.length < 140737488355328 then (figureheadref01_Plus.l0 kj2 a0 a1 (x5_1 ++ [(wrap64 (48 + (Int.tmod (wrap64 ((wrap64 (t238 + t239)) + x6_1)) 10))) % 256]) (wrap64 (Int.tdiv (wrap64 ((wrap64 (t238 + t239)) + x6_1)) 10)) (wrap64 (x7_1 + 1))) else (none))) = some r := H
            have A7 := Aside0.mk A70
            clear A70
            replace H := Option.bind_eq_some_iff.mp H
            obtain ⟨t239, A80, H⟩ := H
            replace H : (if x5_1.length < 140737488355328 then (figureheadref01_Plus.l0 kj2 a0 a1 (x5_1 ++ [(wrap64 (48 + (Int.tmod (wrap64 ((wrap64 (t238 + t239)) + x6_1)) 10))) % 256]) (wrap64 (Int.tdiv (wrap64 ((wrap64 (t238 + t239)) + x6_1)) 10)) (wrap64 (x7_1 + 1))) else (none)) = some r := H
            have A8 := Aside0.mk A80
            clear A80
            by_cases c9 : x5_1.length < 140737488355328
            · rw [if_pos c9] at H
              have LMc9 := Aside0.mk c9
              clear c9
              obtain ⟨y240, hy240⟩ : ∃ y_ : List Int, y_ = (x5_1 ++ [(wrap64 (48 + (Int.tmod (wrap64 ((wrap64 (t238 + t239)) + x6_1)) 10))) % 256]) := ⟨_, rfl⟩
              replace H : (figureheadref01_Plus.l0 kj2 a0 a1 y240 (wrap64 (Int.tdiv (wrap64 ((wrap64 (t238 + t239)) + x6_1)) 10)) (wrap64 (x7_1 + 1))) = some r := by first | (rw [hy240]; with_reducible exact H) | (have H2_ := (Option.bind_some _ _).symm.trans H; rw [hy240]; with_reducible exact H2_) | (have H2_ := (Option.bind_some _ _).symm.trans H; with_reducible exact H2_) | with_reducible exact H | (rw [hy240]; exact H) | exact H
              have Ny240 := Aside0.mk hy240
              clear hy240
              have H' := Aside0.mk H
              clear H
              go_wp2_with (first | ((with_reducible refine gate_callee (f := 64) rfl ?_); refine goesL_ (some 27) rfl rfl Tryd.func64 (by kernel_rfl) rfl #[.string a0, .int .i64 x7_1] rfl (by (try simp only [List.map_toArray]); (try simp only [List.map_cons]); (try simp only [List.map_nil]); first | done | rfl | (simp only [List.length_drop, List.length_take]; rfl)) ?_; (with_reducible refine (figureheadref01_digit.calls a0 x7_1 t238 _ A7.out).mono ?_); rintro e w' ⟨rfl, ⟨nd, rfl⟩⟩; refine ⟨_, rfl, ?_⟩) | ((with_reducible refine gate_callee (f := 64) rfl ?_); refine goesL_ (some 30) rfl rfl Tryd.func64 (by kernel_rfl) rfl #[.string a1, .int .i64 x7_1] rfl (by (try simp only [List.map_toArray]); (try simp only [List.map_cons]); (try simp only [List.map_nil]); first | done | rfl | (simp only [List.length_drop, List.length_take]; rfl)) ?_; (with_reducible refine (figureheadref01_digit.calls a1 x7_1 t239 _ A8.out).mono ?_); rintro e w' ⟨rfl, ⟨nd, rfl⟩⟩; refine ⟨_, rfl, ?_⟩) | ((with_reducible refine gate_builtin (b := .append) (xs := #[.tmp 34, .tmp 39]) rfl ?_); (try (refine gate_guard (by rfl) ?_; dsimp only)); at_builtin; refine Kd.R_append (Kd.int .u8) (w0 := w) w.heap.size rfl (.tmp 34) (.tmp 39) 75 5 (.int .u8 0) 1 rfl Tryd.underlying75 info5 rfl (by decide) (by omega) u5 x5_1 ((wrap64 (48 + (Int.tmod (wrap64 ((wrap64 (t238 + t239)) + x6_1)) 10))) % 256) [.int .u8 ((wrap64 (48 + (Int.tmod (wrap64 ((wrap64 (t238 + t239)) + x6_1)) 10))) % 256)] (fun _ => True) (fun _ => False) rfl rfl ?aP (fun _ hk => hk.elim) ?aF ?aO ?aB ?aS ?aL ?_; (case aP => exact rfl); (case aB => exact (by repeat (first | (with_reducible first | exact HB.out | apply below_alloc | apply pw_below_drewN | apply below_drew1) | exact HB.out))); (case aF => exact (fun _ _ => trivial)); (case aO => exact (by (with_reducible repeat (first | apply Kd.R_alloc | apply Kd.R_drewN | apply Kd.R_drew)); exact HO_5.out)); (case aS => exact (below_size (by repeat (first | (with_reducible first | exact HB.out | apply below_alloc | apply pw_below_drewN | apply below_drew1) | exact HB.out)))); (case aL => have := LMc9.out; omega); intro v241 w10 ho hb hg hat; rw [← Ny240.out] at ho; have n0_ := Aside0.mk (hb); have n1_ := Aside0.mk (ho); clear HB; clear HO_5; have HB := n0_; have HO242 := n1_; clear n0_ n1_; clear ho hb hg hat))
              go_roundg kj2
              case measure => have := HK1.out; have := HJ2.out; omega
              case rel => exact ⟨(y240), (wrap64 (Int.tdiv (wrap64 ((wrap64 (t238 + t239)) + x6_1)) 10)), (wrap64 (x7_1 + 1)), (by first | rfl | (simp; done) | (simp [*]; done) | (simp [*, Fig.bne_nil]; done)), (by first | rfl | (simp; done) | (simp [*]; done) | (simp [*, Fig.bne_nil]; done)), H', ⟨by have := HK1.out; have := HJ2.out; omega⟩, ⟨by (with_reducible repeat (first | apply Kd.R_alloc | apply Kd.R_drewN | apply Kd.R_drew)); exact HO242.out⟩, ⟨by repeat (first | (with_reducible first | exact HB.out | apply below_alloc | apply pw_below_drewN | apply below_drew1) | exact HB.out)⟩⟩
            · rw [if_neg c9] at H
              exact absurd H (by simp)
          · replace c6 := Bool.eq_false_iff.mpr c6
            subst c6
            have H1 : ((figureheadref01_turned.f kj2 x5_1).bind fun t243 => ((figureheadref01_Strip.f kj2 t243).bind fun t244 => (some t244))) = some r := by rw [if_neg (show ¬ (false = true) by decide)] at H; exact H
            clear H
            have H := H1
            clear H1
            replace H := Option.bind_eq_some_iff.mp H
            obtain ⟨t243, A110, H⟩ := H
            replace H : ((figureheadref01_Strip.f kj2 t243).bind fun t244 => (some t244)) = some r := H
            have A11 := Aside0.mk A110
            clear A110
            replace H := Option.bind_eq_some_iff.mp H
            obtain ⟨t244, A120, H⟩ := H
            replace H : (some t244) = some r := H
            have A12 := Aside0.mk A120
            clear A120
            obtain rfl := Option.some.inj H
            obtain ⟨Ao13, co13, eo13⟩ := Kd.R_slice HO_5.out
            subst eo13
            go_wp2_with (first | ((with_reducible refine gate_callee (f := 65) rfl ?_); refine goesL_ (some 44) rfl rfl Tryd.func65 (by kernel_rfl) rfl #[.slice Ao13 x5_1.length co13] rfl (by (try simp only [List.map_toArray]); (try simp only [List.map_cons]); (try simp only [List.map_nil]); first | done | rfl | (simp only [List.length_drop, List.length_take]; rfl)) ?_; (with_reducible refine (figureheadref01_turned.calls kj2 _ _ x5_1 t243 _ ?side1 ?side2 A11.out).mono ?_); (case side1 => repeat (first | exact (Kd.R_reads' HO_5.out).2.2 | (with_reducible refine Kd.C_alloc ?_ _) | (with_reducible refine Kd.C_drewN ?_ _) | (with_reducible refine Kd.C_drew ?_))); (case side2 => exact (Kd.R_reads' HO_5.out).2.1); rintro e w14 ⟨rfl, hb⟩; refine ⟨_, rfl, ?_⟩; have n0_ := Aside0.mk (Kd.R_below (by (with_reducible repeat (first | apply Kd.R_alloc | apply Kd.R_drewN | apply Kd.R_drew)); exact HO_5.out) hb); have n1_ := Aside0.mk (below_step (by repeat (first | (with_reducible first | exact HB.out | apply below_alloc | apply pw_below_drewN | apply below_drew1) | exact HB.out)) hb); clear HO_5; clear HB; have HO_5 := n0_; have HB := n1_; clear n0_ n1_; (try clear hb); (try clear hb2); (try clear hk); (try clear hi)) | ((with_reducible refine gate_callee (f := 38) rfl ?_); refine goesL_ (some 45) rfl rfl Tryd.func38 (by kernel_rfl) rfl #[.string t243] rfl (by (try simp only [List.map_toArray]); (try simp only [List.map_cons]); (try simp only [List.map_nil]); first | done | rfl | (simp only [List.length_drop, List.length_take]; rfl)) ?_; (with_reducible refine (figureheadref01_Strip.calls kj2 t243 t244 _ A12.out).mono ?_); rintro e w' ⟨rfl, ⟨nd, rfl⟩⟩; refine ⟨_, rfl, ?_⟩))
            go_ret
            exact ⟨by first | rfl | (simp [errW_none, errW_some] <;> rfl) | (simp [*, errW_none, errW_some] <;> rfl), by repeat (first | (with_reducible first | exact HB.out | apply below_alloc | apply pw_below_drewN | apply below_drew1) | exact HB.out)⟩
end Go.Proofs.YtjpokifkbclkiaaDoor.Px
end
section
namespace Go.Proofs.YtjpokifkbclkiaaDoor.Px
open Fig Go.RowKit Go.Proofs.YtjpokifkbclkiaaDoorW.PrintWords Go.Proofs.YtjpokifkbclkiaaDoorW.PrintLast Go.Proofs.YtjpokifkbclkiaaDoorW.PrintMore
attribute [local go_sem] max2_int min2_int max_two min_two max_three min_three max_four min_four   -- for this text's walks alone
attribute [local go_sem] fieldA23_0 fieldA23_1 fieldA23_2
def figureheadref05_Up.f (a0 : Int) (a1 : Bool) (a2 : Bool) (a3 : Int) : Option (Bool) := if a0 = 0 then (some (!a1)) else (if a0 = 1 then (some a1) else (if a0 = 2 then (some true) else (if a0 = 4 then (if a3 > 0 then (some true) else (if a3 = 0 then (some a2) else (some false))) else (if a0 = 5 then (some (decide (a3 ≥ 0))) else (if a0 = 6 then (some (decide (a3 > 0))) else (some false))))))
set_option maxHeartbeats 8000000 in
set_option maxRecDepth 100000 in
theorem figureheadref05_Up.calls (a0 : Int) (a1 : Bool) (a2 : Bool) (a3 : Int) (r : Bool) (w : World) (h : figureheadref05_Up.f a0 a1 a2 a3 = some r) :
    Calls Tryd.prog 44 #[.int .i64 a0, .bool a1, .bool a2, .int .i64 a3] w fun e w' => e = .returned (.bool r) ∧ Drawn0 w w' := by
  have H : (if a0 = 0 then (some (!a1)) else (if a0 = 1 then (some a1) else (if a0 = 2 then (some true) else (if a0 = 4 then (if a3 > 0 then (some true) else (if a3 = 0 then (some a2) else (some false))) else (if a0 = 5 then (some (decide (a3 ≥ 0))) else (if a0 = 6 then (some (decide (a3 > 0))) else (some false))))))) = some r := h
  clear h
  by_cases c5 : a0 = 0
  · rw [if_pos c5] at H
    have c5b0 : (a0 == 0) = true := beq_iff_eq.mpr c5
    have c5b1 : (a0 != 0) = false := bne_eq_false_iff_eq.mpr c5
    clear c5
    obtain rfl := Option.some.inj H
    go_enter Tryd.func44, Tryd.ntmps44
    go_wp2
    go_ret
    exact ⟨by first | rfl | (simp; done) | (simp [*]; done) | (simp [*, Fig.bne_nil]; done), by repeat (first | exact Drawn0.refl _ | apply Drawn0.step)⟩
  · rw [if_neg c5] at H
    have c5b0 : (a0 == 0) = false := beq_eq_false_iff_ne.mpr c5
    have c5b1 : (a0 != 0) = true := bne_iff_ne.mpr c5
    by_cases c6 : a0 = 1
    · rw [if_pos c6] at H
      have c6b0 : (a0 == 1) = true := beq_iff_eq.mpr c6
      have c6b1 : (a0 != 1) = false := bne_eq_false_iff_eq.mpr c6
      clear c6
      obtain rfl := Option.some.inj H
      go_enter Tryd.func44, Tryd.ntmps44
      go_wp2
      go_ret
      exact ⟨by first | rfl | (simp; done) | (simp [*]; done) | (simp [*, Fig.bne_nil]; done), by repeat (first | exact Drawn0.refl _ | apply Drawn0.step)⟩
    · rw [if_neg c6] at H
      have c6b0 : (a0 == 1) = false := beq_eq_false_iff_ne.mpr c6
      have c6b1 : (a0 != 1) = true := bne_iff_ne.mpr c6
      by_cases c7 : a0 = 2
      · rw [if_pos c7] at H
        have c7b0 : (a0 == 2) = true := beq_iff_eq.mpr c7
        have c7b1 : (a0 != 2) = false := bne_eq_false_iff_eq.mpr c7
        clear c7
        obtain rfl := Option.some.inj H
        go_enter Tryd.func44, Tryd.ntmps44
        go_wp2
        go_ret
        exact ⟨by first | rfl | (simp; done) | (simp [*]; done) | (simp [*, Fig.bne_nil]; done), by repeat (first | exact Drawn0.refl _ | apply Drawn0.step)⟩
      · rw [if_neg c7] at H
        have c7b0 : (a0 == 2) = false := beq_eq_false_iff_ne.mpr c7
        have c7b1 : (a0 != 2) = true := bne_iff_ne.mpr c7
        by_cases c8 : a0 = 4
        · rw [if_pos c8] at H
          have c8b0 : (a0 == 4) = true := beq_iff_eq.mpr c8
          have c8b1 : (a0 != 4) = false := bne_eq_false_iff_eq.mpr c8
          clear c8
          by_cases c9 : a3 > 0
          · rw [if_pos c9] at H
            have c9b0 : decide (0 < a3) = true := decide_eq_true c9
            clear c9
            obtain rfl := Option.some.inj H
            go_enter Tryd.func44, Tryd.ntmps44
            go_wp2
            go_ret
            exact ⟨by first | rfl | (simp; done) | (simp [*]; done) | (simp [*, Fig.bne_nil]; done), by repeat (first | exact Drawn0.refl _ | apply Drawn0.step)⟩
          · rw [if_neg c9] at H
            have c9b0 : decide (0 < a3) = false := decide_eq_false c9
            clear c9
            by_cases c10 : a3 = 0
            · rw [if_pos c10] at H
              have c10b0 : (a3 == 0) = true := beq_iff_eq.mpr c10
              have c10b1 : (a3 != 0) = false := bne_eq_false_iff_eq.mpr c10
              clear c10
              obtain rfl := Option.some.inj H
              go_enter Tryd.func44, Tryd.ntmps44
              go_wp2
              go_ret
              exact ⟨by first | rfl | (simp; done) | (simp [*]; done) | (simp [*, Fig.bne_nil]; done), by repeat (first | exact Drawn0.refl _ | apply Drawn0.step)⟩
            · rw [if_neg c10] at H
              have c10b0 : (a3 == 0) = false := beq_eq_false_iff_ne.mpr c10
              have c10b1 : (a3 != 0) = true := bne_iff_ne.mpr c10
              obtain rfl := Option.some.inj H
              go_enter Tryd.func44, Tryd.ntmps44
              go_wp2
              go_ret
              exact ⟨by first | rfl | (simp; done) | (simp [*]; done) | (simp [*, Fig.bne_nil]; done), by repeat (first | exact Drawn0.refl _ | apply Drawn0.step)⟩
        · rw [if_neg c8] at H
          have c8b0 : (a0 == 4) = false := beq_eq_false_iff_ne.mpr c8
          have c8b1 : (a0 != 4) = true := bne_iff_ne.mpr c8
          by_cases c11 : a0 = 5
          · rw [if_pos c11] at H
            have c11b0 : (a0 == 5) = true := beq_iff_eq.mpr c11
            have c11b1 : (a0 != 5) = false := bne_eq_false_iff_eq.mpr c11
            clear c11
            obtain rfl := Option.some.inj H
            go_enter Tryd.func44, Tryd.ntmps44
            go_wp2
            go_ret
            exact ⟨by first | rfl | (simp; done) | (simp [*]; done) | (simp [*, Fig.bne_nil]; done), by repeat (first | exact Drawn0.refl _ | apply Drawn0.step)⟩
          · rw [if_neg c11] at H
            have c11b0 : (a0 == 5) = false := beq_eq_false_iff_ne.mpr c11
            have c11b1 : (a0 != 5) = true := bne_iff_ne.mpr c11
            by_cases c12 : a0 = 6
            · rw [if_pos c12] at H
              have c12b0 : (a0 == 6) = true := beq_iff_eq.mpr c12
              have c12b1 : (a0 != 6) = false := bne_eq_false_iff_eq.mpr c12
              clear c12
              obtain rfl := Option.some.inj H
              go_enter Tryd.func44, Tryd.ntmps44
              go_wp2
              go_ret
              exact ⟨by first | rfl | (simp; done) | (simp [*]; done) | (simp [*, Fig.bne_nil]; done), by repeat (first | exact Drawn0.refl _ | apply Drawn0.step)⟩
            · rw [if_neg c12] at H
              have c12b0 : (a0 == 6) = false := beq_eq_false_iff_ne.mpr c12
              have c12b1 : (a0 != 6) = true := bne_iff_ne.mpr c12
              obtain rfl := Option.some.inj H
              go_enter Tryd.func44, Tryd.ntmps44
              go_wp2
              go_ret
              exact ⟨by first | rfl | (simp; done) | (simp [*]; done) | (simp [*, Fig.bne_nil]; done), by repeat (first | exact Drawn0.refl _ | apply Drawn0.step)⟩
end Go.Proofs.YtjpokifkbclkiaaDoor.Px
end
section
namespace Go.Proofs.YtjpokifkbclkiaaDoor.Px
open Fig Go.RowKit Go.Proofs.YtjpokifkbclkiaaDoorW.PrintWords Go.Proofs.YtjpokifkbclkiaaDoorW.PrintLast Go.Proofs.YtjpokifkbclkiaaDoorW.PrintMore
attribute [local go_sem] max2_int min2_int max_two min_two max_three min_three max_four min_four   -- for this text's walks alone
attribute [local go_sem] fieldA23_0 fieldA23_1 fieldA23_2
def figureheadref05_Make.f (k : Nat) (a0 : Bool) (a1 : ByteArray) (a2 : Int) : Option (Bool × ByteArray × Int) := if 1 + a1.size ≤ 9223372036854775807 then ((figureheadref05_Norm.f k a0 ((⟨#[48]⟩ : ByteArray) ++ a1) a2).bind fun bt246 => (some (bt246.1, bt246.2.1, bt246.2.2))) else (none)
theorem figureheadref05_Make.mono : ∀ a0 a1 a2 k, LeO (figureheadref05_Make.f k a0 a1 a2) (figureheadref05_Make.f (k + 1) a0 a1 a2) := by
  intro a0 a1 a2 k
  unfold figureheadref05_Make.f
  repeat' first
      | (with_reducible exact figureheadref05_Norm.mono _ _ _ _)
      | (with_reducible exact LeO.refl _)
      | (with_reducible exact LeO.none _)
      | (with_reducible refine LeO.ite ?_ ?_)
      | (with_reducible refine LeO.bind ?_ (fun _ => ?_))
      | exact figureheadref05_Norm.mono _ _ _ _
      | exact LeO.none _
      | refine LeO.ite ?_ ?_
      | refine LeO.bind ?_ (fun _ => ?_)
set_option maxHeartbeats 8000000 in
set_option maxRecDepth 100000 in
theorem figureheadref05_Make.calls (k : Nat) (a0 : Bool) (a1 : ByteArray) (a2 : Int) (r1 : Bool) (r2 : ByteArray) (r3 : Int) (w : World) (h : figureheadref05_Make.f k a0 a1 a2 = some (r1, r2, r3)) :
    Calls Tryd.prog 45 #[.bool a0, .string a1, .int .i64 a2] w fun e w' => e = .returned (.agg #[.bool r1, .string r2, .int .i64 r3]) ∧ Below w.heap.size w w' := by
  have hu23 := Tryd.underlying23
  have HB := Aside0.mk (Below.refl w.heap.size w)
  have H : (if 1 + a1.size ≤ 9223372036854775807 then ((figureheadref05_Norm.f k a0 ((⟨#[48]⟩ : ByteArray) ++ a1) a2).bind fun bt246 => (some (bt246.1, bt246.2.1, bt246.2.2))) else (none)) = some (r1, r2, r3) := h
  clear h
  by_cases c4 : 1 + a1.size ≤ 9223372036854775807
  · rw [if_pos c4] at H
    have c4b0 := eq_true c4
    have c4b1 : decide (1 + a1.size ≤ 9223372036854775807) = true := decide_eq_true c4
    try have c4b2 : (9223372036854775807 < 1 + a1.size) = False := eq_false (Nat.not_lt.2 c4)
    replace H := Option.bind_eq_some_iff.mp H
    obtain ⟨⟨t246, t247, t248⟩, A50, H⟩ := H
    replace H : (some (t246, t247, t248)) = some (r1, r2, r3) := H
    have A5 := Aside0.mk A50
    clear A50
    simp only [Option.some.injEq, Prod.mk.injEq] at H
    obtain ⟨rfl, rfl, rfl⟩ := H
    go_enter Tryd.func45, Tryd.ntmps45
    go_wp2_with (first | ((with_reducible refine gate_dst (N := 6) rfl ?_); refine box_event ?hg (N := 6) ?hd (cs := #[.bool false, .string (⟨#[]⟩ : ByteArray), .int .i64 0]) (t := 23) ?hr ?_; (case hd => rfl); (case hg => rfl); (case hr => first | (go_simp; done) | (go_simp; rfl)); intro gb245 hg w6 hbox hb; have n0_ := Aside0.mk (below_step (by repeat (first | (with_reducible first | exact HB.out | apply below_alloc | apply pw_below_drewN | apply below_drew1) | exact HB.out)) hb); have n1_ := Aside0.mk (hbox); have n2_ := Aside0.mk ((by rw [hg]; exact (below_size (by repeat (first | (with_reducible first | exact HB.out | apply below_alloc | apply pw_below_drewN | apply below_drew1) | exact HB.out))) : w.heap.size ≤ gb245)); have n3_ := Aside0.mk ((by rw [hg]; exact (below_size (by repeat (first | (with_reducible first | exact HB.out | apply below_alloc | apply pw_below_drewN | apply below_drew1) | exact HB.out))) : w.heap.size ≤ gb245)); clear HB; have HB := n0_; have BK245 := n1_; have GW245 := n2_; have GE245 := n3_; clear n0_ n1_ n2_ n3_; clear hb hbox hg) | ((with_reducible refine gate_callee (f := 19) rfl ?_); refine goesL_ (some 12) rfl rfl Tryd.func19 (by kernel_rfl) rfl #[.agg #[.bool a0, .string ((⟨#[48]⟩ : ByteArray) ++ a1), .int .i64 a2]] rfl (by (try simp only [List.map_toArray]); (try simp only [List.map_cons]); (try simp only [List.map_nil]); first | done | rfl | (simp only [List.length_drop, List.length_take]; rfl)) ?_; (with_reducible refine (figureheadref05_Norm.calls k a0 ((⟨#[48]⟩ : ByteArray) ++ a1) a2 t246 t247 t248 _ A5.out).mono ?_); rintro e w7 ⟨rfl, hb⟩; refine ⟨_, rfl, ?_⟩; have n0_ := Aside0.mk (blk_below (g := gb245) (o := .cells #[.bool false, .string (⟨#[]⟩ : ByteArray), .int .i64 0] 23 (0, 0)) (by (with_reducible repeat (first | refine blk_drewN ?_ _ | refine blk_drew ?_ | refine blk_alloc ?_ _)); exact BK245.out) hb); have n1_ := Aside0.mk (below_step (by repeat (first | (with_reducible first | exact HB.out | apply below_alloc | apply pw_below_drewN | apply below_drew1 | refine below_set ?_ GE245.out) | exact HB.out)) hb); clear BK245; clear HB; have BK245 := n0_; have HB := n1_; clear n0_ n1_; (try clear hb); (try clear hb2); (try clear hk); (try clear hi); have hcz8_0 : w7.cell? ⟨gb245, 0, none⟩ = some (.bool false) := (blk_cell BK245.out 0).trans rfl; have hcz8_1 : w7.cell? ⟨gb245, 1, none⟩ = some (.string (⟨#[]⟩ : ByteArray)) := (blk_cell BK245.out 1).trans rfl; have hcz8_2 : w7.cell? ⟨gb245, 2, none⟩ = some (.int .i64 0) := (blk_cell BK245.out 2).trans rfl; have hfz8_0 := blk_frozen BK245.out 0; have hfz8_1 := blk_frozen BK245.out 1; have hfz8_2 := blk_frozen BK245.out 2))
    refine bodyPost_ret (results_cell_row rfl _ _ gb245 23 #[.bool t246, .string t247, .int .i64 t248] (0, 0) _ rfl (by (with_reducible repeat (first | refine blk_drewN ?_ _ | refine blk_drew ?_ | refine blk_alloc ?_ _)); refine blk_put (cs := #[.bool t246, .string t247, .int .i64 0]) ?_ 2 _ rfl; (with_reducible repeat (first | refine blk_drewN ?_ _ | refine blk_drew ?_ | refine blk_alloc ?_ _)); refine blk_put (cs := #[.bool t246, .string (⟨#[]⟩ : ByteArray), .int .i64 0]) ?_ 1 _ rfl; (with_reducible repeat (first | refine blk_drewN ?_ _ | refine blk_drew ?_ | refine blk_alloc ?_ _)); refine blk_put (cs := #[.bool false, .string (⟨#[]⟩ : ByteArray), .int .i64 0]) ?_ 0 _ rfl; (with_reducible repeat (first | refine blk_drewN ?_ _ | refine blk_drew ?_ | refine blk_alloc ?_ _)); exact BK245.out) Tryd.underlying23 rfl (by kernel_rfl)) rfl ?_
    exact ⟨by first | rfl | (simp [errW_none, errW_some] <;> rfl) | (simp [*, errW_none, errW_some] <;> rfl), by repeat (first | (with_reducible first | exact HB.out | apply below_alloc | apply pw_below_drewN | apply below_drew1 | refine below_set ?_ GE245.out) | exact HB.out)⟩
  · rw [if_neg c4] at H
    exact absurd H (by simp)
end Go.Proofs.YtjpokifkbclkiaaDoor.Px
end
section
namespace Go.Proofs.YtjpokifkbclkiaaDoor.Px
open Fig Go.RowKit Go.Proofs.YtjpokifkbclkiaaDoorW.PrintWords Go.Proofs.YtjpokifkbclkiaaDoorW.PrintLast Go.Proofs.YtjpokifkbclkiaaDoorW.PrintMore
attribute [local go_sem] max2_int min2_int max_two min_two max_three min_three max_four min_four   -- for this text's walks alone
attribute [local go_sem] fieldA23_0 fieldA23_1 fieldA23_2
mutual
def figureheadref01_Times.l0 : Nat → ByteArray → ByteArray → List Int → Int → Option (ByteArray)
  | 0, _, _, _, _ => none
  | k + 1, x0, x1, x5, x6 => if x6 < (x0.size : Int) then (figureheadref01_Times.l1 k x0 x1 x5 x6 0) else (figureheadref01_Times.l2 k x5 ([] : List Int) 0 0)
def figureheadref01_Times.l1 : Nat → ByteArray → ByteArray → List Int → Int → Int → Option (ByteArray)
  | 0, _, _, _, _, _ => none
  | k + 1, x0, x1, x5, x6, x7 => if x7 < (x1.size : Int) then (if 0 ≤ (wrap64 (x6 + x7)) then (if (wrap64 (x6 + x7)) < (x5.length : Int) then ((figureheadref01_digit.f x0 x6).bind fun t253 => ((figureheadref01_digit.f x1 x7).bind fun t254 => (figureheadref01_Times.l1 k x0 x1 (x5.set ((wrap64 (x6 + x7)) : Int).toNat (wrap64 ((rd x5 (wrap64 (x6 + x7))) + (wrap64 (t253 * t254))))) x6 (wrap64 (x7 + 1))))) else (none)) else (none)) else (figureheadref01_Times.l0 k x0 x1 x5 (wrap64 (x6 + 1)))
def figureheadref01_Times.l2 : Nat → List Int → List Int → Int → Int → Option (ByteArray)
  | 0, _, _, _, _ => none
  | k + 1, x5, x8, x9, x10 => if x10 < (x5.length : Int) then (if 0 ≤ x10 then (if x8.length < 140737488355328 then (figureheadref01_Times.l2 k x5 (x8 ++ [(wrap64 (48 + (Int.tmod (wrap64 ((rd x5 x10) + x9)) 10))) % 256]) (wrap64 (Int.tdiv (wrap64 ((rd x5 x10) + x9)) 10)) (wrap64 (x10 + 1))) else (none)) else (none)) else ((figureheadref01_turned.f k x8).bind fun t260 => ((figureheadref01_Strip.f k t260).bind fun t261 => (some t261)))
end
def figureheadref01_Times.f (k : Nat) (a0 : ByteArray) (a1 : ByteArray) : Option (ByteArray) := if 0 ≤ (wrap64 ((wrap64 ((a0.size : Int) + (a1.size : Int))) + 1)) then (if (wrap64 ((wrap64 ((a0.size : Int) + (a1.size : Int))) + 1) : Int).toNat ≤ 35184372088832 then (figureheadref01_Times.l0 k a0 a1 (List.replicate (wrap64 ((wrap64 ((a0.size : Int) + (a1.size : Int))) + 1) : Int).toNat 0) 0) else (none)) else (none)
theorem figureheadref01_Times.mono_l : ∀ k, (∀ y0 y1 y2 y3, LeO (figureheadref01_Times.l0 k y0 y1 y2 y3) (figureheadref01_Times.l0 (k + 1) y0 y1 y2 y3)) ∧ (∀ y0 y1 y2 y3 y4, LeO (figureheadref01_Times.l1 k y0 y1 y2 y3 y4) (figureheadref01_Times.l1 (k + 1) y0 y1 y2 y3 y4)) ∧ (∀ y0 y1 y2 y3, LeO (figureheadref01_Times.l2 k y0 y1 y2 y3) (figureheadref01_Times.l2 (k + 1) y0 y1 y2 y3))
  | 0 => ⟨fun _ _ _ _ r h => by simp [figureheadref01_Times.l0] at h, fun _ _ _ _ _ r h => by simp [figureheadref01_Times.l1] at h, fun _ _ _ _ r h => by simp [figureheadref01_Times.l2] at h⟩
  | k + 1 => by
    obtain ⟨ih0, ih1, ih2⟩ := figureheadref01_Times.mono_l k
    refine ⟨?_, ?_, ?_⟩
    · intro y0 y1 y2 y3
      unfold figureheadref01_Times.l0
      repeat' first
      | (with_reducible exact ih0 _ _ _ _)
      | (with_reducible exact ih1 _ _ _ _ _)
      | (with_reducible exact ih2 _ _ _ _)
      | (with_reducible exact figureheadref01_Strip.mono _ _)
      | (with_reducible exact figureheadref01_turned.mono _ _)
      | (with_reducible exact LeO.refl _)
      | (with_reducible exact LeO.none _)
      | (with_reducible refine LeO.ite ?_ ?_)
      | (with_reducible refine LeO.bind ?_ (fun _ => ?_))
      | exact ih0 _ _ _ _
      | exact ih1 _ _ _ _ _
      | exact ih2 _ _ _ _
      | exact figureheadref01_Strip.mono _ _
      | exact figureheadref01_turned.mono _ _
      | exact LeO.none _
      | refine LeO.ite ?_ ?_
      | refine LeO.bind ?_ (fun _ => ?_)
    · intro y0 y1 y2 y3 y4
      unfold figureheadref01_Times.l1
      repeat' first
      | (with_reducible exact ih0 _ _ _ _)
      | (with_reducible exact ih1 _ _ _ _ _)
      | (with_reducible exact ih2 _ _ _ _)
      | (with_reducible exact figureheadref01_Strip.mono _ _)
      | (with_reducible exact figureheadref01_turned.mono _ _)
      | (with_reducible exact LeO.refl _)
      | (with_reducible exact LeO.none _)
      | (with_reducible refine LeO.ite ?_ ?_)
      | (with_reducible refine LeO.bind ?_ (fun _ => ?_))
      | exact ih0 _ _ _ _
      | exact ih1 _ _ _ _ _
      | exact ih2 _ _ _ _
      | exact figureheadref01_Strip.mono _ _
      | exact figureheadref01_turned.mono _ _
      | exact LeO.none _
      | refine LeO.ite ?_ ?_
      | refine LeO.bind ?_ (fun _ => ?_)
    · intro y0 y1 y2 y3
      unfold figureheadref01_Times.l2
      repeat' first
      | (with_reducible exact ih0 _ _ _ _)
      | (with_reducible exact ih1 _ _ _ _ _)
      | (with_reducible exact ih2 _ _ _ _)
      | (with_reducible exact figureheadref01_Strip.mono _ _)
      | (with_reducible exact figureheadref01_turned.mono _ _)
      | (with_reducible exact LeO.refl _)
      | (with_reducible exact LeO.none _)
      | (with_reducible refine LeO.ite ?_ ?_)
      | (with_reducible refine LeO.bind ?_ (fun _ => ?_))
      | exact ih0 _ _ _ _
      | exact ih1 _ _ _ _ _
      | exact ih2 _ _ _ _
      | exact figureheadref01_Strip.mono _ _
      | exact figureheadref01_turned.mono _ _
      | exact LeO.none _
      | refine LeO.ite ?_ ?_
      | refine LeO.bind ?_ (fun _ => ?_)
theorem figureheadref01_Times.mono : ∀ a0 a1 k, LeO (figureheadref01_Times.f k a0 a1) (figureheadref01_Times.f (k + 1) a0 a1) := by
  intro a0 a1 k
  obtain ⟨ih0, ih1, ih2⟩ := figureheadref01_Times.mono_l k
  unfold figureheadref01_Times.f
  repeat' first
      | (with_reducible exact ih0 _ _ _ _)
      | (with_reducible exact ih1 _ _ _ _ _)
      | (with_reducible exact ih2 _ _ _ _)
      | (with_reducible exact figureheadref01_Strip.mono _ _)
      | (with_reducible exact figureheadref01_turned.mono _ _)
      | (with_reducible exact LeO.refl _)
      | (with_reducible exact LeO.none _)
      | (with_reducible refine LeO.ite ?_ ?_)
      | (with_reducible refine LeO.bind ?_ (fun _ => ?_))
      | exact ih0 _ _ _ _
      | exact ih1 _ _ _ _ _
      | exact ih2 _ _ _ _
      | exact figureheadref01_Strip.mono _ _
      | exact figureheadref01_turned.mono _ _
      | exact LeO.none _
      | refine LeO.ite ?_ ?_
      | refine LeO.bind ?_ (fun _ => ?_)
def figureheadref01_Times.T8 : Bool × List (List Nat × List Nat) := (true, [([], []), ([], []), ([], []), ([1, 2], [1, 2]), ([], []), ([], []), ([], []), ([5, 6], [5, 6]), ([4, 7], [4, 7]), ([8], [8]), ([], []), ([], []), ([10, 11], [10, 11]), ([], []), ([], []), ([13, 14, 12], [13, 14]), ([12, 15], [12, 15]), ([9, 16], [9, 16]), ([0, 3, 0, 1, 2, 3, 4, 5, 6, 7, 8, 9, 10, 11, 12, 13, 14, 15, 16, 17], [0, 3]), ([18, 17, 15, 0, 1, 2, 3, 4, 5, 6, 7, 8, 9, 10, 11, 12, 13, 14, 15, 16, 17], [17, 18])])
def figureheadref01_Times.B8 : List Nat := [0, 0, 0, 6, 0, 0, 0, 96, 240, 496, 0, 0, 3072, 0, 0, 31744, 64512, 131056, 262143, 524287]
theorem figureheadref01_Times.tab8 : rtab .any (opsOf Tryd.f46 8) = figureheadref01_Times.T8 := by kernel_rfl
theorem figureheadref01_Times.bits8 : waitsOk figureheadref01_Times.T8.2 figureheadref01_Times.B8 = true := by kernel_rfl
set_option maxHeartbeats 8000000 in
set_option maxRecDepth 100000 in
theorem figureheadref01_Times.calls (k : Nat) (a0 : ByteArray) (a1 : ByteArray) (r : ByteArray) (w : World) (h : figureheadref01_Times.f k a0 a1 = some r) :
    Calls Tryd.prog 46 #[.string a0, .string a1] w fun e w' => e = .returned (.string r) ∧ Below w.heap.size w w' := by
  have HB := Aside0.mk (Below.refl w.heap.size w)
  have H : (if 0 ≤ (wrap64 ((wrap64 ((a0.size : Int) + (a1.size : Int))) + 1)) then (if (wrap64 ((wrap64 ((a0.size : Int) + (a1.size : Int))) + 1) : Int).toNat ≤ 35184372088832 then (figureheadref01_Times.l0 k a0 a1 (List.replicate (wrap64 ((wrap64 ((a0.size : Int) + (a1.size : Int))) + 1) : Int).toNat 0) 0) else (none)) else (none)) = some r := h
  clear h
  obtain ⟨ji3, hji3⟩ : ∃ j_ : Int, (wrap64 ((wrap64 ((a0.size : Int) + (a1.size : Int))) + 1)) = j_ := ⟨_, rfl⟩
  replace H : (if 0 ≤ (ji3) then (if (ji3 : Int).toNat ≤ 35184372088832 then (figureheadref01_Times.l0 k a0 a1 (List.replicate (ji3 : Int).toNat 0) 0) else (none)) else (none)) = some r := by first | (rw [hji3] at H; exact H) | (simp only [hji3] at H ⊢; exact H)
  have hji3w : (IntKind.i64.wrap ((wrap64 ((a0.size : Int) + (a1.size : Int))) + 1)) = ji3 := (i64_w _).trans hji3
  by_cases c4 : 0 ≤ (ji3)
  · rw [if_pos c4] at H
    have c4b0 := eq_true c4
    have c4b1 : decide (0 ≤ (ji3)) = true := decide_eq_true c4
    clear c4
    by_cases c5 : (ji3 : Int).toNat ≤ 35184372088832
    · rw [if_pos c5] at H
      have c5b0 := eq_true c5
      have c5b1 : decide ((ji3 : Int).toNat ≤ 35184372088832) = true := decide_eq_true c5
      clear c5
      obtain ⟨y249, hy249⟩ : ∃ y_ : List Int, y_ = (List.replicate (ji3 : Int).toNat 0) := ⟨_, rfl⟩
      replace H : (figureheadref01_Times.l0 k a0 a1 y249 0) = some r := by first | (rw [hy249]; with_reducible exact H) | (have H2_ := (Option.bind_some _ _).symm.trans H; rw [hy249]; with_reducible exact H2_) | (have H2_ := (Option.bind_some _ _).symm.trans H; with_reducible exact H2_) | with_reducible exact H | (rw [hy249]; exact H) | exact H
      have Ny249 := Aside0.mk hy249
      clear hy249
      have H' := Aside0.mk H
      clear H
      go_enter Tryd.func46, Tryd.ntmps46
      go_wp2_with (first | ((with_reducible refine gate_dst (N := 18) rfl ?_); refine Kd.R_make (Kd.int .i64) _ 3 rfl (N := 18) rfl 89 _ _ rfl ji3 rfl rfl Tryd.underlying89 (.int .i64 0) 8 info3 rfl (by decide) (by omega) 0 (ok := fun _ => True) (okp := fun _ => True) rfl (fun _ hk => hk) trivial (of_decide_eq_true (by first | (with_reducible assumption) | assumption)) (Nat.le_trans (Nat.mul_le_mul_right _ (of_decide_eq_true (by first | (with_reducible assumption) | assumption) : ji3.toNat ≤ 35184372088832)) (by omega)) (Below.refl _ _) (Nat.le_refl _) ?_; intro v250 w6 ho7 hb hg_ hnew_; clear hg_ hnew_; (first | rw [← Ny249.out] at ho7 | (simp only [Int.reduceToNat] at ho7; rw [← Ny249.out] at ho7)); have n0_ := Aside0.mk (Kd.R_lower ho7 (below_size (by repeat (first | (with_reducible first | exact HB.out | apply below_alloc | apply pw_below_drewN | apply below_drew1) | exact HB.out)))); have n1_ := Aside0.mk (below_step (by repeat (first | (with_reducible first | exact HB.out | apply below_alloc | apply pw_below_drewN | apply below_drew1) | exact HB.out)) hb); clear HB; have HO251 := n0_; have HB := n1_; clear n0_ n1_; clear hb ho7))
      go_loopg [6] k (fun kq v6 w' => ∃ (x5_1 : List Int) (x6_1 : Int), v6 = .int .i64 x6_1 ∧ Aside0 (figureheadref01_Times.l0 kq a0 a1 x5_1 x6_1 = some r) ∧ Aside0 (kq ≤ k) ∧ Aside0 (Kd.R (Kd.int .i64) 3 w' w.heap.size (fun _ => True) v250 x5_1) ∧ Aside0 (Below w.heap.size w w'))
      case atStart => exact ⟨(y249), (0), (by first | rfl | (simp; done) | (simp [*]; done) | (simp [*, Fig.bne_nil]; done)), H', ⟨Nat.le_refl _⟩, ⟨by (with_reducible repeat (first | apply Kd.R_alloc | apply Kd.R_drewN | apply Kd.R_drew)); exact HO251.out⟩, ⟨by repeat (first | (with_reducible first | exact HB.out | apply below_alloc | apply pw_below_drewN | apply below_drew1) | exact HB.out)⟩⟩
      case round =>
        clear H'
        try clear p2
        try clear c4
        try clear c4b0
        try clear c4b1
        try clear c5
        try clear c5b0
        try clear c5b1
        try clear p6
        obtain ⟨x5_1, x6_1, rfl, HA, HK1, HO_5, HB⟩ := hrel
        cases gk with
        | zero => exact absurd HA.out (by simp [figureheadref01_Times.l0])
        | succ k1 =>
          have H := HA.out
          clear HA
          simp only [figureheadref01_Times.l0] at H
          by_cases c8 : x6_1 < (a0.size : Int)
          · rw [if_pos c8] at H
            have c8b0 : decide (x6_1 < (a0.size : Int)) = true := decide_eq_true c8
            clear c8
            have H' := Aside0.mk H
            clear H
            go_wp2
            go_loopg [7] k1 (fun kq v7 w' => ∃ (x5_2 : List Int) (x7_2 : Int), v7 = .int .i64 x7_2 ∧ Aside0 (figureheadref01_Times.l1 kq a0 a1 x5_2 x6_1 x7_2 = some r) ∧ Aside0 (kq ≤ k1) ∧ Aside0 (Kd.R (Kd.int .i64) 3 w' w.heap.size (fun _ => True) v250 x5_2) ∧ Aside0 (Below w.heap.size w w'))
            case atStart => exact ⟨(x5_1), (0), (by first | rfl | (simp; done) | (simp [*]; done) | (simp [*, Fig.bne_nil]; done)), H', ⟨Nat.le_refl _⟩, ⟨by (with_reducible repeat (first | apply Kd.R_alloc | apply Kd.R_drewN | apply Kd.R_drew)); exact HO_5.out⟩, ⟨by repeat (first | (with_reducible first | exact HB.out | apply below_alloc | apply pw_below_drewN | apply below_drew1) | exact HB.out)⟩⟩
            case round =>
              clear H'
              try clear p2
              try clear c4
              try clear c4b0
              try clear c4b1
              try clear c5
              try clear c5b0
              try clear c5b1
              try clear p6
              try clear c8
              try clear c8b0
              try clear p2
              try clear p6
              obtain ⟨x5_2, x7_2, rfl, HA, HK2, HO_5, HB⟩ := hrel
              cases gk with
              | zero => exact absurd HA.out (by simp [figureheadref01_Times.l1])
              | succ k2 =>
                have H := HA.out
                clear HA
                simp only [figureheadref01_Times.l1] at H
                by_cases c9 : x7_2 < (a1.size : Int)
                · rw [if_pos c9] at H
                  have c9b0 : decide (x7_2 < (a1.size : Int)) = true := decide_eq_true c9
                  clear c9
                  obtain ⟨ji10, hji10⟩ : ∃ j_ : Int, (wrap64 (x6_1 + x7_2)) = j_ := ⟨_, rfl⟩
                  replace H : (if 0 ≤ (ji10) then (if (ji10) < (x5_2.length : Int) then ((figureheadref01_digit.f a0 x6_1).bind fun t253 => ((figureheadref01_digit.f a1 x7_2).bind fun t254 => (figureheadref01_Times.l1 k2 a0 a1 (x5_2.set ((ji10) : Int).toNat (wrap64 ((rd x5_2 (ji10)) + (wrap64 (t253 * t254))))) x6_1 (wrap64 (x7_2 + 1))))) else (none)) else (none)) = some r := by first | (rw [hji10] at H; exact H) | (simp only [hji10] at H ⊢; exact H)
                  have hji10w : (IntKind.i64.wrap (x6_1 + x7_2)) = ji10 := (i64_w _).trans hji10
                  by_cases c11 : 0 ≤ (ji10)
                  · rw [if_pos c11] at H
                    have c11b0 : decide (0 ≤ (ji10)) = true := decide_eq_true c11
                    clear c11
                    by_cases c12 : (ji10) < (x5_2.length : Int)
                    · rw [if_pos c12] at H
                      have c12b0 : decide ((ji10) < (x5_2.length : Int)) = true := decide_eq_true c12
                      clear c12
                      replace H := Option.bind_eq_some_iff.mp H
                      obtain ⟨t253, A130, H⟩ := H
                      replace H : ((figureheadref01_digit.f a1 x7_2).bind fun t254 => (figureheadref01_Times.l1 k2 a0 a1 (x5_2.set ((ji10) : Int).toNat (wrap64 ((rd x5_2 (ji10)) + (wrap64 (t253 * t254))))) x6_1 (wrap64 (x7_2 + 1)))) = some r := H
                      have A13 := Aside0.mk A130
                      clear A130
                      replace H := Option.bind_eq_some_iff.mp H
                      obtain ⟨t254, A140, H⟩ := H
                      replace H : (figureheadref01_Times.l1 k2 a0 a1 (x5_2.set ((ji10) : Int).toNat (wrap64 ((rd x5_2 (ji10)) + (wrap64 (t253 * t254))))) x6_1 (wrap64 (x7_2 + 1))) = some r := H
                      have A14 := Aside0.mk A140
                      clear A140
                      obtain ⟨y255, hy255⟩ : ∃ y_ : List Int, y_ = (x5_2.set ((ji10) : Int).toNat (wrap64 ((rd x5_2 (ji10)) + (wrap64 (t253 * t254))))) := ⟨_, rfl⟩
                      replace H : (figureheadref01_Times.l1 k2 a0 a1 y255 x6_1 (wrap64 (x7_2 + 1))) = some r := by first | (rw [hy255]; with_reducible exact H) | (have H2_ := (Option.bind_some _ _).symm.trans H; rw [hy255]; with_reducible exact H2_) | (have H2_ := (Option.bind_some _ _).symm.trans H; with_reducible exact H2_) | with_reducible exact H | (rw [hy255]; exact H) | exact H
                      have Ny255 := Aside0.mk hy255
                      clear hy255
                      have H' := Aside0.mk H
                      clear H
                      try go_wp2
                      (try (rw [drewN_self wr]; generalize hq_ : World.drewN wr _ = wr; have n0_ : Aside0 (Kd.R (Kd.int .i64) 3 wr w.heap.size (fun _ => True) v250 x5_2) := ⟨by rw [← hq_]; exact (by (with_reducible repeat (first | apply Kd.R_alloc | apply Kd.R_drewN | apply Kd.R_drew)); exact HO_5.out)⟩; have n1_ : Aside0 (Below w.heap.size w wr) := ⟨by rw [← hq_]; exact (by repeat (first | (with_reducible first | exact HB.out | apply below_alloc | apply pw_below_drewN | apply below_drew1) | exact HB.out))⟩; clear HO_5 HB hq_; have HO_5 := n0_; have HB := n1_; clear n0_ n1_))
                      have n0_ := Aside0.mk (Kd.R_drew HO_5.out)
                      have n1_ := Aside0.mk (below_drew1 HB.out)
                      clear HO_5
                      clear HB
                      have HO_5 := n0_
                      have HB := n1_
                      clear n0_ n1_
                      obtain ⟨Ao17, co17, eo17⟩ := Kd.R_slice HO_5.out
                      (first | subst eo17 | (injection eo17 with f1_ f2_ f3_; have f4_ := f1_.symm; have f5_ := f3_.symm; clear f1_ f2_ f3_; subst f4_; subst f5_))
                      have p252 : 0 ≤ ((ji10) : Int) := of_decide_eq_true (by first | (with_reducible assumption) | assumption)
                      have q252 : (ji10) < (x5_2.length : Int) := of_decide_eq_true (by first | (with_reducible assumption) | assumption)
                      obtain ⟨ad252, e252, hx252_0⟩ := Kd.at_int (Kd.R_reads' HO_5.out).2.2 (ji10) p252 q252
                      cases e252
                      replace p252 := eq_true p252
                      replace q252 := eq_true q252
                      refine start_ (n := 20) (S := fun w' => w'.cell? (ad252.add ((ji10)).toNat) = some (.int .i64 (rd x5_2 (ji10)))) (ds := [19]) #[false, false, false, false, false, false, false, false, false, false, false, false, false, false, false, false, false, false, false, false] (by kernel_rfl) rfl rfl (hx252_0) (fun hHeld => ?_); refine with_tabW figureheadref01_Times.tab8 figureheadref01_Times.bits8 (fun HT_ HW_ => ?_)
                      generalize wr.drew = w16 at HO_5 HB hx252_0 hHeld ⊢
                      refine pure_ (i := 0) (N := some 31) (v := ?_) (a' := ?_) #[true, false, false, false, false, false, false, false, false, false, false, false, false, false, false, false, false, false, false, false] rfl rfl (any_of HT_.out (by kernel_rfl)) (fun _ _ _ h => h) (Or.inl ⟨by rfl, ?_⟩) ?_ ?_
                      rotate_left
                      · intro w'
                        go_simp
                        with_reducible rfl
                      rotate_left
                      · simp only [Act.put, List.setIfInBounds_toArray, List.set_cons_zero, List.set_cons_succ]; (try simp only [i64_w]); (try simp only [i32_w])
                        rfl
                      refine pure_ (i := 1) (N := some 32) (v := ?_) (a' := ?_) #[true, true, false, false, false, false, false, false, false, false, false, false, false, false, false, false, false, false, false, false] rfl rfl (any_of HT_.out (by kernel_rfl)) (fun _ _ _ h => h) (Or.inl ⟨by rfl, ?_⟩) ?_ ?_
                      rotate_left
                      · intro w'
                        go_simp
                        with_reducible rfl
                      rotate_left
                      · simp only [Act.put, List.setIfInBounds_toArray, List.set_cons_zero, List.set_cons_succ]; (try simp only [i64_w]); (try simp only [i32_w])
                        rfl
                      refine pure_ (i := 2) (N := some 33) (v := ?_) (a' := ?_) #[true, true, true, false, false, false, false, false, false, false, false, false, false, false, false, false, false, false, false, false] rfl rfl (any_of HT_.out (by kernel_rfl)) (fun _ _ _ h => h) (Or.inl ⟨by rfl, ?_⟩) ?_ ?_
                      rotate_left
                      · intro w'
                        go_simp
                        with_reducible rfl
                      rotate_left
                      · simp only [Act.put, List.setIfInBounds_toArray, List.set_cons_zero, List.set_cons_succ]; (try simp only [i64_w]); (try simp only [i32_w])
                        rfl
                      refine pure_ (i := 3) (N := some 34) (v := ?_) (a' := ?_) #[true, true, true, true, false, false, false, false, false, false, false, false, false, false, false, false, false, false, false, false] rfl rfl (any_of HT_.out (by kernel_rfl)) (fun _ _ _ h => h) (Or.inl ⟨by rfl, ?_⟩) ?_ ?_
                      rotate_left
                      · intro w'
                        go_simp
                        with_reducible rfl
                      rotate_left
                      · simp only [Act.put, List.setIfInBounds_toArray, List.set_cons_zero, List.set_cons_succ]; (try simp only [i64_w]); (try simp only [i32_w])
                        rfl
                      refine pure_ (i := 4) (N := some 35) (v := ?_) (a' := ?_) #[true, true, true, true, true, false, false, false, false, false, false, false, false, false, false, false, false, false, false, false] rfl rfl (any_of HT_.out (by kernel_rfl)) (fun _ _ _ h => h) (Or.inl ⟨by rfl, ?_⟩) ?_ ?_
                      rotate_left
                      · intro w'
                        go_simp
                        with_reducible rfl
                      rotate_left
                      · simp only [Act.put, List.setIfInBounds_toArray, List.set_cons_zero, List.set_cons_succ]; (try simp only [i64_w]); (try simp only [i32_w])
                        rfl
                      refine pure_ (i := 5) (N := some 36) (v := ?_) (a' := ?_) #[true, true, true, true, true, true, false, false, false, false, false, false, false, false, false, false, false, false, false, false] rfl rfl (any_of HT_.out (by kernel_rfl)) (fun _ _ _ h => h) (Or.inl ⟨by rfl, ?_⟩) ?_ ?_
                      rotate_left
                      · intro w'
                        go_simp
                        with_reducible rfl
                      rotate_left
                      · simp only [Act.put, List.setIfInBounds_toArray, List.set_cons_zero, List.set_cons_succ]; (try simp only [i64_w]); (try simp only [i32_w])
                        rfl
                      refine pure_ (i := 6) (N := some 37) (v := ?_) (a' := ?_) #[true, true, true, true, true, true, true, false, false, false, false, false, false, false, false, false, false, false, false, false] rfl rfl (any_of HT_.out (by kernel_rfl)) (fun _ _ _ h => h) (Or.inl ⟨by rfl, ?_⟩) ?_ ?_
                      rotate_left
                      · intro w'
                        go_simp
                        with_reducible rfl
                      rotate_left
                      · simp only [Act.put, List.setIfInBounds_toArray, List.set_cons_zero, List.set_cons_succ]; (try simp only [i64_w]); (try simp only [i32_w])
                        rfl
                      refine pure_ (i := 7) (N := some 38) (v := ?_) (a' := ?_) #[true, true, true, true, true, true, true, true, false, false, false, false, false, false, false, false, false, false, false, false] rfl rfl (any_of HT_.out (by kernel_rfl)) (fun _ _ _ h => h) (Or.inl ⟨by rfl, ?_⟩) ?_ ?_
                      rotate_left
                      · intro w'
                        go_simp
                        with_reducible rfl
                      rotate_left
                      · simp only [Act.put, List.setIfInBounds_toArray, List.set_cons_zero, List.set_cons_succ]; (try simp only [i64_w]); (try simp only [i32_w])
                        rfl
                      refine pure_ (i := 8) (N := some 39) (v := ?_) (a' := ?_) #[true, true, true, true, true, true, true, true, true, false, false, false, false, false, false, false, false, false, false, false] rfl rfl (any_of HT_.out (by kernel_rfl)) (fun _ _ _ h => h) (Or.inl ⟨by rfl, ?_⟩) ?_ ?_
                      rotate_left
                      · intro w'
                        go_simp
                        with_reducible rfl
                      rotate_left
                      · simp only [Act.put, List.setIfInBounds_toArray, List.set_cons_zero, List.set_cons_succ]; (try simp only [i64_w]); (try simp only [i32_w])
                        rfl
                      refine pure_ (i := 10) (N := some 41) (v := ?_) (a' := ?_) #[true, true, true, true, true, true, true, true, true, false, true, false, false, false, false, false, false, false, false, false] rfl rfl (any_of HT_.out (by kernel_rfl)) (fun _ _ _ h => h) (Or.inl ⟨by rfl, ?_⟩) ?_ ?_
                      rotate_left
                      · intro w'
                        go_simp
                        with_reducible rfl
                      rotate_left
                      · simp only [Act.put, List.setIfInBounds_toArray, List.set_cons_zero, List.set_cons_succ]; (try simp only [i64_w]); (try simp only [i32_w])
                        rfl
                      refine pure_ (i := 11) (N := some 42) (v := ?_) (a' := ?_) #[true, true, true, true, true, true, true, true, true, false, true, true, false, false, false, false, false, false, false, false] rfl rfl (any_of HT_.out (by kernel_rfl)) (fun _ _ _ h => h) (Or.inl ⟨by rfl, ?_⟩) ?_ ?_
                      rotate_left
                      · intro w'
                        go_simp
                        with_reducible rfl
                      rotate_left
                      · simp only [Act.put, List.setIfInBounds_toArray, List.set_cons_zero, List.set_cons_succ]; (try simp only [i64_w]); (try simp only [i32_w])
                        rfl
                      refine pure_ (i := 13) (N := some 44) (v := ?_) (a' := ?_) #[true, true, true, true, true, true, true, true, true, false, true, true, false, true, false, false, false, false, false, false] rfl rfl (any_of HT_.out (by kernel_rfl)) (fun _ _ _ h => h) (Or.inl ⟨by rfl, ?_⟩) ?_ ?_
                      rotate_left
                      · intro w'
                        go_simp
                        with_reducible rfl
                      rotate_left
                      · simp only [Act.put, List.setIfInBounds_toArray, List.set_cons_zero, List.set_cons_succ]; (try simp only [i64_w]); (try simp only [i32_w])
                        rfl
                      refine pure_ (i := 14) (N := some 45) (v := ?_) (a' := ?_) #[true, true, true, true, true, true, true, true, true, false, true, true, false, true, true, false, false, false, false, false] rfl rfl (any_of HT_.out (by kernel_rfl)) (fun _ _ _ h => h) (Or.inl ⟨by rfl, ?_⟩) ?_ ?_
                      rotate_left
                      · intro w'
                        go_simp
                        with_reducible rfl
                      rotate_left
                      · simp only [Act.put, List.setIfInBounds_toArray, List.set_cons_zero, List.set_cons_succ]; (try simp only [i64_w]); (try simp only [i32_w])
                        rfl
                      refine take_ (i := 9) (N := some 40) (v := ?_) (a' := ?_) #[true, true, true, true, true, true, true, true, true, true, true, true, false, true, true, false, false, false, false, false] rfl rfl (take_ofW HT_.out HW_.out (by kernel_rfl)) (fun _ _ _ h => h) (Or.inl ⟨by rfl, ?_⟩) hHeld ?_ ?_
                      rotate_left
                      · intro w' s0
                        go_simp
                        with_reducible rfl
                      rotate_left
                      · simp only [Act.put, List.setIfInBounds_toArray, List.set_cons_zero, List.set_cons_succ]; (try simp only [i64_w]); (try simp only [i32_w])
                        rfl
                      refine one_ (i := 12) (N := some 43) #[true, true, true, true, true, true, true, true, true, true, true, true, true, true, true, false, false, false, false, false] rfl rfl (one_of HT_.out (by kernel_rfl)) (by decide) (fun K hK => ?_)
                      refine goes_ Tryd.func64 (by kernel_rfl) rfl #[.string a0, .int .i64 x6_1] (by rfl) rfl rfl (by (try simp only [List.map_toArray]); (try simp only [List.map_cons]); (try simp only [List.map_nil]); first | done | rfl | (simp only [List.length_drop, List.length_take]; rfl)) ?_
                      with_reducible refine (figureheadref01_digit.calls a0 x6_1 t253 _ A13.out).mono ?_
                      rintro e w' ⟨rfl, ⟨nd, rfl⟩⟩
                      refine ⟨_, rfl, ?_⟩
                      refine hK.out _ _ (hHeld) (fun hHeld => ?_)
                      clear hK K
                      refine norm_ (a' := ?_) ?_ ?_
                      rotate_left
                      · show Act.put _ (some 43) _ = _
                        simp only [Act.put, List.setIfInBounds_toArray, List.set_cons_zero, List.set_cons_succ]; (try simp only [i64_w]); (try simp only [i32_w])
                        rfl
                      refine one_ (i := 15) (N := some 46) #[true, true, true, true, true, true, true, true, true, true, true, true, true, true, true, true, false, false, false, false] rfl rfl (one_of HT_.out (by kernel_rfl)) (by decide) (fun K hK => ?_)
                      refine goes_ Tryd.func64 (by kernel_rfl) rfl #[.string a1, .int .i64 x7_2] (by rfl) rfl rfl (by (try simp only [List.map_toArray]); (try simp only [List.map_cons]); (try simp only [List.map_nil]); first | done | rfl | (simp only [List.length_drop, List.length_take]; rfl)) ?_
                      with_reducible refine (figureheadref01_digit.calls a1 x7_2 t254 _ A14.out).mono ?_
                      rintro e w' ⟨rfl, ⟨nd, rfl⟩⟩
                      refine ⟨_, rfl, ?_⟩
                      have p15 : 0 ≤ ((ji10) : Int) := of_decide_eq_true (by first | (with_reducible assumption) | assumption)
                      have q15 : ((ji10) : Int) < ((x5_2.length : Int) : Int) := of_decide_eq_true (by first | (with_reducible assumption) | assumption)
                      obtain ⟨go15, co15, eo15, gb15, gl15, cl15, HG15⟩ := Kd.R_form HO_5.out (by omega)
                      (first | cases eo15 | (injection eo15 with ea_ en_ ec_; (first | subst ea_ | (injection ea_ with ea_; subst ea_)); subst ec_; clear en_))
                      have GB15 := Aside0.mk gb15
                      have GG15 := Aside0.mk HG15
                      clear gb15 gl15 HG15
                      (first | simp only [add_plain] at hx252_0 | skip)
                      obtain ⟨hx15_0, hf15_0⟩ := Kd.R_celln 0 HO_5.out ((ji10) : Int) p15 q15
                      replace p15 := eq_true p15
                      replace q15 := eq_true q15
                      have HP18 := Kd.R_putn HO_5.out ((ji10) : Int) (wrap64 ((rd x5_2 (ji10)) + (wrap64 (t253 * t254))))
                      rw [← Ny255.out] at HP18
                      have HQ18 := Aside0.mk HP18
                      clear HP18
                      refine hK.out _ _ (hHeld) (fun hHeld => ?_)
                      clear hK K
                      refine norm_ (a' := ?_) ?_ ?_
                      rotate_left
                      · show Act.put _ (some 46) _ = _
                        simp only [Act.put, List.setIfInBounds_toArray, List.set_cons_zero, List.set_cons_succ]; (try simp only [i64_w]); (try simp only [i32_w])
                        rfl
                      refine pure_ (i := 16) (N := some 47) (v := ?_) (a' := ?_) #[true, true, true, true, true, true, true, true, true, true, true, true, true, true, true, true, true, false, false, false] rfl rfl (any_of HT_.out (by kernel_rfl)) (fun _ _ _ h => h) (Or.inl ⟨by rfl, ?_⟩) ?_ ?_
                      rotate_left
                      · intro w'
                        go_simp
                        with_reducible rfl
                      rotate_left
                      · simp only [Act.put, List.setIfInBounds_toArray, List.set_cons_zero, List.set_cons_succ]; (try simp only [i64_w]); (try simp only [i32_w])
                        rfl
                      refine pure_ (i := 17) (N := some 48) (v := ?_) (a' := ?_) #[true, true, true, true, true, true, true, true, true, true, true, true, true, true, true, true, true, true, false, false] rfl rfl (any_of HT_.out (by kernel_rfl)) (fun _ _ _ h => h) (Or.inl ⟨by rfl, ?_⟩) ?_ ?_
                      rotate_left
                      · intro w'
                        go_simp
                        with_reducible rfl
                      rotate_left
                      · simp only [Act.put, List.setIfInBounds_toArray, List.set_cons_zero, List.set_cons_succ]; (try simp only [i64_w]); (try simp only [i32_w])
                        rfl
                      refine pure_ (i := 18) (N := some 49) (v := ?_) (a' := ?_) #[true, true, true, true, true, true, true, true, true, true, true, true, true, true, true, true, true, true, true, false] rfl rfl (any_of HT_.out (by kernel_rfl)) (fun _ _ _ h => h) (Or.inl ⟨by rfl, ?_⟩) ?_ ?_
                      rotate_left
                      · intro w'
                        go_simp
                        with_reducible rfl
                      rotate_left
                      · simp only [Act.put, List.setIfInBounds_toArray, List.set_cons_zero, List.set_cons_succ]; (try simp only [i64_w]); (try simp only [i32_w])
                        rfl
                      refine last_ (i := 19) (N := none) #[true, true, true, true, true, true, true, true, true, true, true, true, true, true, true, true, true, true, true, true] rfl rfl (one_of HT_.out (by kernel_rfl)) (by decide) (fun K hK => ?_)
                      refine skip_ (w1 := ?_) (by rfl) rfl ?_ ?_
                      rotate_left
                      · go_simp
                        rfl
                      refine hK.out _ _ ?_
                      clear hK K
                      refine done_ (done_of HT_.out (by kernel_rfl)) ?_
                      try go_wp2
                      go_roundg k2
                      case measure => have := HK1.out; have := HK2.out; omega
                      case rel => exact ⟨(y255), (wrap64 (x7_2 + 1)), (by first | rfl | (simp; done) | (simp [*]; done) | (simp [*, Fig.bne_nil]; done)), H', ⟨by have := HK1.out; have := HK2.out; omega⟩, ⟨by (with_reducible repeat (first | apply Kd.R_alloc | apply Kd.R_drewN | apply Kd.R_drew)); exact HQ18.out⟩, ⟨by repeat (first | (with_reducible first | exact HB.out | apply below_alloc | apply pw_below_drewN | apply below_drew1 | refine below_set ?_ GB15.out) | exact HB.out)⟩⟩
                    · rw [if_neg c12] at H
                      exact absurd H (by simp)
                  · rw [if_neg c11] at H
                    exact absurd H (by simp)
                · rw [if_neg c9] at H
                  have c9b0 : decide (x7_2 < (a1.size : Int)) = false := decide_eq_false c9
                  clear c9
                  have H' := Aside0.mk H
                  clear H
                  go_wp2
                  go_roundg k2
                  case measure => have := HK1.out; have := HK2.out; omega
                  case rel => exact ⟨(x5_2), (wrap64 (x6_1 + 1)), (by first | rfl | (simp; done) | (simp [*]; done) | (simp [*, Fig.bne_nil]; done)), H', ⟨by have := HK1.out; have := HK2.out; omega⟩, ⟨by (with_reducible repeat (first | apply Kd.R_alloc | apply Kd.R_drewN | apply Kd.R_drew)); exact HO_5.out⟩, ⟨by repeat (first | (with_reducible first | exact HB.out | apply below_alloc | apply pw_below_drewN | apply below_drew1) | exact HB.out)⟩⟩
          · rw [if_neg c8] at H
            have c8b0 : decide (x6_1 < (a0.size : Int)) = false := decide_eq_false c8
            clear c8
            have H' := Aside0.mk H
            clear H
            go_wp2
            go_loopg [8, 9, 10] k1 (fun kq v8 v9 v10 w' => ∃ (x8_2 : List Int) (x9_2 : Int) (x10_2 : Int), v9 = .int .i64 x9_2 ∧ v10 = .int .i64 x10_2 ∧ Aside0 (figureheadref01_Times.l2 kq x5_1 x8_2 x9_2 x10_2 = some r) ∧ Aside0 (kq ≤ k1) ∧ Aside0 (Kd.R (Kd.int .i64) 3 w' w.heap.size (fun _ => True) v250 x5_1) ∧ Aside0 (Kd.R (Kd.int .u8) 5 w' w.heap.size (fun _ => True) v8 x8_2) ∧ Aside0 (Below w.heap.size w w'))
            case atStart => exact ⟨(([] : List Int)), (0), (0), (by first | rfl | (simp; done) | (simp [*]; done) | (simp [*, Fig.bne_nil]; done)), (by first | rfl | (simp; done) | (simp [*]; done) | (simp [*, Fig.bne_nil]; done)), H', ⟨Nat.le_refl _⟩, ⟨by (with_reducible repeat (first | apply Kd.R_alloc | apply Kd.R_drewN | apply Kd.R_drew)); exact HO_5.out⟩, ⟨by first | exact Kd.R_nil _ _ _ _ _ | exact Kd.N_nil _ _ _ _ _ | exact Kd.V_nil _ _ _ _ _ | exact Kd.Q_nil _ _ _ _ _ | exact Kd.S_nil _ _ _ _ _⟩, ⟨by repeat (first | (with_reducible first | exact HB.out | apply below_alloc | apply pw_below_drewN | apply below_drew1) | exact HB.out)⟩⟩
            case round =>
              clear H'
              try clear c1
              try clear p1
              try clear q1
              try clear hx1
              try clear p2
              try clear q2
              try clear hx2
              try clear c4
              try clear c4b0
              try clear c4b1
              try clear c5
              try clear c5b0
              try clear c5b1
              try clear c6
              try clear p6
              try clear c8
              try clear c8b0
              try clear c9
              try clear c9b0
              try clear c11
              try clear c11b0
              try clear c12
              try clear c12b0
              try clear p15
              try clear q15
              try clear hx15
              try clear hf15
              try clear hx15_0
              try clear hx252_0
              try clear p15
              try clear p2
              try clear p252
              try clear p6
              try clear q15
              try clear q252
              obtain ⟨x8_2, x9_2, x10_2, rfl, rfl, HA, HK2, HO_5, HO_8, HB⟩ := hrel
              cases gk with
              | zero => exact absurd HA.out (by simp [figureheadref01_Times.l2])
              | succ k2 =>
                have H := HA.out
                clear HA
                simp only [figureheadref01_Times.l2] at H
                by_cases c19 : x10_2 < (x5_1.length : Int)
                · rw [if_pos c19] at H
                  have c19b0 : decide (x10_2 < (x5_1.length : Int)) = true := decide_eq_true c19
                  clear c19
                  by_cases c20 : 0 ≤ x10_2
                  · rw [if_pos c20] at H
                    have c20b0 : decide (0 ≤ x10_2) = true := decide_eq_true c20
                    clear c20
                    by_cases c21 : x8_2.length < 140737488355328
                    · rw [if_pos c21] at H
                      have LMc21 := Aside0.mk c21
                      clear c21
                      obtain ⟨y257, hy257⟩ : ∃ y_ : List Int, y_ = (x8_2 ++ [(wrap64 (48 + (Int.tmod (wrap64 ((rd x5_1 x10_2) + x9_2)) 10))) % 256]) := ⟨_, rfl⟩
                      replace H : (figureheadref01_Times.l2 k2 x5_1 y257 (wrap64 (Int.tdiv (wrap64 ((rd x5_1 x10_2) + x9_2)) 10)) (wrap64 (x10_2 + 1))) = some r := by first | (rw [hy257]; with_reducible exact H) | (have H2_ := (Option.bind_some _ _).symm.trans H; rw [hy257]; with_reducible exact H2_) | (have H2_ := (Option.bind_some _ _).symm.trans H; with_reducible exact H2_) | with_reducible exact H | (rw [hy257]; exact H) | exact H
                      have Ny257 := Aside0.mk hy257
                      clear hy257
                      have H' := Aside0.mk H
                      clear H
                      obtain ⟨Ao22, co22, eo22⟩ := Kd.R_slice HO_5.out
                      subst eo22
                      have p256 : 0 ≤ (x10_2 : Int) := of_decide_eq_true (by first | (with_reducible assumption) | assumption)
                      have q256 : x10_2 < (x5_1.length : Int) := of_decide_eq_true (by first | (with_reducible assumption) | assumption)
                      obtain ⟨ad256, e256, hx256_0⟩ := Kd.at_int (Kd.R_reads' HO_5.out).2.2 x10_2 p256 q256
                      cases e256
                      replace p256 := eq_true p256
                      replace q256 := eq_true q256
                      go_wp2_with (first | ((with_reducible refine gate_builtin (b := .append) (xs := #[.tmp 62, .tmp 67]) rfl ?_); at_builtin; refine Kd.R_append (Kd.int .u8) (w0 := w) w.heap.size rfl (.tmp 62) (.tmp 67) 75 5 (.int .u8 0) 1 rfl Tryd.underlying75 info5 rfl (by decide) (by omega) u8 x8_2 ((wrap64 (48 + (Int.tmod (wrap64 ((rd x5_1 x10_2) + x9_2)) 10))) % 256) [.int .u8 ((wrap64 (48 + (Int.tmod (wrap64 ((rd x5_1 x10_2) + x9_2)) 10))) % 256)] (fun _ => True) (fun _ => False) rfl rfl ?aP (fun _ hk => hk.elim) ?aF ?aO ?aB ?aS ?aL ?_; (case aP => exact rfl); (case aB => exact (by repeat (first | (with_reducible first | exact HB.out | apply below_alloc | apply pw_below_drewN | apply below_drew1) | exact HB.out))); (case aF => exact (fun _ _ => trivial)); (case aO => exact (by (with_reducible repeat (first | apply Kd.R_alloc | apply Kd.R_drewN | apply Kd.R_drew)); exact HO_8.out)); (case aS => exact (below_size (by repeat (first | (with_reducible first | exact HB.out | apply below_alloc | apply pw_below_drewN | apply below_drew1) | exact HB.out)))); (case aL => have := LMc21.out; omega); intro v258 w23 ho hb hg hat; rw [← Ny257.out] at ho; have n0_ := Aside0.mk (Kd.R_over' (by (with_reducible repeat (first | apply Kd.R_alloc | apply Kd.R_drewN | apply Kd.R_drew)); exact HO_5.out) (Kd.R_typed (by (with_reducible repeat (first | apply Kd.R_alloc | apply Kd.R_drewN | apply Kd.R_drew)); exact HO_8.out)) (by decide) hg); have n1_ := Aside0.mk (hb); have n2_ := Aside0.mk (ho); clear HO_5; clear HB; clear HO_8; have HO_5 := n0_; have HB := n1_; have HO259 := n2_; clear n0_ n1_ n2_; clear ho hb hg hat))
                      go_roundg k2
                      case measure => have := HK1.out; have := HK2.out; omega
                      case rel => exact ⟨(y257), (wrap64 (Int.tdiv (wrap64 ((rd x5_1 x10_2) + x9_2)) 10)), (wrap64 (x10_2 + 1)), (by first | rfl | (simp; done) | (simp [*]; done) | (simp [*, Fig.bne_nil]; done)), (by first | rfl | (simp; done) | (simp [*]; done) | (simp [*, Fig.bne_nil]; done)), H', ⟨by have := HK1.out; have := HK2.out; omega⟩, ⟨by (with_reducible repeat (first | apply Kd.R_alloc | apply Kd.R_drewN | apply Kd.R_drew)); exact HO_5.out⟩, ⟨by (with_reducible repeat (first | apply Kd.R_alloc | apply Kd.R_drewN | apply Kd.R_drew)); exact HO259.out⟩, ⟨by repeat (first | (with_reducible first | exact HB.out | apply below_alloc | apply pw_below_drewN | apply below_drew1) | exact HB.out)⟩⟩
                    · rw [if_neg c21] at H
                      exact absurd H (by simp)
                  · rw [if_neg c20] at H
                    exact absurd H (by simp)
                · rw [if_neg c19] at H
                  have c19b0 : decide (x10_2 < (x5_1.length : Int)) = false := decide_eq_false c19
                  clear c19
                  replace H := Option.bind_eq_some_iff.mp H
                  obtain ⟨t260, A240, H⟩ := H
                  replace H : ((figureheadref01_Strip.f k2 t260).bind fun t261 => (some t261)) = some r := H
                  have A24 := Aside0.mk A240
                  clear A240
                  replace H := Option.bind_eq_some_iff.mp H
                  obtain ⟨t261, A250, H⟩ := H
                  replace H : (some t261) = some r := H
                  have A25 := Aside0.mk A250
                  clear A250
                  obtain rfl := Option.some.inj H
                  obtain ⟨Ao26, co26, eo26⟩ := Kd.R_slice HO_5.out
                  subst eo26
                  obtain ⟨Ao27, co27, eo27⟩ := Kd.R_slice HO_8.out
                  subst eo27
                  go_wp2_with (first | ((with_reducible refine gate_callee (f := 65) rfl ?_); refine goesL_ (some 72) rfl rfl Tryd.func65 (by kernel_rfl) rfl #[.slice Ao27 x8_2.length co27] rfl (by (try simp only [List.map_toArray]); (try simp only [List.map_cons]); (try simp only [List.map_nil]); first | done | rfl | (simp only [List.length_drop, List.length_take]; rfl)) ?_; (with_reducible refine (figureheadref01_turned.calls k2 _ _ x8_2 t260 _ ?side1 ?side2 A24.out).mono ?_); (case side1 => repeat (first | exact (Kd.R_reads' HO_8.out).2.2 | (with_reducible refine Kd.C_alloc ?_ _) | (with_reducible refine Kd.C_drewN ?_ _) | (with_reducible refine Kd.C_drew ?_))); (case side2 => exact (Kd.R_reads' HO_8.out).2.1); rintro e w28 ⟨rfl, hb⟩; refine ⟨_, rfl, ?_⟩; have n0_ := Aside0.mk (Kd.R_below (by (with_reducible repeat (first | apply Kd.R_alloc | apply Kd.R_drewN | apply Kd.R_drew)); exact HO_5.out) hb); have n1_ := Aside0.mk (Kd.R_below (by (with_reducible repeat (first | apply Kd.R_alloc | apply Kd.R_drewN | apply Kd.R_drew)); exact HO_8.out) hb); have n2_ := Aside0.mk (below_step (by repeat (first | (with_reducible first | exact HB.out | apply below_alloc | apply pw_below_drewN | apply below_drew1) | exact HB.out)) hb); clear HO_5; clear HO_8; clear HB; have HO_5 := n0_; have HO_8 := n1_; have HB := n2_; clear n0_ n1_ n2_; (try clear hb); (try clear hb2); (try clear hk); (try clear hi)) | ((with_reducible refine gate_callee (f := 38) rfl ?_); refine goesL_ (some 73) rfl rfl Tryd.func38 (by kernel_rfl) rfl #[.string t260] rfl (by (try simp only [List.map_toArray]); (try simp only [List.map_cons]); (try simp only [List.map_nil]); first | done | rfl | (simp only [List.length_drop, List.length_take]; rfl)) ?_; (with_reducible refine (figureheadref01_Strip.calls k2 t260 t261 _ A25.out).mono ?_); rintro e w' ⟨rfl, ⟨nd, rfl⟩⟩; refine ⟨_, rfl, ?_⟩))
                  go_ret
                  exact ⟨by first | rfl | (simp [errW_none, errW_some] <;> rfl) | (simp only [← hji3]; first | rfl | (simp [errW_none, errW_some] <;> rfl)) | (simp [*, errW_none, errW_some] <;> rfl), by repeat (first | (with_reducible first | exact HB.out | apply below_alloc | apply pw_below_drewN | apply below_drew1) | exact HB.out)⟩
    · rw [if_neg c5] at H
      exact absurd H (by simp)
  · rw [if_neg c4] at H
    exact absurd H (by simp)
end Go.Proofs.YtjpokifkbclkiaaDoor.Px
end
section
namespace Go.Proofs.YtjpokifkbclkiaaDoor.Px
open Fig Go.RowKit Go.Proofs.YtjpokifkbclkiaaDoorW.PrintWords Go.Proofs.YtjpokifkbclkiaaDoorW.PrintLast Go.Proofs.YtjpokifkbclkiaaDoorW.PrintMore
attribute [local go_sem] max2_int min2_int max_two min_two max_three min_three max_four min_four   -- for this text's walks alone
attribute [local go_sem] fieldA23_0 fieldA23_1 fieldA23_2
mutual
def figureheadref05_Round.j0 : Nat → Int → ByteArray → Int → Int → Bool → ByteArray → Int → Option (Bool × ByteArray × Int × Int)
  | 0, _, _, _, _, _, _, _ => none
  | k + 1, x0, x2, x3, x10, x263000, x263001, x263002 => (figureheadref01_Strip.f k x2).bind fun t264 => ((figureheadref01_Zeros.f k (wrap64 (x3 - x10))).bind fun t265 => (if t264.size + t265.size ≤ 9223372036854775807 then ((figureheadref05_At.f k x263000 x263001 x263002 x10).bind fun t266 => ((figureheadref01_Over.f k t266 (t264 ++ t265)).bind fun bt267 => (if bt267.2.toList = ([] : List UInt8) then ((figureheadref05_Norm.f k x263000 x263001 x263002).bind fun bt269 => (some (bt269.1, bt269.2.1, bt269.2.2, 0))) else (if x0 = 7 then (some (false, (⟨#[]⟩ : ByteArray), 0, 11)) else ((figureheadref01_Plus.f k bt267.2 bt267.2).bind fun t272 => ((figureheadref01_Less.f t272 (t264 ++ t265)).bind fun t273 => (if t273 = true then (figureheadref05_Round.j1 k x0 x10 (t264 ++ t265) bt267.1 t272 (-1) x263000 x263001 x263002) else (figureheadref05_Round.j1 k x0 x10 (t264 ++ t265) bt267.1 t272 0 x263000 x263001 x263002)))))))) else (none)))
def figureheadref05_Round.j1 : Nat → Int → Int → ByteArray → ByteArray → ByteArray → Int → Bool → ByteArray → Int → Option (Bool × ByteArray × Int × Int)
  | 0, _, _, _, _, _, _, _, _, _ => none
  | k + 1, x0, x10, x11, x12, x14, x15, x263000, x263001, x263002 => (figureheadref01_Less.f x11 x14).bind fun t274 => (if t274 = true then (figureheadref05_Round.j2 k x0 x10 x11 x12 1 x263000 x263001 x263002) else (figureheadref05_Round.j2 k x0 x10 x11 x12 x15 x263000 x263001 x263002))
def figureheadref05_Round.j2 : Nat → Int → Int → ByteArray → ByteArray → Int → Bool → ByteArray → Int → Option (Bool × ByteArray × Int × Int)
  | 0, _, _, _, _, _, _, _, _ => none
  | k + 1, x0, x10, x11, x12, x15, x263000, x263001, x263002 => if (x12.size : Int) > 0 then (if 0 ≤ (wrap64 ((x12.size : Int) - 1)) then (if (wrap64 ((x12.size : Int) - 1)) < (x12.size : Int) then (figureheadref05_Round.j3 k x0 x10 x11 x12 x15 (((((bt x12 (wrap64 ((x12.size : Int) - 1))) - 48) % 256) % 2) == 1) x263000 x263001 x263002) else (none)) else (none)) else (figureheadref05_Round.j3 k x0 x10 x11 x12 x15 false x263000 x263001 x263002)
def figureheadref05_Round.j3 : Nat → Int → Int → ByteArray → ByteArray → Int → Bool → Bool → ByteArray → Int → Option (Bool × ByteArray × Int × Int)
  | 0, _, _, _, _, _, _, _, _, _ => none
  | k + 1, x0, x10, x11, x12, x15, x16, x263000, x263001, x263002 => (figureheadref05_Up.f x0 x263000 x16 x15).bind fun t275 => (if t275 = true then ((figureheadref01_Plus.f k x12 (⟨#[49]⟩ : ByteArray)).bind fun t276 => ((figureheadref01_Times.f k t276 x11).bind fun t277 => ((figureheadref05_Make.f k x263000 t277 x10).bind fun bt278 => (some (bt278.1, bt278.2.1, bt278.2.2, 0))))) else ((figureheadref01_Times.f k x12 x11).bind fun t281 => ((figureheadref05_Make.f k x263000 t281 x10).bind fun bt282 => (some (bt282.1, bt282.2.1, bt282.2.2, 0)))))
end
def figureheadref05_Round.f (k : Nat) (a0 : Int) (a1_0 : Bool) (a1_1 : ByteArray) (a1_2 : Int) (a2 : ByteArray) (a3 : Int) : Option (Bool × ByteArray × Int × Int) := if a3 < a1_2 then (figureheadref05_Round.j0 k a0 a2 a3 a3 a1_0 a1_1 a1_2) else (figureheadref05_Round.j0 k a0 a2 a3 a1_2 a1_0 a1_1 a1_2)
theorem figureheadref05_Round.mono_l : ∀ k, (∀ y0 y1 y2 y3 y4 y5 y6, LeO (figureheadref05_Round.j0 k y0 y1 y2 y3 y4 y5 y6) (figureheadref05_Round.j0 (k + 1) y0 y1 y2 y3 y4 y5 y6)) ∧ (∀ y0 y1 y2 y3 y4 y5 y6 y7 y8, LeO (figureheadref05_Round.j1 k y0 y1 y2 y3 y4 y5 y6 y7 y8) (figureheadref05_Round.j1 (k + 1) y0 y1 y2 y3 y4 y5 y6 y7 y8)) ∧ (∀ y0 y1 y2 y3 y4 y5 y6 y7, LeO (figureheadref05_Round.j2 k y0 y1 y2 y3 y4 y5 y6 y7) (figureheadref05_Round.j2 (k + 1) y0 y1 y2 y3 y4 y5 y6 y7)) ∧ (∀ y0 y1 y2 y3 y4 y5 y6 y7 y8, LeO (figureheadref05_Round.j3 k y0 y1 y2 y3 y4 y5 y6 y7 y8) (figureheadref05_Round.j3 (k + 1) y0 y1 y2 y3 y4 y5 y6 y7 y8))
  | 0 => ⟨fun _ _ _ _ _ _ _ r h => by simp [figureheadref05_Round.j0] at h, fun _ _ _ _ _ _ _ _ _ r h => by simp [figureheadref05_Round.j1] at h, fun _ _ _ _ _ _ _ _ r h => by simp [figureheadref05_Round.j2] at h, fun _ _ _ _ _ _ _ _ _ r h => by simp [figureheadref05_Round.j3] at h⟩
  | k + 1 => by
    obtain ⟨ih0, ih1, ih2, ih3⟩ := figureheadref05_Round.mono_l k
    refine ⟨?_, ?_, ?_, ?_⟩
    · intro y0 y1 y2 y3 y4 y5 y6
      unfold figureheadref05_Round.j0
      repeat' first
      | (with_reducible exact ih0 _ _ _ _ _ _ _)
      | (with_reducible exact ih1 _ _ _ _ _ _ _ _ _)
      | (with_reducible exact ih2 _ _ _ _ _ _ _ _)
      | (with_reducible exact ih3 _ _ _ _ _ _ _ _ _)
      | (with_reducible exact figureheadref01_Over.mono _ _ _)
      | (with_reducible exact figureheadref01_Plus.mono _ _ _)
      | (with_reducible exact figureheadref01_Strip.mono _ _)
      | (with_reducible exact figureheadref01_Times.mono _ _ _)
      | (with_reducible exact figureheadref01_Zeros.mono _ _)
      | (with_reducible exact figureheadref05_At.mono _ _ _ _ _)
      | (with_reducible exact figureheadref05_Make.mono _ _ _ _)
      | (with_reducible exact figureheadref05_Norm.mono _ _ _ _)
      | (with_reducible exact LeO.refl _)
      | (with_reducible exact LeO.none _)
      | (with_reducible refine LeO.ite ?_ ?_)
      | (with_reducible refine LeO.bind ?_ (fun _ => ?_))
      | exact ih0 _ _ _ _ _ _ _
      | exact ih1 _ _ _ _ _ _ _ _ _
      | exact ih2 _ _ _ _ _ _ _ _
      | exact ih3 _ _ _ _ _ _ _ _ _
      | exact figureheadref01_Over.mono _ _ _
      | exact figureheadref01_Plus.mono _ _ _
      | exact figureheadref01_Strip.mono _ _
      | exact figureheadref01_Times.mono _ _ _
      | exact figureheadref01_Zeros.mono _ _
      | exact figureheadref05_At.mono _ _ _ _ _
      | exact figureheadref05_Make.mono _ _ _ _
      | exact figureheadref05_Norm.mono _ _ _ _
      | exact LeO.none _
      | refine LeO.ite ?_ ?_
      | refine LeO.bind ?_ (fun _ => ?_)
    · intro y0 y1 y2 y3 y4 y5 y6 y7 y8
      unfold figureheadref05_Round.j1
      repeat' first
      | (with_reducible exact ih0 _ _ _ _ _ _ _)
      | (with_reducible exact ih1 _ _ _ _ _ _ _ _ _)
      | (with_reducible exact ih2 _ _ _ _ _ _ _ _)
      | (with_reducible exact ih3 _ _ _ _ _ _ _ _ _)
      | (with_reducible exact figureheadref01_Over.mono _ _ _)
      | (with_reducible exact figureheadref01_Plus.mono _ _ _)
      | (with_reducible exact figureheadref01_Strip.mono _ _)
      | (with_reducible exact figureheadref01_Times.mono _ _ _)
      | (with_reducible exact figureheadref01_Zeros.mono _ _)
      | (with_reducible exact figureheadref05_At.mono _ _ _ _ _)
      | (with_reducible exact figureheadref05_Make.mono _ _ _ _)
      | (with_reducible exact figureheadref05_Norm.mono _ _ _ _)
      | (with_reducible exact LeO.refl _)
      | (with_reducible exact LeO.none _)
      | (with_reducible refine LeO.ite ?_ ?_)
      | (with_reducible refine LeO.bind ?_ (fun _ => ?_))
      | exact ih0 _ _ _ _ _ _ _
      | exact ih1 _ _ _ _ _ _ _ _ _
      | exact ih2 _ _ _ _ _ _ _ _
      | exact ih3 _ _ _ _ _ _ _ _ _
      | exact figureheadref01_Over.mono _ _ _
      | exact figureheadref01_Plus.mono _ _ _
      | exact figureheadref01_Strip.mono _ _
      | exact figureheadref01_Times.mono _ _ _
      | exact figureheadref01_Zeros.mono _ _
      | exact figureheadref05_At.mono _ _ _ _ _
      | exact figureheadref05_Make.mono _ _ _ _
      | exact figureheadref05_Norm.mono _ _ _ _
      | exact LeO.none _
      | refine LeO.ite ?_ ?_
      | refine LeO.bind ?_ (fun _ => ?_)
    · intro y0 y1 y2 y3 y4 y5 y6 y7
      unfold figureheadref05_Round.j2
      repeat' first
      | (with_reducible exact ih0 _ _ _ _ _ _ _)
      | (with_reducible exact ih1 _ _ _ _ _ _ _ _ _)
      | (with_reducible exact ih2 _ _ _ _ _ _ _ _)
      | (with_reducible exact ih3 _ _ _ _ _ _ _ _ _)
      | (with_reducible exact figureheadref01_Over.mono _ _ _)
      | (with_reducible exact figureheadref01_Plus.mono _ _ _)
      | (with_reducible exact figureheadref01_Strip.mono _ _)
      | (with_reducible exact figureheadref01_Times.mono _ _ _)
      | (with_reducible exact figureheadref01_Zeros.mono _ _)
      | (with_reducible exact figureheadref05_At.mono _ _ _ _ _)
      | (with_reducible exact figureheadref05_Make.mono _ _ _ _)
      | (with_reducible exact figureheadref05_Norm.mono _ _ _ _)
      | (with_reducible exact LeO.refl _)
      | (with_reducible exact LeO.none _)
      | (with_reducible refine LeO.ite ?_ ?_)
      | (with_reducible refine LeO.bind ?_ (fun _ => ?_))
      | exact ih0 _ _ _ _ _ _ _
      | exact ih1 _ _ _ _ _ _ _ _ _
      | exact ih2 _ _ _ _ _ _ _ _
      | exact ih3 _ _ _ _ _ _ _ _ _
      | exact figureheadref01_Over.mono _ _ _
      | exact figureheadref01_Plus.mono _ _ _
      | exact figureheadref01_Strip.mono _ _
      | exact figureheadref01_Times.mono _ _ _
      | exact figureheadref01_Zeros.mono _ _
      | exact figureheadref05_At.mono _ _ _ _ _
      | exact figureheadref05_Make.mono _ _ _ _
      | exact figureheadref05_Norm.mono _ _ _ _
      | exact LeO.none _
      | refine LeO.ite ?_ ?_
      | refine LeO.bind ?_ (fun _ => ?_)
    · intro y0 y1 y2 y3 y4 y5 y6 y7 y8
      unfold figureheadref05_Round.j3
      repeat' first
      | (with_reducible exact ih0 _ _ _ _ _ _ _)
      | (with_reducible exact ih1 _ _ _ _ _ _ _ _ _)
      | (with_reducible exact ih2 _ _ _ _ _ _ _ _)
      | (with_reducible exact ih3 _ _ _ _ _ _ _ _ _)
      | (with_reducible exact figureheadref01_Over.mono _ _ _)
      | (with_reducible exact figureheadref01_Plus.mono _ _ _)
      | (with_reducible exact figureheadref01_Strip.mono _ _)
      | (with_reducible exact figureheadref01_Times.mono _ _ _)
      | (with_reducible exact figureheadref01_Zeros.mono _ _)
      | (with_reducible exact figureheadref05_At.mono _ _ _ _ _)
      | (with_reducible exact figureheadref05_Make.mono _ _ _ _)
      | (with_reducible exact figureheadref05_Norm.mono _ _ _ _)
      | (with_reducible exact LeO.refl _)
      | (with_reducible exact LeO.none _)
      | (with_reducible refine LeO.ite ?_ ?_)
      | (with_reducible refine LeO.bind ?_ (fun _ => ?_))
      | exact ih0 _ _ _ _ _ _ _
      | exact ih1 _ _ _ _ _ _ _ _ _
      | exact ih2 _ _ _ _ _ _ _ _
      | exact ih3 _ _ _ _ _ _ _ _ _
      | exact figureheadref01_Over.mono _ _ _
      | exact figureheadref01_Plus.mono _ _ _
      | exact figureheadref01_Strip.mono _ _
      | exact figureheadref01_Times.mono _ _ _
      | exact figureheadref01_Zeros.mono _ _
      | exact figureheadref05_At.mono _ _ _ _ _
      | exact figureheadref05_Make.mono _ _ _ _
      | exact figureheadref05_Norm.mono _ _ _ _
      | exact LeO.none _
      | refine LeO.ite ?_ ?_
      | refine LeO.bind ?_ (fun _ => ?_)
theorem figureheadref05_Round.mono : ∀ a0 a1 a2 a3 a4 a5 k, LeO (figureheadref05_Round.f k a0 a1 a2 a3 a4 a5) (figureheadref05_Round.f (k + 1) a0 a1 a2 a3 a4 a5) := by
  intro a0 a1 a2 a3 a4 a5 k
  obtain ⟨ih0, ih1, ih2, ih3⟩ := figureheadref05_Round.mono_l k
  unfold figureheadref05_Round.f
  repeat' first
      | (with_reducible exact ih0 _ _ _ _ _ _ _)
      | (with_reducible exact ih1 _ _ _ _ _ _ _ _ _)
      | (with_reducible exact ih2 _ _ _ _ _ _ _ _)
      | (with_reducible exact ih3 _ _ _ _ _ _ _ _ _)
      | (with_reducible exact figureheadref01_Over.mono _ _ _)
      | (with_reducible exact figureheadref01_Plus.mono _ _ _)
      | (with_reducible exact figureheadref01_Strip.mono _ _)
      | (with_reducible exact figureheadref01_Times.mono _ _ _)
      | (with_reducible exact figureheadref01_Zeros.mono _ _)
      | (with_reducible exact figureheadref05_At.mono _ _ _ _ _)
      | (with_reducible exact figureheadref05_Make.mono _ _ _ _)
      | (with_reducible exact figureheadref05_Norm.mono _ _ _ _)
      | (with_reducible exact LeO.refl _)
      | (with_reducible exact LeO.none _)
      | (with_reducible refine LeO.ite ?_ ?_)
      | (with_reducible refine LeO.bind ?_ (fun _ => ?_))
      | exact ih0 _ _ _ _ _ _ _
      | exact ih1 _ _ _ _ _ _ _ _ _
      | exact ih2 _ _ _ _ _ _ _ _
      | exact ih3 _ _ _ _ _ _ _ _ _
      | exact figureheadref01_Over.mono _ _ _
      | exact figureheadref01_Plus.mono _ _ _
      | exact figureheadref01_Strip.mono _ _
      | exact figureheadref01_Times.mono _ _ _
      | exact figureheadref01_Zeros.mono _ _
      | exact figureheadref05_At.mono _ _ _ _ _
      | exact figureheadref05_Make.mono _ _ _ _
      | exact figureheadref05_Norm.mono _ _ _ _
      | exact LeO.none _
      | refine LeO.ite ?_ ?_
      | refine LeO.bind ?_ (fun _ => ?_)
def figureheadref05_Round.T19 : Bool × List (List Nat × List Nat) := (true, [([], []), ([0], [0]), ([], []), ([], []), ([2, 3], [2, 3]), ([], []), ([1, 4, 5, 4], [1, 4, 5]), ([6, 6, 0, 1, 2, 3, 4, 5, 6], [6]), ([7, 0, 1, 2, 3, 4, 5, 6, 7], [])])
def figureheadref05_Round.B19 : List Nat := [0, 1, 0, 0, 12, 0, 63, 127, 255]
theorem figureheadref05_Round.tab19 : rtab .any (opsOf Tryd.f17 19) = figureheadref05_Round.T19 := by kernel_rfl
theorem figureheadref05_Round.bits19 : waitsOk figureheadref05_Round.T19.2 figureheadref05_Round.B19 = true := by kernel_rfl
set_option maxHeartbeats 8000000 in
set_option maxRecDepth 100000 in
theorem figureheadref05_Round.calls (k : Nat) (a0 : Int) (a1_0 : Bool) (a1_1 : ByteArray) (a1_2 : Int) (a2 : ByteArray) (a3 : Int) (r1 : Bool) (r2 : ByteArray) (r3 : Int) (r4 : Int) (w : World) (h : figureheadref05_Round.f k a0 a1_0 a1_1 a1_2 a2 a3 = some (r1, r2, r3, r4)) :
    Calls Tryd.prog 17 #[.int .i64 a0, .agg #[.bool a1_0, .string a1_1, .int .i64 a1_2], .string a2, .int .i64 a3] w fun e w' => e = .returned (.tuple #[.agg #[.bool r1, .string r2, .int .i64 r3], .int .i64 r4]) ∧ Below w.heap.size w w' := by
  have hu23 := Tryd.underlying23
  have HB := Aside0.mk (Below.refl w.heap.size w)
  have H : (if a3 < a1_2 then (figureheadref05_Round.j0 k a0 a2 a3 a3 a1_0 a1_1 a1_2) else (figureheadref05_Round.j0 k a0 a2 a3 a1_2 a1_0 a1_1 a1_2)) = some (r1, r2, r3, r4) := h
  clear h
  have HC5 := Aside0.mk H
  clear H
  go_enter Tryd.func17, Tryd.ntmps17
  go_upto_if 21 with (first | ((with_reducible refine gate_dst (N := 5) rfl ?_); (try (refine gate_guard (by rfl) ?_; dsimp only)); refine box_event ?hg (N := 5) ?hd (cs := #[.bool a1_0, .string a1_1, .int .i64 a1_2]) (t := 23) ?hr ?_; (case hd => rfl); (case hg => rfl); (case hr => first | (go_simp; done) | (go_simp; rfl)); intro gb262 hg w6 hbox hb; have n0_ := Aside0.mk (below_step (by repeat (first | (with_reducible first | exact HB.out | apply below_alloc | apply pw_below_drewN | apply below_drew1) | exact HB.out)) hb); have n1_ := Aside0.mk (hbox); have n2_ := Aside0.mk ((by rw [hg]; exact (below_size (by repeat (first | (with_reducible first | exact HB.out | apply below_alloc | apply pw_below_drewN | apply below_drew1) | exact HB.out))) : w.heap.size ≤ gb262)); have n3_ := Aside0.mk ((by rw [hg]; exact (below_size (by repeat (first | (with_reducible first | exact HB.out | apply below_alloc | apply pw_below_drewN | apply below_drew1) | exact HB.out))) : w.heap.size ≤ gb262)); clear HB; have HB := n0_; have BK262 := n1_; have GW262 := n2_; have GE262 := n3_; clear n0_ n1_ n2_ n3_; clear hb hbox hg) | ((with_reducible refine gate_dst (N := 8) rfl ?_); (try (refine gate_guard (by rfl) ?_; dsimp only)); refine box_event ?hg (N := 8) ?hd (cs := #[.bool false, .string (⟨#[]⟩ : ByteArray), .int .i64 0]) (t := 23) ?hr ?_; (case hd => rfl); (case hg => rfl); (case hr => first | (go_simp; done) | (go_simp; rfl)); intro gb263 hg w7 hbox hb; have n0_ := Aside0.mk (blk_below (g := gb262) (o := .cells #[.bool a1_0, .string a1_1, .int .i64 a1_2] 23 (0, 0)) (by (with_reducible repeat (first | refine blk_drewN ?_ _ | refine blk_drew ?_ | refine blk_alloc ?_ _)); exact BK262.out) hb); have n1_ := Aside0.mk (below_step (by repeat (first | (with_reducible first | exact HB.out | apply below_alloc | apply pw_below_drewN | apply below_drew1 | refine below_set ?_ GE262.out) | exact HB.out)) hb); have n2_ := Aside0.mk (hbox); have n3_ := Aside0.mk ((by rw [hg]; exact (below_size (by repeat (first | (with_reducible first | exact HB.out | apply below_alloc | apply pw_below_drewN | apply below_drew1 | refine below_set ?_ GE262.out) | exact HB.out))) : w.heap.size ≤ gb263)); have n4_ := Aside0.mk ((by rw [hg]; exact (below_size (by repeat (first | (with_reducible first | exact HB.out | apply below_alloc | apply pw_below_drewN | apply below_drew1 | refine below_set ?_ GE262.out) | exact HB.out))) : w.heap.size ≤ gb263)); have n5_ := Aside0.mk ((by rw [hg]; exact Nat.ne_of_lt (blk_lt (g := gb262) (o := .cells #[.bool a1_0, .string a1_1, .int .i64 a1_2] 23 (0, 0)) (by (with_reducible repeat (first | refine blk_drewN ?_ _ | refine blk_drew ?_ | refine blk_alloc ?_ _)); exact BK262.out)) : gb262 ≠ gb263)); have n6_ := Aside0.mk ((by rw [hg]; exact Nat.ne_of_gt (blk_lt (g := gb262) (o := .cells #[.bool a1_0, .string a1_1, .int .i64 a1_2] 23 (0, 0)) (by (with_reducible repeat (first | refine blk_drewN ?_ _ | refine blk_drew ?_ | refine blk_alloc ?_ _)); exact BK262.out)) : gb263 ≠ gb262)); clear BK262; clear HB; have BK262 := n0_; have HB := n1_; have BK263 := n2_; have GW263 := n3_; have GE263 := n4_; have NB262_263 := n5_; have NB263_262 := n6_; clear n0_ n1_ n2_ n3_ n4_ n5_ n6_; clear hb hbox hg; have hnb8 := NB262_263.out; have hnc8 := NB263_262.out; have hcz9_0 : w7.cell? ⟨gb262, 0, none⟩ = some (.bool a1_0) := (blk_cell BK262.out 0).trans rfl; have hcz9_1 : w7.cell? ⟨gb262, 1, none⟩ = some (.string a1_1) := (blk_cell BK262.out 1).trans rfl; have hcz9_2 : w7.cell? ⟨gb262, 2, none⟩ = some (.int .i64 a1_2) := (blk_cell BK262.out 2).trans rfl; have hfz9_0 := blk_frozen BK262.out 0; have hfz9_1 := blk_frozen BK262.out 1; have hfz9_2 := blk_frozen BK262.out 2))
  (try simp only [Act.put, List.setIfInBounds_toArray, List.set_cons_zero, List.set_cons_succ])
  go_cut [10] (fun v10 wc => ∃ (kq : Nat) (x10_4 : Int), v10 = .int .i64 x10_4 ∧ Aside0 (figureheadref05_Round.j0 kq a0 a2 a3 x10_4 a1_0 a1_1 a1_2 = some (r1, r2, r3, r4)) ∧ Aside0 (kq ≤ k) ∧ Aside0 (wc.heap[gb262]? = some (.cells #[.bool a1_0, .string a1_1, .int .i64 a1_2] 23 (0, 0))) ∧ Aside0 (wc.heap[gb263]? = some (.cells #[.bool false, .string (⟨#[]⟩ : ByteArray), .int .i64 0] 23 (0, 0))) ∧ Aside0 (Below w.heap.size w wc))
  case first =>
    have H := HC5.out
    clear HC5
    by_cases c10 : a3 < a1_2
    · rw [if_pos c10] at H
      have c10b0 : decide (a3 < a1_2) = true := decide_eq_true c10
      clear c10
      (first | rw [c10b0] | (simp only [i64_w, i32_w]; rw [c10b0]) | skip)
      have H' := Aside0.mk H
      clear H
      go_wp2
      go_meet
      case rel => exact ⟨_, (a3), (by first | rfl | (simp; done) | (simp [*]; done) | (simp [*, Fig.bne_nil]; done)), H', ⟨by first | omega | exact Nat.le_refl _⟩, ⟨by (with_reducible repeat (first | refine blk_drewN ?_ _ | refine blk_drew ?_ | refine blk_alloc ?_ _)); exact BK262.out⟩, ⟨by (with_reducible repeat (first | refine blk_drewN ?_ _ | refine blk_drew ?_ | refine blk_alloc ?_ _)); exact BK263.out⟩, ⟨by repeat (first | (with_reducible first | exact HB.out | apply below_alloc | apply pw_below_drewN | apply below_drew1 | refine below_set ?_ GE262.out | refine below_set ?_ GE263.out) | exact HB.out)⟩⟩
    · rw [if_neg c10] at H
      have c10b0 : decide (a3 < a1_2) = false := decide_eq_false c10
      clear c10
      (first | rw [c10b0] | (simp only [i64_w, i32_w]; rw [c10b0]) | skip)
      have H' := Aside0.mk H
      clear H
      go_wp2
      go_meet
      case rel => exact ⟨_, (a1_2), (by first | rfl | (simp; done) | (simp [*]; done) | (simp [*, Fig.bne_nil]; done)), H', ⟨by first | omega | exact Nat.le_refl _⟩, ⟨by (with_reducible repeat (first | refine blk_drewN ?_ _ | refine blk_drew ?_ | refine blk_alloc ?_ _)); exact BK262.out⟩, ⟨by (with_reducible repeat (first | refine blk_drewN ?_ _ | refine blk_drew ?_ | refine blk_alloc ?_ _)); exact BK263.out⟩, ⟨by repeat (first | (with_reducible first | exact HB.out | apply below_alloc | apply pw_below_drewN | apply below_drew1 | refine below_set ?_ GE262.out | refine below_set ?_ GE263.out) | exact HB.out)⟩⟩
  case rest =>
    clear HC5
    try clear c1
    try clear p2
    try clear c8
    try clear c10
    try clear c10b0
    try clear hcz9_0
    try clear hcz9_1
    try clear hcz9_2
    try clear hfz9_0
    try clear hfz9_1
    try clear hfz9_2
    obtain ⟨kq, x10_4, rfl, HA, HJ4, BK262, BK263, HB⟩ := hcut
    cases kq with
    | zero => exact absurd HA.out (by simp [figureheadref05_Round.j0])
    | succ kj4 =>
      have H := HA.out
      clear HA
      simp only [figureheadref05_Round.j0] at H
      replace H := Option.bind_eq_some_iff.mp H
      obtain ⟨t264, A110, H⟩ := H
      replace H : ((figureheadref01_Zeros.f kj4 (wrap64 (a3 - x10_4))).bind fun t265 => (if t264.size + t265.size ≤ 9223372036854775807 then ((figureheadref05_At.f kj4 a1_0 a1_1 a1_2 x10_4).bind fun t266 => ((figureheadref01_Over.f kj4 t266 (t264 ++ t265)).bind fun bt267 => (if bt267.2.toList = ([] : List UInt8) then ((figureheadref05_Norm.f kj4 a1_0 a1_1 a1_2).bind fun bt269 => (some (bt269.1, bt269.2.1, bt269.2.2, 0))) else (if a0 = 7 then (some (false, (⟨#[]⟩ : ByteArray), 0, 11)) else ((figureheadref01_Plus.f kj4 bt267.2 bt267.2).bind fun t272 => ((figureheadref01_Less.f t272 (t264 ++ t265)).bind fun t273 => (if t273 = true then (figureheadref05_Round.j1 kj4 a0 x10_4 (t264 ++ t265) bt267.1 t272 (-1) a1_0 a1_1 a1_2) else (figureheadref05_Round.j1 kj4 a0 x10_4 (t264 ++ t265) bt267.1 t272 0 a1_0 a1_1 a1_2)))))))) else (none))) = some (r1, r2, r3, r4) := H
      have A11 := Aside0.mk A110
      clear A110
      replace H := Option.bind_eq_some_iff.mp H
      obtain ⟨t265, A120, H⟩ := H
      replace H : (if t264.size + t265.size ≤ 9223372036854775807 then ((figureheadref05_At.f kj4 a1_0 a1_1 a1_2 x10_4).bind fun t266 => ((figureheadref01_Over.f kj4 t266 (t264 ++ t265)).bind fun bt267 => (if bt267.2.toList = ([] : List UInt8) then ((figureheadref05_Norm.f kj4 a1_0 a1_1 a1_2).bind fun bt269 => (some (bt269.1, bt269.2.1, bt269.2.2, 0))) else (if a0 = 7 then (some (false, (⟨#[]⟩ : ByteArray), 0, 11)) else ((figureheadref01_Plus.f kj4 bt267.2 bt267.2).bind fun t272 => ((figureheadref01_Less.f t272 (t264 ++ t265)).bind fun t273 => (if t273 = true then (figureheadref05_Round.j1 kj4 a0 x10_4 (t264 ++ t265) bt267.1 t272 (-1) a1_0 a1_1 a1_2) else (figureheadref05_Round.j1 kj4 a0 x10_4 (t264 ++ t265) bt267.1 t272 0 a1_0 a1_1 a1_2)))))))) else (none)) = some (r1, r2, r3, r4) := H
      have A12 := Aside0.mk A120
      clear A120
      by_cases c13 : t264.size + t265.size ≤ 9223372036854775807
      · rw [if_pos c13] at H
        have c13b0 := eq_true c13
        have c13b1 : decide (t264.size + t265.size ≤ 9223372036854775807) = true := decide_eq_true c13
        try have c13b2 : (9223372036854775807 < t264.size + t265.size) = False := eq_false (Nat.not_lt.2 c13)
        replace H := Option.bind_eq_some_iff.mp H
        obtain ⟨t266, A140, H⟩ := H
        replace H : ((figureheadref01_Over.f kj4 t266 (t264 ++ t265)).bind fun bt267 => (if bt267.2.toList = ([] : List UInt8) then ((figureheadref05_Norm.f kj4 a1_0 a1_1 a1_2).bind fun bt269 => (some (bt269.1, bt269.2.1, bt269.2.2, 0))) else (if a0 = 7 then (some (false, (⟨#[]⟩ : ByteArray), 0, 11)) else ((figureheadref01_Plus.f kj4 bt267.2 bt267.2).bind fun t272 => ((figureheadref01_Less.f t272 (t264 ++ t265)).bind fun t273 => (if t273 = true then (figureheadref05_Round.j1 kj4 a0 x10_4 (t264 ++ t265) bt267.1 t272 (-1) a1_0 a1_1 a1_2) else (figureheadref05_Round.j1 kj4 a0 x10_4 (t264 ++ t265) bt267.1 t272 0 a1_0 a1_1 a1_2))))))) = some (r1, r2, r3, r4) := H
        have A14 := Aside0.mk A140
        clear A140
        replace H := Option.bind_eq_some_iff.mp H
        obtain ⟨⟨t267, t268⟩, A150, H⟩ := H
        replace H : (if t268.toList = ([] : List UInt8) then ((figureheadref05_Norm.f kj4 a1_0 a1_1 a1_2).bind fun bt269 => (some (bt269.1, bt269.2.1, bt269.2.2, 0))) else (if a0 = 7 then (some (false, (⟨#[]⟩ : ByteArray), 0, 11)) else ((figureheadref01_Plus.f kj4 t268 t268).bind fun t272 => ((figureheadref01_Less.f t272 (t264 ++ t265)).bind fun t273 => (if t273 = true then (figureheadref05_Round.j1 kj4 a0 x10_4 (t264 ++ t265) t267 t272 (-1) a1_0 a1_1 a1_2) else (figureheadref05_Round.j1 kj4 a0 x10_4 (t264 ++ t265) t267 t272 0 a1_0 a1_1 a1_2)))))) = some (r1, r2, r3, r4) := H
        have A15 := Aside0.mk A150
        clear A150
        by_cases c16 : t268.toList = ([] : List UInt8)
        · rw [if_pos c16] at H
          have c16b0 : (t268.toList == ([] : List UInt8)) = true := beq_iff_eq.mpr c16
          have c16b1 : (t268.toList != ([] : List UInt8)) = false := bne_eq_false_iff_eq.mpr c16
          clear c16
          replace H := Option.bind_eq_some_iff.mp H
          obtain ⟨⟨t269, t270, t271⟩, A170, H⟩ := H
          replace H : (some (t269, t270, t271, 0)) = some (r1, r2, r3, r4) := H
          have A17 := Aside0.mk A170
          clear A170
          simp only [Option.some.injEq, Prod.mk.injEq] at H
          obtain ⟨rfl, rfl, rfl, rfl⟩ := H
          go_wp2_with (first | ((with_reducible refine gate_callee (f := 38) rfl ?_); refine goesL_ (some 24) rfl rfl Tryd.func38 (by kernel_rfl) rfl #[.string a2] rfl (by (try simp only [List.map_toArray]); (try simp only [List.map_cons]); (try simp only [List.map_nil]); first | done | rfl | (simp only [List.length_drop, List.length_take]; rfl)) ?_; (with_reducible refine (figureheadref01_Strip.calls kj4 a2 t264 _ A11.out).mono ?_); rintro e w' ⟨rfl, ⟨nd, rfl⟩⟩; refine ⟨_, rfl, ?_⟩; (try (rw [drewN_self wc]; generalize hq_ : World.drewN wc _ = wc; have n0_ : Aside0 (wc.heap[gb262]? = some (.cells #[.bool a1_0, .string a1_1, .int .i64 a1_2] 23 (0, 0))) := ⟨by rw [← hq_]; exact (by (with_reducible repeat (first | refine blk_drewN ?_ _ | refine blk_drew ?_ | refine blk_alloc ?_ _)); exact BK262.out)⟩; have n1_ : Aside0 (wc.heap[gb263]? = some (.cells #[.bool false, .string (⟨#[]⟩ : ByteArray), .int .i64 0] 23 (0, 0))) := ⟨by rw [← hq_]; exact (by (with_reducible repeat (first | refine blk_drewN ?_ _ | refine blk_drew ?_ | refine blk_alloc ?_ _)); exact BK263.out)⟩; have n2_ : Aside0 (Below w.heap.size w wc) := ⟨by rw [← hq_]; exact (by repeat (first | (with_reducible first | exact HB.out | apply below_alloc | apply pw_below_drewN | apply below_drew1 | refine below_set ?_ GE262.out | refine below_set ?_ GE263.out) | exact HB.out))⟩; clear BK262 BK263 HB hq_; have BK262 := n0_; have BK263 := n1_; have HB := n2_; clear n0_ n1_ n2_)); (try (have hcz9013_0 : wc.cell? ⟨gb262, 0, none⟩ = some (.bool a1_0) := (blk_cell BK262.out 0).trans rfl)); (try (have hcz9013_1 : wc.cell? ⟨gb262, 1, none⟩ = some (.string a1_1) := (blk_cell BK262.out 1).trans rfl)); (try (have hcz9013_2 : wc.cell? ⟨gb262, 2, none⟩ = some (.int .i64 a1_2) := (blk_cell BK262.out 2).trans rfl)); (try (have hfz9013_0 := blk_frozen BK262.out 0)); (try (have hfz9013_1 := blk_frozen BK262.out 1)); (try (have hfz9013_2 := blk_frozen BK262.out 2)); (try (have hcz9014_0 : wc.cell? ⟨gb263, 0, none⟩ = some (.bool false) := (blk_cell BK263.out 0).trans rfl)); (try (have hcz9014_1 : wc.cell? ⟨gb263, 1, none⟩ = some (.string (⟨#[]⟩ : ByteArray)) := (blk_cell BK263.out 1).trans rfl)); (try (have hcz9014_2 : wc.cell? ⟨gb263, 2, none⟩ = some (.int .i64 0) := (blk_cell BK263.out 2).trans rfl)); (try (have hfz9014_0 := blk_frozen BK263.out 0)); (try (have hfz9014_1 := blk_frozen BK263.out 1)); (try (have hfz9014_2 := blk_frozen BK263.out 2))) | ((with_reducible refine gate_callee (f := 39) rfl ?_); refine goesL_ (some 28) rfl rfl Tryd.func39 (by kernel_rfl) rfl #[.int .i64 (wrap64 (a3 - x10_4))] rfl (by (try simp only [List.map_toArray]); (try simp only [List.map_cons]); (try simp only [List.map_nil]); first | done | rfl | (simp only [List.length_drop, List.length_take]; rfl)) ?_; (with_reducible refine (figureheadref01_Zeros.calls kj4 (wrap64 (a3 - x10_4)) t265 _ A12.out).mono ?_); rintro e w18 ⟨rfl, hb⟩; refine ⟨_, rfl, ?_⟩; have n0_ := Aside0.mk (blk_below (g := gb262) (o := .cells #[.bool a1_0, .string a1_1, .int .i64 a1_2] 23 (0, 0)) (by (with_reducible repeat (first | refine blk_drewN ?_ _ | refine blk_drew ?_ | refine blk_alloc ?_ _)); exact BK262.out) hb); have n1_ := Aside0.mk (blk_below (g := gb263) (o := .cells #[.bool false, .string (⟨#[]⟩ : ByteArray), .int .i64 0] 23 (0, 0)) (by (with_reducible repeat (first | refine blk_drewN ?_ _ | refine blk_drew ?_ | refine blk_alloc ?_ _)); exact BK263.out) hb); have n2_ := Aside0.mk (below_step (by repeat (first | (with_reducible first | exact HB.out | apply below_alloc | apply pw_below_drewN | apply below_drew1 | refine below_set ?_ GE262.out | refine below_set ?_ GE263.out) | exact HB.out)) hb); clear BK262; clear BK263; clear HB; have BK262 := n0_; have BK263 := n1_; have HB := n2_; clear n0_ n1_ n2_; (try clear hb); (try clear hb2); (try clear hk); (try clear hi); have hnb19 := NB262_263.out; have hnc19 := NB263_262.out; have hcz20_0 : w18.cell? ⟨gb262, 0, none⟩ = some (.bool a1_0) := (blk_cell BK262.out 0).trans rfl; have hcz20_1 : w18.cell? ⟨gb262, 1, none⟩ = some (.string a1_1) := (blk_cell BK262.out 1).trans rfl; have hcz20_2 : w18.cell? ⟨gb262, 2, none⟩ = some (.int .i64 a1_2) := (blk_cell BK262.out 2).trans rfl; have hfz20_0 := blk_frozen BK262.out 0; have hfz20_1 := blk_frozen BK262.out 1; have hfz20_2 := blk_frozen BK262.out 2) | ((with_reducible refine gate_callee (f := 41) rfl ?_); refine goesL_ (some 33) rfl rfl Tryd.func41 (by kernel_rfl) rfl #[.agg #[.bool a1_0, .string a1_1, .int .i64 a1_2], .int .i64 x10_4] rfl (by (try simp only [List.map_toArray]); (try simp only [List.map_cons]); (try simp only [List.map_nil]); first | done | rfl | (simp only [List.length_drop, List.length_take]; rfl)) ?_; (with_reducible refine (figureheadref05_At.calls kj4 a1_0 a1_1 a1_2 x10_4 t266 _ A14.out).mono ?_); rintro e w21 ⟨rfl, hb⟩; refine ⟨_, rfl, ?_⟩; have n0_ := Aside0.mk (blk_below (g := gb262) (o := .cells #[.bool a1_0, .string a1_1, .int .i64 a1_2] 23 (0, 0)) (by (with_reducible repeat (first | refine blk_drewN ?_ _ | refine blk_drew ?_ | refine blk_alloc ?_ _)); exact BK262.out) hb); have n1_ := Aside0.mk (blk_below (g := gb263) (o := .cells #[.bool false, .string (⟨#[]⟩ : ByteArray), .int .i64 0] 23 (0, 0)) (by (with_reducible repeat (first | refine blk_drewN ?_ _ | refine blk_drew ?_ | refine blk_alloc ?_ _)); exact BK263.out) hb); have n2_ := Aside0.mk (below_step (by repeat (first | (with_reducible first | exact HB.out | apply below_alloc | apply pw_below_drewN | apply below_drew1 | refine below_set ?_ GE262.out | refine below_set ?_ GE263.out) | exact HB.out)) hb); clear BK262; clear BK263; clear HB; have BK262 := n0_; have BK263 := n1_; have HB := n2_; clear n0_ n1_ n2_; (try clear hb); (try clear hb2); (try clear hk); (try clear hi)) | ((with_reducible refine gate_callee (f := 40) rfl ?_); refine goesL_ (some 35) rfl rfl Tryd.func40 (by kernel_rfl) rfl #[.string t266, .string (t264 ++ t265)] rfl (by (try simp only [List.map_toArray]); (try simp only [List.map_cons]); (try simp only [List.map_nil]); first | done | rfl | (simp only [List.length_drop, List.length_take]; rfl)) ?_; (with_reducible refine (figureheadref01_Over.calls kj4 t266 (t264 ++ t265) t267 t268 _ A15.out).mono ?_); rintro e w22 ⟨rfl, hb⟩; refine ⟨_, rfl, ?_⟩; have n0_ := Aside0.mk (blk_below (g := gb262) (o := .cells #[.bool a1_0, .string a1_1, .int .i64 a1_2] 23 (0, 0)) (by (with_reducible repeat (first | refine blk_drewN ?_ _ | refine blk_drew ?_ | refine blk_alloc ?_ _)); exact BK262.out) hb); have n1_ := Aside0.mk (blk_below (g := gb263) (o := .cells #[.bool false, .string (⟨#[]⟩ : ByteArray), .int .i64 0] 23 (0, 0)) (by (with_reducible repeat (first | refine blk_drewN ?_ _ | refine blk_drew ?_ | refine blk_alloc ?_ _)); exact BK263.out) hb); have n2_ := Aside0.mk (below_step (by repeat (first | (with_reducible first | exact HB.out | apply below_alloc | apply pw_below_drewN | apply below_drew1 | refine below_set ?_ GE262.out | refine below_set ?_ GE263.out) | exact HB.out)) hb); clear BK262; clear BK263; clear HB; have BK262 := n0_; have BK263 := n1_; have HB := n2_; clear n0_ n1_ n2_; (try clear hb); (try clear hb2); (try clear hk); (try clear hi); have hcz23_0 : w22.cell? ⟨gb262, 0, none⟩ = some (.bool a1_0) := (blk_cell BK262.out 0).trans rfl; have hcz23_1 : w22.cell? ⟨gb262, 1, none⟩ = some (.string a1_1) := (blk_cell BK262.out 1).trans rfl; have hcz23_2 : w22.cell? ⟨gb262, 2, none⟩ = some (.int .i64 a1_2) := (blk_cell BK262.out 2).trans rfl; have hfz23_0 := blk_frozen BK262.out 0; have hfz23_1 := blk_frozen BK262.out 1; have hfz23_2 := blk_frozen BK262.out 2) | ((with_reducible refine gate_callee (f := 19) rfl ?_); refine goesL_ (some 41) rfl rfl Tryd.func19 (by kernel_rfl) rfl #[.agg #[.bool a1_0, .string a1_1, .int .i64 a1_2]] rfl (by (try simp only [List.map_toArray]); (try simp only [List.map_cons]); (try simp only [List.map_nil]); first | done | rfl | (simp only [List.length_drop, List.length_take]; rfl)) ?_; (with_reducible refine (figureheadref05_Norm.calls kj4 a1_0 a1_1 a1_2 t269 t270 t271 _ A17.out).mono ?_); rintro e w24 ⟨rfl, hb⟩; refine ⟨_, rfl, ?_⟩; have n0_ := Aside0.mk (blk_below (g := gb262) (o := .cells #[.bool a1_0, .string a1_1, .int .i64 a1_2] 23 (0, 0)) (by (with_reducible repeat (first | refine blk_drewN ?_ _ | refine blk_drew ?_ | refine blk_alloc ?_ _)); exact BK262.out) hb); have n1_ := Aside0.mk (blk_below (g := gb263) (o := .cells #[.bool false, .string (⟨#[]⟩ : ByteArray), .int .i64 0] 23 (0, 0)) (by (with_reducible repeat (first | refine blk_drewN ?_ _ | refine blk_drew ?_ | refine blk_alloc ?_ _)); exact BK263.out) hb); have n2_ := Aside0.mk (below_step (by repeat (first | (with_reducible first | exact HB.out | apply below_alloc | apply pw_below_drewN | apply below_drew1 | refine below_set ?_ GE262.out | refine below_set ?_ GE263.out) | exact HB.out)) hb); clear BK262; clear BK263; clear HB; have BK262 := n0_; have BK263 := n1_; have HB := n2_; clear n0_ n1_ n2_; (try clear hb); (try clear hb2); (try clear hk); (try clear hi); have hcz25_0 : w24.cell? ⟨gb263, 0, none⟩ = some (.bool false) := (blk_cell BK263.out 0).trans rfl; have hcz25_1 : w24.cell? ⟨gb263, 1, none⟩ = some (.string (⟨#[]⟩ : ByteArray)) := (blk_cell BK263.out 1).trans rfl; have hcz25_2 : w24.cell? ⟨gb263, 2, none⟩ = some (.int .i64 0) := (blk_cell BK263.out 2).trans rfl; have hfz25_0 := blk_frozen BK263.out 0; have hfz25_1 := blk_frozen BK263.out 1; have hfz25_2 := blk_frozen BK263.out 2))
          refine bodyPost_ret (results_ct rfl _ _ gb263 23 #[.bool t269, .string t270, .int .i64 t271] (0, 0) _ rfl (by (with_reducible repeat (first | refine blk_drewN ?_ _ | refine blk_drew ?_ | refine blk_alloc ?_ _)); refine blk_put (cs := #[.bool t269, .string t270, .int .i64 0]) ?_ 2 _ rfl; (with_reducible repeat (first | refine blk_drewN ?_ _ | refine blk_drew ?_ | refine blk_alloc ?_ _)); refine blk_put (cs := #[.bool t269, .string (⟨#[]⟩ : ByteArray), .int .i64 0]) ?_ 1 _ rfl; (with_reducible repeat (first | refine blk_drewN ?_ _ | refine blk_drew ?_ | refine blk_alloc ?_ _)); refine blk_put (cs := #[.bool false, .string (⟨#[]⟩ : ByteArray), .int .i64 0]) ?_ 0 _ rfl; (with_reducible repeat (first | refine blk_drewN ?_ _ | refine blk_drew ?_ | refine blk_alloc ?_ _)); exact BK263.out) Tryd.underlying23 rfl (by kernel_rfl)) rfl ?_
          exact ⟨by first | rfl | (simp [errW_none, errW_some] <;> rfl) | (simp [*, errW_none, errW_some] <;> rfl), by repeat (first | (with_reducible first | exact HB.out | apply below_alloc | apply pw_below_drewN | apply below_drew1 | refine below_set ?_ GE262.out | refine below_set ?_ GE263.out) | exact HB.out)⟩
        · rw [if_neg c16] at H
          have c16b0 : (t268.toList == ([] : List UInt8)) = false := beq_eq_false_iff_ne.mpr c16
          have c16b1 : (t268.toList != ([] : List UInt8)) = true := bne_iff_ne.mpr c16
          by_cases c26 : a0 = 7
          · rw [if_pos c26] at H
            have c26b0 : (a0 == 7) = true := beq_iff_eq.mpr c26
            have c26b1 : (a0 != 7) = false := bne_eq_false_iff_eq.mpr c26
            clear c26
            simp only [Option.some.injEq, Prod.mk.injEq] at H
            obtain ⟨rfl, rfl, rfl, rfl⟩ := H
            go_wp2_with (first | ((with_reducible refine gate_callee (f := 38) rfl ?_); refine goesL_ (some 24) rfl rfl Tryd.func38 (by kernel_rfl) rfl #[.string a2] rfl (by (try simp only [List.map_toArray]); (try simp only [List.map_cons]); (try simp only [List.map_nil]); first | done | rfl | (simp only [List.length_drop, List.length_take]; rfl)) ?_; (with_reducible refine (figureheadref01_Strip.calls kj4 a2 t264 _ A11.out).mono ?_); rintro e w' ⟨rfl, ⟨nd, rfl⟩⟩; refine ⟨_, rfl, ?_⟩; (try (rw [drewN_self wc]; generalize hq_ : World.drewN wc _ = wc; have n0_ : Aside0 (wc.heap[gb262]? = some (.cells #[.bool a1_0, .string a1_1, .int .i64 a1_2] 23 (0, 0))) := ⟨by rw [← hq_]; exact (by (with_reducible repeat (first | refine blk_drewN ?_ _ | refine blk_drew ?_ | refine blk_alloc ?_ _)); exact BK262.out)⟩; have n1_ : Aside0 (wc.heap[gb263]? = some (.cells #[.bool false, .string (⟨#[]⟩ : ByteArray), .int .i64 0] 23 (0, 0))) := ⟨by rw [← hq_]; exact (by (with_reducible repeat (first | refine blk_drewN ?_ _ | refine blk_drew ?_ | refine blk_alloc ?_ _)); exact BK263.out)⟩; have n2_ : Aside0 (Below w.heap.size w wc) := ⟨by rw [← hq_]; exact (by repeat (first | (with_reducible first | exact HB.out | apply below_alloc | apply pw_below_drewN | apply below_drew1 | refine below_set ?_ GE262.out | refine below_set ?_ GE263.out) | exact HB.out))⟩; clear BK262 BK263 HB hq_; have BK262 := n0_; have BK263 := n1_; have HB := n2_; clear n0_ n1_ n2_)); (try (have hcz9015_0 : wc.cell? ⟨gb262, 0, none⟩ = some (.bool a1_0) := (blk_cell BK262.out 0).trans rfl)); (try (have hcz9015_1 : wc.cell? ⟨gb262, 1, none⟩ = some (.string a1_1) := (blk_cell BK262.out 1).trans rfl)); (try (have hcz9015_2 : wc.cell? ⟨gb262, 2, none⟩ = some (.int .i64 a1_2) := (blk_cell BK262.out 2).trans rfl)); (try (have hfz9015_0 := blk_frozen BK262.out 0)); (try (have hfz9015_1 := blk_frozen BK262.out 1)); (try (have hfz9015_2 := blk_frozen BK262.out 2)); (try (have hcz9016_0 : wc.cell? ⟨gb263, 0, none⟩ = some (.bool false) := (blk_cell BK263.out 0).trans rfl)); (try (have hcz9016_1 : wc.cell? ⟨gb263, 1, none⟩ = some (.string (⟨#[]⟩ : ByteArray)) := (blk_cell BK263.out 1).trans rfl)); (try (have hcz9016_2 : wc.cell? ⟨gb263, 2, none⟩ = some (.int .i64 0) := (blk_cell BK263.out 2).trans rfl)); (try (have hfz9016_0 := blk_frozen BK263.out 0)); (try (have hfz9016_1 := blk_frozen BK263.out 1)); (try (have hfz9016_2 := blk_frozen BK263.out 2))) | ((with_reducible refine gate_callee (f := 39) rfl ?_); refine goesL_ (some 28) rfl rfl Tryd.func39 (by kernel_rfl) rfl #[.int .i64 (wrap64 (a3 - x10_4))] rfl (by (try simp only [List.map_toArray]); (try simp only [List.map_cons]); (try simp only [List.map_nil]); first | done | rfl | (simp only [List.length_drop, List.length_take]; rfl)) ?_; (with_reducible refine (figureheadref01_Zeros.calls kj4 (wrap64 (a3 - x10_4)) t265 _ A12.out).mono ?_); rintro e w27 ⟨rfl, hb⟩; refine ⟨_, rfl, ?_⟩; have n0_ := Aside0.mk (blk_below (g := gb262) (o := .cells #[.bool a1_0, .string a1_1, .int .i64 a1_2] 23 (0, 0)) (by (with_reducible repeat (first | refine blk_drewN ?_ _ | refine blk_drew ?_ | refine blk_alloc ?_ _)); exact BK262.out) hb); have n1_ := Aside0.mk (blk_below (g := gb263) (o := .cells #[.bool false, .string (⟨#[]⟩ : ByteArray), .int .i64 0] 23 (0, 0)) (by (with_reducible repeat (first | refine blk_drewN ?_ _ | refine blk_drew ?_ | refine blk_alloc ?_ _)); exact BK263.out) hb); have n2_ := Aside0.mk (below_step (by repeat (first | (with_reducible first | exact HB.out | apply below_alloc | apply pw_below_drewN | apply below_drew1 | refine below_set ?_ GE262.out | refine below_set ?_ GE263.out) | exact HB.out)) hb); clear BK262; clear BK263; clear HB; have BK262 := n0_; have BK263 := n1_; have HB := n2_; clear n0_ n1_ n2_; (try clear hb); (try clear hb2); (try clear hk); (try clear hi); have hnb28 := NB262_263.out; have hnc28 := NB263_262.out; have hcz29_0 : w27.cell? ⟨gb262, 0, none⟩ = some (.bool a1_0) := (blk_cell BK262.out 0).trans rfl; have hcz29_1 : w27.cell? ⟨gb262, 1, none⟩ = some (.string a1_1) := (blk_cell BK262.out 1).trans rfl; have hcz29_2 : w27.cell? ⟨gb262, 2, none⟩ = some (.int .i64 a1_2) := (blk_cell BK262.out 2).trans rfl; have hfz29_0 := blk_frozen BK262.out 0; have hfz29_1 := blk_frozen BK262.out 1; have hfz29_2 := blk_frozen BK262.out 2) | ((with_reducible refine gate_callee (f := 41) rfl ?_); refine goesL_ (some 33) rfl rfl Tryd.func41 (by kernel_rfl) rfl #[.agg #[.bool a1_0, .string a1_1, .int .i64 a1_2], .int .i64 x10_4] rfl (by (try simp only [List.map_toArray]); (try simp only [List.map_cons]); (try simp only [List.map_nil]); first | done | rfl | (simp only [List.length_drop, List.length_take]; rfl)) ?_; (with_reducible refine (figureheadref05_At.calls kj4 a1_0 a1_1 a1_2 x10_4 t266 _ A14.out).mono ?_); rintro e w30 ⟨rfl, hb⟩; refine ⟨_, rfl, ?_⟩; have n0_ := Aside0.mk (blk_below (g := gb262) (o := .cells #[.bool a1_0, .string a1_1, .int .i64 a1_2] 23 (0, 0)) (by (with_reducible repeat (first | refine blk_drewN ?_ _ | refine blk_drew ?_ | refine blk_alloc ?_ _)); exact BK262.out) hb); have n1_ := Aside0.mk (blk_below (g := gb263) (o := .cells #[.bool false, .string (⟨#[]⟩ : ByteArray), .int .i64 0] 23 (0, 0)) (by (with_reducible repeat (first | refine blk_drewN ?_ _ | refine blk_drew ?_ | refine blk_alloc ?_ _)); exact BK263.out) hb); have n2_ := Aside0.mk (below_step (by repeat (first | (with_reducible first | exact HB.out | apply below_alloc | apply pw_below_drewN | apply below_drew1 | refine below_set ?_ GE262.out | refine below_set ?_ GE263.out) | exact HB.out)) hb); clear BK262; clear BK263; clear HB; have BK262 := n0_; have BK263 := n1_; have HB := n2_; clear n0_ n1_ n2_; (try clear hb); (try clear hb2); (try clear hk); (try clear hi)) | ((with_reducible refine gate_callee (f := 40) rfl ?_); refine goesL_ (some 35) rfl rfl Tryd.func40 (by kernel_rfl) rfl #[.string t266, .string (t264 ++ t265)] rfl (by (try simp only [List.map_toArray]); (try simp only [List.map_cons]); (try simp only [List.map_nil]); first | done | rfl | (simp only [List.length_drop, List.length_take]; rfl)) ?_; (with_reducible refine (figureheadref01_Over.calls kj4 t266 (t264 ++ t265) t267 t268 _ A15.out).mono ?_); rintro e w31 ⟨rfl, hb⟩; refine ⟨_, rfl, ?_⟩; have n0_ := Aside0.mk (blk_below (g := gb262) (o := .cells #[.bool a1_0, .string a1_1, .int .i64 a1_2] 23 (0, 0)) (by (with_reducible repeat (first | refine blk_drewN ?_ _ | refine blk_drew ?_ | refine blk_alloc ?_ _)); exact BK262.out) hb); have n1_ := Aside0.mk (blk_below (g := gb263) (o := .cells #[.bool false, .string (⟨#[]⟩ : ByteArray), .int .i64 0] 23 (0, 0)) (by (with_reducible repeat (first | refine blk_drewN ?_ _ | refine blk_drew ?_ | refine blk_alloc ?_ _)); exact BK263.out) hb); have n2_ := Aside0.mk (below_step (by repeat (first | (with_reducible first | exact HB.out | apply below_alloc | apply pw_below_drewN | apply below_drew1 | refine below_set ?_ GE262.out | refine below_set ?_ GE263.out) | exact HB.out)) hb); clear BK262; clear BK263; clear HB; have BK262 := n0_; have BK263 := n1_; have HB := n2_; clear n0_ n1_ n2_; (try clear hb); (try clear hb2); (try clear hk); (try clear hi); have hcz32_0 : w31.cell? ⟨gb263, 0, none⟩ = some (.bool false) := (blk_cell BK263.out 0).trans rfl; have hcz32_1 : w31.cell? ⟨gb263, 1, none⟩ = some (.string (⟨#[]⟩ : ByteArray)) := (blk_cell BK263.out 1).trans rfl; have hcz32_2 : w31.cell? ⟨gb263, 2, none⟩ = some (.int .i64 0) := (blk_cell BK263.out 2).trans rfl; have hfz32_0 := blk_frozen BK263.out 0; have hfz32_1 := blk_frozen BK263.out 1; have hfz32_2 := blk_frozen BK263.out 2))
            refine bodyPost_ret (results_ct rfl _ _ gb263 23 #[.bool false, .string (⟨#[]⟩ : ByteArray), .int .i64 0] (0, 0) _ rfl (by (with_reducible repeat (first | refine blk_drewN ?_ _ | refine blk_drew ?_ | refine blk_alloc ?_ _)); refine blk_put (cs := #[.bool false, .string (⟨#[]⟩ : ByteArray), .int .i64 0]) ?_ 2 _ rfl; (with_reducible repeat (first | refine blk_drewN ?_ _ | refine blk_drew ?_ | refine blk_alloc ?_ _)); refine blk_put (cs := #[.bool false, .string (⟨#[]⟩ : ByteArray), .int .i64 0]) ?_ 1 _ rfl; (with_reducible repeat (first | refine blk_drewN ?_ _ | refine blk_drew ?_ | refine blk_alloc ?_ _)); refine blk_put (cs := #[.bool false, .string (⟨#[]⟩ : ByteArray), .int .i64 0]) ?_ 0 _ rfl; (with_reducible repeat (first | refine blk_drewN ?_ _ | refine blk_drew ?_ | refine blk_alloc ?_ _)); exact BK263.out) Tryd.underlying23 rfl (by kernel_rfl)) rfl ?_
            exact ⟨by first | rfl | (simp [errW_none, errW_some] <;> rfl) | (simp [*, errW_none, errW_some] <;> rfl), by repeat (first | (with_reducible first | exact HB.out | apply below_alloc | apply pw_below_drewN | apply below_drew1 | refine below_set ?_ GE262.out | refine below_set ?_ GE263.out) | exact HB.out)⟩
          · rw [if_neg c26] at H
            have c26b0 : (a0 == 7) = false := beq_eq_false_iff_ne.mpr c26
            have c26b1 : (a0 != 7) = true := bne_iff_ne.mpr c26
            replace H := Option.bind_eq_some_iff.mp H
            obtain ⟨t272, A330, H⟩ := H
            replace H : ((figureheadref01_Less.f t272 (t264 ++ t265)).bind fun t273 => (if t273 = true then (figureheadref05_Round.j1 kj4 a0 x10_4 (t264 ++ t265) t267 t272 (-1) a1_0 a1_1 a1_2) else (figureheadref05_Round.j1 kj4 a0 x10_4 (t264 ++ t265) t267 t272 0 a1_0 a1_1 a1_2))) = some (r1, r2, r3, r4) := H
            have A33 := Aside0.mk A330
            clear A330
            replace H := Option.bind_eq_some_iff.mp H
            obtain ⟨t273, A340, H⟩ := H
            replace H : (if t273 = true then (figureheadref05_Round.j1 kj4 a0 x10_4 (t264 ++ t265) t267 t272 (-1) a1_0 a1_1 a1_2) else (figureheadref05_Round.j1 kj4 a0 x10_4 (t264 ++ t265) t267 t272 0 a1_0 a1_1 a1_2)) = some (r1, r2, r3, r4) := H
            have A34 := Aside0.mk A340
            clear A340
            have HC35 := Aside0.mk H
            clear H
            go_upto_if 50 with (first | ((with_reducible refine gate_callee (f := 38) rfl ?_); refine goesL_ (some 24) rfl rfl Tryd.func38 (by kernel_rfl) rfl #[.string a2] rfl (by (try simp only [List.map_toArray]); (try simp only [List.map_cons]); (try simp only [List.map_nil]); first | done | rfl | (simp only [List.length_drop, List.length_take]; rfl)) ?_; (with_reducible refine (figureheadref01_Strip.calls kj4 a2 t264 _ A11.out).mono ?_); rintro e w' ⟨rfl, ⟨nd, rfl⟩⟩; refine ⟨_, rfl, ?_⟩) | ((with_reducible refine gate_callee (f := 39) rfl ?_); refine goesL_ (some 28) rfl rfl Tryd.func39 (by kernel_rfl) rfl #[.int .i64 (wrap64 (a3 - x10_4))] rfl (by (try simp only [List.map_toArray]); (try simp only [List.map_cons]); (try simp only [List.map_nil]); first | done | rfl | (simp only [List.length_drop, List.length_take]; rfl)) ?_; (with_reducible refine (figureheadref01_Zeros.calls kj4 (wrap64 (a3 - x10_4)) t265 _ A12.out).mono ?_); rintro e w36 ⟨rfl, hb⟩; refine ⟨_, rfl, ?_⟩; have n0_ := Aside0.mk (blk_below (g := gb262) (o := .cells #[.bool a1_0, .string a1_1, .int .i64 a1_2] 23 (0, 0)) (by (with_reducible repeat (first | refine blk_drewN ?_ _ | refine blk_drew ?_ | refine blk_alloc ?_ _)); exact BK262.out) hb); have n1_ := Aside0.mk (blk_below (g := gb263) (o := .cells #[.bool false, .string (⟨#[]⟩ : ByteArray), .int .i64 0] 23 (0, 0)) (by (with_reducible repeat (first | refine blk_drewN ?_ _ | refine blk_drew ?_ | refine blk_alloc ?_ _)); exact BK263.out) hb); have n2_ := Aside0.mk (below_step (by repeat (first | (with_reducible first | exact HB.out | apply below_alloc | apply pw_below_drewN | apply below_drew1 | refine below_set ?_ GE262.out | refine below_set ?_ GE263.out) | exact HB.out)) hb); clear BK262; clear BK263; clear HB; have BK262 := n0_; have BK263 := n1_; have HB := n2_; clear n0_ n1_ n2_; (try clear hb); (try clear hb2); (try clear hk); (try clear hi); have hnb37 := NB262_263.out; have hnc37 := NB263_262.out; have hcz38_0 : w36.cell? ⟨gb262, 0, none⟩ = some (.bool a1_0) := (blk_cell BK262.out 0).trans rfl; have hcz38_1 : w36.cell? ⟨gb262, 1, none⟩ = some (.string a1_1) := (blk_cell BK262.out 1).trans rfl; have hcz38_2 : w36.cell? ⟨gb262, 2, none⟩ = some (.int .i64 a1_2) := (blk_cell BK262.out 2).trans rfl; have hfz38_0 := blk_frozen BK262.out 0; have hfz38_1 := blk_frozen BK262.out 1; have hfz38_2 := blk_frozen BK262.out 2) | ((with_reducible refine gate_callee (f := 41) rfl ?_); refine goesL_ (some 33) rfl rfl Tryd.func41 (by kernel_rfl) rfl #[.agg #[.bool a1_0, .string a1_1, .int .i64 a1_2], .int .i64 x10_4] rfl (by (try simp only [List.map_toArray]); (try simp only [List.map_cons]); (try simp only [List.map_nil]); first | done | rfl | (simp only [List.length_drop, List.length_take]; rfl)) ?_; (with_reducible refine (figureheadref05_At.calls kj4 a1_0 a1_1 a1_2 x10_4 t266 _ A14.out).mono ?_); rintro e w39 ⟨rfl, hb⟩; refine ⟨_, rfl, ?_⟩; have n0_ := Aside0.mk (blk_below (g := gb262) (o := .cells #[.bool a1_0, .string a1_1, .int .i64 a1_2] 23 (0, 0)) (by (with_reducible repeat (first | refine blk_drewN ?_ _ | refine blk_drew ?_ | refine blk_alloc ?_ _)); exact BK262.out) hb); have n1_ := Aside0.mk (blk_below (g := gb263) (o := .cells #[.bool false, .string (⟨#[]⟩ : ByteArray), .int .i64 0] 23 (0, 0)) (by (with_reducible repeat (first | refine blk_drewN ?_ _ | refine blk_drew ?_ | refine blk_alloc ?_ _)); exact BK263.out) hb); have n2_ := Aside0.mk (below_step (by repeat (first | (with_reducible first | exact HB.out | apply below_alloc | apply pw_below_drewN | apply below_drew1 | refine below_set ?_ GE262.out | refine below_set ?_ GE263.out) | exact HB.out)) hb); clear BK262; clear BK263; clear HB; have BK262 := n0_; have BK263 := n1_; have HB := n2_; clear n0_ n1_ n2_; (try clear hb); (try clear hb2); (try clear hk); (try clear hi)) | ((with_reducible refine gate_callee (f := 40) rfl ?_); refine goesL_ (some 35) rfl rfl Tryd.func40 (by kernel_rfl) rfl #[.string t266, .string (t264 ++ t265)] rfl (by (try simp only [List.map_toArray]); (try simp only [List.map_cons]); (try simp only [List.map_nil]); first | done | rfl | (simp only [List.length_drop, List.length_take]; rfl)) ?_; (with_reducible refine (figureheadref01_Over.calls kj4 t266 (t264 ++ t265) t267 t268 _ A15.out).mono ?_); rintro e w40 ⟨rfl, hb⟩; refine ⟨_, rfl, ?_⟩; have n0_ := Aside0.mk (blk_below (g := gb262) (o := .cells #[.bool a1_0, .string a1_1, .int .i64 a1_2] 23 (0, 0)) (by (with_reducible repeat (first | refine blk_drewN ?_ _ | refine blk_drew ?_ | refine blk_alloc ?_ _)); exact BK262.out) hb); have n1_ := Aside0.mk (blk_below (g := gb263) (o := .cells #[.bool false, .string (⟨#[]⟩ : ByteArray), .int .i64 0] 23 (0, 0)) (by (with_reducible repeat (first | refine blk_drewN ?_ _ | refine blk_drew ?_ | refine blk_alloc ?_ _)); exact BK263.out) hb); have n2_ := Aside0.mk (below_step (by repeat (first | (with_reducible first | exact HB.out | apply below_alloc | apply pw_below_drewN | apply below_drew1 | refine below_set ?_ GE262.out | refine below_set ?_ GE263.out) | exact HB.out)) hb); clear BK262; clear BK263; clear HB; have BK262 := n0_; have BK263 := n1_; have HB := n2_; clear n0_ n1_ n2_; (try clear hb); (try clear hb2); (try clear hk); (try clear hi)) | ((with_reducible refine gate_callee (f := 42) rfl ?_); refine goesL_ (some 47) rfl rfl Tryd.func42 (by kernel_rfl) rfl #[.string t268, .string t268] rfl (by (try simp only [List.map_toArray]); (try simp only [List.map_cons]); (try simp only [List.map_nil]); first | done | rfl | (simp only [List.length_drop, List.length_take]; rfl)) ?_; (with_reducible refine (figureheadref01_Plus.calls kj4 t268 t268 t272 _ A33.out).mono ?_); rintro e w41 ⟨rfl, hb⟩; refine ⟨_, rfl, ?_⟩; have n0_ := Aside0.mk (blk_below (g := gb262) (o := .cells #[.bool a1_0, .string a1_1, .int .i64 a1_2] 23 (0, 0)) (by (with_reducible repeat (first | refine blk_drewN ?_ _ | refine blk_drew ?_ | refine blk_alloc ?_ _)); exact BK262.out) hb); have n1_ := Aside0.mk (blk_below (g := gb263) (o := .cells #[.bool false, .string (⟨#[]⟩ : ByteArray), .int .i64 0] 23 (0, 0)) (by (with_reducible repeat (first | refine blk_drewN ?_ _ | refine blk_drew ?_ | refine blk_alloc ?_ _)); exact BK263.out) hb); have n2_ := Aside0.mk (below_step (by repeat (first | (with_reducible first | exact HB.out | apply below_alloc | apply pw_below_drewN | apply below_drew1 | refine below_set ?_ GE262.out | refine below_set ?_ GE263.out) | exact HB.out)) hb); clear BK262; clear BK263; clear HB; have BK262 := n0_; have BK263 := n1_; have HB := n2_; clear n0_ n1_ n2_; (try clear hb); (try clear hb2); (try clear hk); (try clear hi)) | ((with_reducible refine gate_callee (f := 43) rfl ?_); refine goesL_ (some 50) rfl rfl Tryd.func43 (by kernel_rfl) rfl #[.string t272, .string (t264 ++ t265)] rfl (by (try simp only [List.map_toArray]); (try simp only [List.map_cons]); (try simp only [List.map_nil]); first | done | rfl | (simp only [List.length_drop, List.length_take]; rfl)) ?_; (with_reducible refine (figureheadref01_Less.calls t272 (t264 ++ t265) t273 _ A34.out).mono ?_); rintro e w' ⟨rfl, ⟨nd, rfl⟩⟩; refine ⟨_, rfl, ?_⟩))
            (try simp only [Act.put, List.setIfInBounds_toArray, List.set_cons_zero, List.set_cons_succ])
            go_cut [15] (fun v15 wc => ∃ (kq : Nat) (x15_34 : Int), v15 = .int .i64 x15_34 ∧ Aside0 (figureheadref05_Round.j1 kq a0 x10_4 (t264 ++ t265) t267 t272 x15_34 a1_0 a1_1 a1_2 = some (r1, r2, r3, r4)) ∧ Aside0 (kq ≤ kj4) ∧ Aside0 (wc.heap[gb262]? = some (.cells #[.bool a1_0, .string a1_1, .int .i64 a1_2] 23 (0, 0))) ∧ Aside0 (wc.heap[gb263]? = some (.cells #[.bool false, .string (⟨#[]⟩ : ByteArray), .int .i64 0] 23 (0, 0))) ∧ Aside0 (Below w.heap.size w wc))
            case first =>
              have H := HC35.out
              clear HC35
              by_cases c42 : t273 = true
              · subst c42
                have H1 : (figureheadref05_Round.j1 kj4 a0 x10_4 (t264 ++ t265) t267 t272 (-1) a1_0 a1_1 a1_2) = some (r1, r2, r3, r4) := by rw [if_pos rfl] at H; exact H
                clear H
                have H := H1
                clear H1
                have H' := Aside0.mk H
                clear H
                go_wp2
                go_meet
                case rel => exact ⟨_, ((-1)), (by first | rfl | (simp; done) | (simp [*]; done) | (simp [*, Fig.bne_nil]; done)), H', ⟨by have := HJ4.out; first | omega | exact Nat.le_refl _⟩, ⟨by (with_reducible repeat (first | refine blk_drewN ?_ _ | refine blk_drew ?_ | refine blk_alloc ?_ _)); exact BK262.out⟩, ⟨by (with_reducible repeat (first | refine blk_drewN ?_ _ | refine blk_drew ?_ | refine blk_alloc ?_ _)); exact BK263.out⟩, ⟨by repeat (first | (with_reducible first | exact HB.out | apply below_alloc | apply pw_below_drewN | apply below_drew1 | refine below_set ?_ GE262.out | refine below_set ?_ GE263.out) | exact HB.out)⟩⟩
              · replace c42 := Bool.eq_false_iff.mpr c42
                subst c42
                have H1 : (figureheadref05_Round.j1 kj4 a0 x10_4 (t264 ++ t265) t267 t272 0 a1_0 a1_1 a1_2) = some (r1, r2, r3, r4) := by rw [if_neg (show ¬ (false = true) by decide)] at H; exact H
                clear H
                have H := H1
                clear H1
                have H' := Aside0.mk H
                clear H
                go_wp2
                go_meet
                case rel => exact ⟨_, (0), (by first | rfl | (simp; done) | (simp [*]; done) | (simp [*, Fig.bne_nil]; done)), H', ⟨by have := HJ4.out; first | omega | exact Nat.le_refl _⟩, ⟨by (with_reducible repeat (first | refine blk_drewN ?_ _ | refine blk_drew ?_ | refine blk_alloc ?_ _)); exact BK262.out⟩, ⟨by (with_reducible repeat (first | refine blk_drewN ?_ _ | refine blk_drew ?_ | refine blk_alloc ?_ _)); exact BK263.out⟩, ⟨by repeat (first | (with_reducible first | exact HB.out | apply below_alloc | apply pw_below_drewN | apply below_drew1 | refine below_set ?_ GE262.out | refine below_set ?_ GE263.out) | exact HB.out)⟩⟩
            case rest =>
              clear HC35
              try clear c1
              try clear c2
              try clear p2
              try clear c3
              try clear c4
              try clear p6
              try clear c8
              try clear c10
              try clear c10b0
              try clear c13
              try clear c13b0
              try clear c13b1
              try clear c13b2
              try clear c16
              try clear c16b0
              try clear c16b1
              try clear c17
              try clear c19
              try clear c26
              try clear c26b0
              try clear c26b1
              try clear c28
              try clear c37
              try clear c38
              try clear c39
              try clear c40
              try clear c41
              try clear c42
              try clear hcz20_0
              try clear hcz20_1
              try clear hcz20_2
              try clear hcz23_0
              try clear hcz23_1
              try clear hcz23_2
              try clear hcz25_0
              try clear hcz25_1
              try clear hcz25_2
              try clear hcz29_0
              try clear hcz29_1
              try clear hcz29_2
              try clear hcz32_0
              try clear hcz32_1
              try clear hcz32_2
              try clear hcz38_0
              try clear hcz38_1
              try clear hcz38_2
              try clear hcz9013_0
              try clear hcz9013_1
              try clear hcz9013_2
              try clear hcz9014_0
              try clear hcz9014_1
              try clear hcz9014_2
              try clear hcz9015_0
              try clear hcz9015_1
              try clear hcz9015_2
              try clear hcz9016_0
              try clear hcz9016_1
              try clear hcz9016_2
              try clear hcz9_0
              try clear hcz9_1
              try clear hcz9_2
              try clear hfz20_0
              try clear hfz20_1
              try clear hfz20_2
              try clear hfz23_0
              try clear hfz23_1
              try clear hfz23_2
              try clear hfz25_0
              try clear hfz25_1
              try clear hfz25_2
              try clear hfz29_0
              try clear hfz29_1
              try clear hfz29_2
              try clear hfz32_0
              try clear hfz32_1
              try clear hfz32_2
              try clear hfz38_0
              try clear hfz38_1
              try clear hfz38_2
              try clear hfz9013_0
              try clear hfz9013_1
              try clear hfz9013_2
              try clear hfz9014_0
              try clear hfz9014_1
              try clear hfz9014_2
              try clear hfz9015_0
              try clear hfz9015_1
              try clear hfz9015_2
              try clear hfz9016_0
              try clear hfz9016_1
              try clear hfz9016_2
              try clear hfz9_0
              try clear hfz9_1
              try clear hfz9_2
              try clear p2
              obtain ⟨kq, x15_34, rfl, HA, HJ34, BK262, BK263, HB⟩ := hcut
              cases kq with
              | zero => exact absurd HA.out (by simp [figureheadref05_Round.j1])
              | succ kj34 =>
                have H := HA.out
                clear HA
                simp only [figureheadref05_Round.j1] at H
                replace H := Option.bind_eq_some_iff.mp H
                obtain ⟨t274, A430, H⟩ := H
                replace H : (if t274 = true then (figureheadref05_Round.j2 kj34 a0 x10_4 (t264 ++ t265) t267 1 a1_0 a1_1 a1_2) else (figureheadref05_Round.j2 kj34 a0 x10_4 (t264 ++ t265) t267 x15_34 a1_0 a1_1 a1_2)) = some (r1, r2, r3, r4) := H
                have A43 := Aside0.mk A430
                clear A430
                have HC44 := Aside0.mk H
                clear H
                go_upto_if 53 with (first | ((with_reducible refine gate_callee (f := 43) rfl ?_); refine goesL_ (some 53) rfl rfl Tryd.func43 (by kernel_rfl) rfl #[.string (t264 ++ t265), .string t272] rfl (by (try simp only [List.map_toArray]); (try simp only [List.map_cons]); (try simp only [List.map_nil]); first | done | rfl | (simp only [List.length_drop, List.length_take]; rfl)) ?_; (with_reducible refine (figureheadref01_Less.calls (t264 ++ t265) t272 t274 _ A43.out).mono ?_); rintro e w' ⟨rfl, ⟨nd, rfl⟩⟩; refine ⟨_, rfl, ?_⟩))
                (try simp only [Act.put, List.setIfInBounds_toArray, List.set_cons_zero, List.set_cons_succ])
                go_cut [15] (fun v15 wc => ∃ (kq : Nat) (x15_43 : Int), v15 = .int .i64 x15_43 ∧ Aside0 (figureheadref05_Round.j2 kq a0 x10_4 (t264 ++ t265) t267 x15_43 a1_0 a1_1 a1_2 = some (r1, r2, r3, r4)) ∧ Aside0 (kq ≤ kj34) ∧ Aside0 (wc.heap[gb262]? = some (.cells #[.bool a1_0, .string a1_1, .int .i64 a1_2] 23 (0, 0))) ∧ Aside0 (wc.heap[gb263]? = some (.cells #[.bool false, .string (⟨#[]⟩ : ByteArray), .int .i64 0] 23 (0, 0))) ∧ Aside0 (Below w.heap.size w wc))
                case first =>
                  have H := HC44.out
                  clear HC44
                  by_cases c45 : t274 = true
                  · subst c45
                    have H1 : (figureheadref05_Round.j2 kj34 a0 x10_4 (t264 ++ t265) t267 1 a1_0 a1_1 a1_2) = some (r1, r2, r3, r4) := by rw [if_pos rfl] at H; exact H
                    clear H
                    have H := H1
                    clear H1
                    have H' := Aside0.mk H
                    clear H
                    go_wp2
                    go_meet
                    case rel => exact ⟨_, (1), (by first | rfl | (simp; done) | (simp [*]; done) | (simp [*, Fig.bne_nil]; done)), H', ⟨by have := HJ4.out; have := HJ34.out; first | omega | exact Nat.le_refl _⟩, ⟨by (with_reducible repeat (first | refine blk_drewN ?_ _ | refine blk_drew ?_ | refine blk_alloc ?_ _)); exact BK262.out⟩, ⟨by (with_reducible repeat (first | refine blk_drewN ?_ _ | refine blk_drew ?_ | refine blk_alloc ?_ _)); exact BK263.out⟩, ⟨by repeat (first | (with_reducible first | exact HB.out | apply below_alloc | apply pw_below_drewN | apply below_drew1 | refine below_set ?_ GE262.out | refine below_set ?_ GE263.out) | exact HB.out)⟩⟩
                  · replace c45 := Bool.eq_false_iff.mpr c45
                    subst c45
                    have H1 : (figureheadref05_Round.j2 kj34 a0 x10_4 (t264 ++ t265) t267 x15_34 a1_0 a1_1 a1_2) = some (r1, r2, r3, r4) := by rw [if_neg (show ¬ (false = true) by decide)] at H; exact H
                    clear H
                    have H := H1
                    clear H1
                    have H' := Aside0.mk H
                    clear H
                    go_wp2
                    go_meet
                    case rel => exact ⟨_, (x15_34), (by first | rfl | (simp; done) | (simp [*]; done) | (simp [*, Fig.bne_nil]; done)), H', ⟨by have := HJ4.out; have := HJ34.out; first | omega | exact Nat.le_refl _⟩, ⟨by (with_reducible repeat (first | refine blk_drewN ?_ _ | refine blk_drew ?_ | refine blk_alloc ?_ _)); exact BK262.out⟩, ⟨by (with_reducible repeat (first | refine blk_drewN ?_ _ | refine blk_drew ?_ | refine blk_alloc ?_ _)); exact BK263.out⟩, ⟨by repeat (first | (with_reducible first | exact HB.out | apply below_alloc | apply pw_below_drewN | apply below_drew1 | refine below_set ?_ GE262.out | refine below_set ?_ GE263.out) | exact HB.out)⟩⟩
                case rest =>
                  clear HC44
                  try clear c1
                  try clear c2
                  try clear p2
                  try clear c3
                  try clear c4
                  try clear p6
                  try clear c8
                  try clear c10
                  try clear c10b0
                  try clear c13
                  try clear c13b0
                  try clear c13b1
                  try clear c13b2
                  try clear c16
                  try clear c16b0
                  try clear c16b1
                  try clear c17
                  try clear c19
                  try clear c26
                  try clear c26b0
                  try clear c26b1
                  try clear c28
                  try clear c37
                  try clear c38
                  try clear c39
                  try clear c40
                  try clear c41
                  try clear c42
                  try clear c43
                  try clear c45
                  try clear hcz20_0
                  try clear hcz20_1
                  try clear hcz20_2
                  try clear hcz23_0
                  try clear hcz23_1
                  try clear hcz23_2
                  try clear hcz25_0
                  try clear hcz25_1
                  try clear hcz25_2
                  try clear hcz29_0
                  try clear hcz29_1
                  try clear hcz29_2
                  try clear hcz32_0
                  try clear hcz32_1
                  try clear hcz32_2
                  try clear hcz38_0
                  try clear hcz38_1
                  try clear hcz38_2
                  try clear hcz9013_0
                  try clear hcz9013_1
                  try clear hcz9013_2
                  try clear hcz9014_0
                  try clear hcz9014_1
                  try clear hcz9014_2
                  try clear hcz9015_0
                  try clear hcz9015_1
                  try clear hcz9015_2
                  try clear hcz9016_0
                  try clear hcz9016_1
                  try clear hcz9016_2
                  try clear hcz9_0
                  try clear hcz9_1
                  try clear hcz9_2
                  try clear hfz20_0
                  try clear hfz20_1
                  try clear hfz20_2
                  try clear hfz23_0
                  try clear hfz23_1
                  try clear hfz23_2
                  try clear hfz25_0
                  try clear hfz25_1
                  try clear hfz25_2
                  try clear hfz29_0
                  try clear hfz29_1
                  try clear hfz29_2
                  try clear hfz32_0
                  try clear hfz32_1
                  try clear hfz32_2
                  try clear hfz38_0
                  try clear hfz38_1
                  try clear hfz38_2
                  try clear hfz9013_0
                  try clear hfz9013_1
                  try clear hfz9013_2
                  try clear hfz9014_0
                  try clear hfz9014_1
                  try clear hfz9014_2
                  try clear hfz9015_0
                  try clear hfz9015_1
                  try clear hfz9015_2
                  try clear hfz9016_0
                  try clear hfz9016_1
                  try clear hfz9016_2
                  try clear hfz9_0
                  try clear hfz9_1
                  try clear hfz9_2
                  try clear p2
                  try clear p6
                  obtain ⟨kq, x15_43, rfl, HA, HJ43, BK262, BK263, HB⟩ := hcut
                  cases kq with
                  | zero => exact absurd HA.out (by simp [figureheadref05_Round.j2])
                  | succ kj43 =>
                    have H := HA.out
                    clear HA
                    simp only [figureheadref05_Round.j2] at H
                    have HC46 := Aside0.mk H
                    clear H
                    go_upto_region 16 with (fail)
                    go_cut [16] (fun v16 wc => ∃ (kq : Nat) (x16_45 : Bool), v16 = .bool x16_45 ∧ Aside0 (figureheadref05_Round.j3 kq a0 x10_4 (t264 ++ t265) t267 x15_43 x16_45 a1_0 a1_1 a1_2 = some (r1, r2, r3, r4)) ∧ Aside0 (kq ≤ kj43) ∧ Aside0 (wc.heap[gb262]? = some (.cells #[.bool a1_0, .string a1_1, .int .i64 a1_2] 23 (0, 0))) ∧ Aside0 (wc.heap[gb263]? = some (.cells #[.bool false, .string (⟨#[]⟩ : ByteArray), .int .i64 0] 23 (0, 0))) ∧ Aside0 (Below w.heap.size w wc))
                    case first =>
                      have H := HC46.out
                      clear HC46
                      by_cases c47 : (t267.size : Int) > 0
                      · rw [if_pos c47] at H
                        have c47b0 : decide (0 < (t267.size : Int)) = true := decide_eq_true c47
                        have c47b1 : decide (0 < t267.size) = true := decide_eq_true (by omega)
                        clear c47
                        (first | rw [c47b0] | (simp only [i64_w, i32_w]; rw [c47b0]) | skip)
                        obtain ⟨ji48, hji48⟩ : ∃ j_ : Int, (wrap64 ((t267.size : Int) - 1)) = j_ := ⟨_, rfl⟩
                        replace H : (if 0 ≤ (ji48) then (if (ji48) < (t267.size : Int) then (figureheadref05_Round.j3 kj43 a0 x10_4 (t264 ++ t265) t267 x15_43 (((((bt t267 (ji48)) - 48) % 256) % 2) == 1) a1_0 a1_1 a1_2) else (none)) else (none)) = some (r1, r2, r3, r4) := by first | (rw [hji48] at H; exact H) | (simp only [hji48] at H ⊢; exact H)
                        have hji48w : (IntKind.i64.wrap ((t267.size : Int) - 1)) = ji48 := (i64_w _).trans hji48
                        by_cases c49 : 0 ≤ (ji48)
                        · rw [if_pos c49] at H
                          have c49b0 : decide (0 ≤ (ji48)) = true := decide_eq_true c49
                          clear c49
                          by_cases c50 : (ji48) < (t267.size : Int)
                          · rw [if_pos c50] at H
                            have c50b0 : decide ((ji48) < (t267.size : Int)) = true := decide_eq_true c50
                            clear c50
                            have H' := Aside0.mk H
                            clear H
                            have p51 : 0 ≤ ((ji48) : Int) := of_decide_eq_true (by first | (with_reducible assumption) | assumption)
                            have q51 : (ji48) < (t267.size : Int) := of_decide_eq_true (by first | (with_reducible assumption) | assumption)
                            have hx51 := bt_at t267 (ji48)
                            replace p51 := eq_true p51
                            replace q51 := eq_true q51
                            go_wp2
                            go_meet
                            case rel => exact ⟨_, ((((((bt t267 (ji48)) - 48) % 256) % 2) == 1)), (by first | rfl | (simp; done) | (simp only [← hji48] <;> (first | rfl | simp)) | (simp [*]; done) | (simp [*, Fig.bne_nil]; done)), H', ⟨by have := HJ4.out; have := HJ34.out; have := HJ43.out; first | omega | exact Nat.le_refl _⟩, ⟨by (with_reducible repeat (first | refine blk_drewN ?_ _ | refine blk_drew ?_ | refine blk_alloc ?_ _)); exact BK262.out⟩, ⟨by (with_reducible repeat (first | refine blk_drewN ?_ _ | refine blk_drew ?_ | refine blk_alloc ?_ _)); exact BK263.out⟩, ⟨by repeat (first | (with_reducible first | exact HB.out | apply below_alloc | apply pw_below_drewN | apply below_drew1 | refine below_set ?_ GE262.out | refine below_set ?_ GE263.out) | exact HB.out)⟩⟩
                          · rw [if_neg c50] at H
                            exact absurd H (by simp)
                        · rw [if_neg c49] at H
                          exact absurd H (by simp)
                      · rw [if_neg c47] at H
                        have c47b0 : decide (0 < (t267.size : Int)) = false := decide_eq_false c47
                        have c47b1 : decide (0 < t267.size) = false := decide_eq_false (by omega)
                        clear c47
                        (first | rw [c47b0] | (simp only [i64_w, i32_w]; rw [c47b0]) | skip)
                        have H' := Aside0.mk H
                        clear H
                        go_wp2
                        go_meet
                        case rel => exact ⟨_, (false), (by first | rfl | (simp; done) | (simp [*]; done) | (simp [*, Fig.bne_nil]; done)), H', ⟨by have := HJ4.out; have := HJ34.out; have := HJ43.out; first | omega | exact Nat.le_refl _⟩, ⟨by (with_reducible repeat (first | refine blk_drewN ?_ _ | refine blk_drew ?_ | refine blk_alloc ?_ _)); exact BK262.out⟩, ⟨by (with_reducible repeat (first | refine blk_drewN ?_ _ | refine blk_drew ?_ | refine blk_alloc ?_ _)); exact BK263.out⟩, ⟨by repeat (first | (with_reducible first | exact HB.out | apply below_alloc | apply pw_below_drewN | apply below_drew1 | refine below_set ?_ GE262.out | refine below_set ?_ GE263.out) | exact HB.out)⟩⟩
                    case rest =>
                      clear HC46
                      try clear c1
                      try clear c2
                      try clear p2
                      try clear c3
                      try clear c4
                      try clear c5
                      try clear p5
                      try clear q5
                      try clear hx5
                      try clear p6
                      try clear c8
                      try clear c10
                      try clear c10b0
                      try clear c13
                      try clear c13b0
                      try clear c13b1
                      try clear c13b2
                      try clear c16
                      try clear c16b0
                      try clear c16b1
                      try clear c17
                      try clear c19
                      try clear c26
                      try clear c26b0
                      try clear c26b1
                      try clear c28
                      try clear c37
                      try clear c38
                      try clear c39
                      try clear c40
                      try clear c41
                      try clear c42
                      try clear c43
                      try clear c45
                      try clear c47
                      try clear c47b0
                      try clear c47b1
                      try clear c49
                      try clear c49b0
                      try clear c50
                      try clear c50b0
                      try clear p51
                      try clear q51
                      try clear hx51
                      try clear hcz20_0
                      try clear hcz20_1
                      try clear hcz20_2
                      try clear hcz23_0
                      try clear hcz23_1
                      try clear hcz23_2
                      try clear hcz25_0
                      try clear hcz25_1
                      try clear hcz25_2
                      try clear hcz29_0
                      try clear hcz29_1
                      try clear hcz29_2
                      try clear hcz32_0
                      try clear hcz32_1
                      try clear hcz32_2
                      try clear hcz38_0
                      try clear hcz38_1
                      try clear hcz38_2
                      try clear hcz9013_0
                      try clear hcz9013_1
                      try clear hcz9013_2
                      try clear hcz9014_0
                      try clear hcz9014_1
                      try clear hcz9014_2
                      try clear hcz9015_0
                      try clear hcz9015_1
                      try clear hcz9015_2
                      try clear hcz9016_0
                      try clear hcz9016_1
                      try clear hcz9016_2
                      try clear hcz9_0
                      try clear hcz9_1
                      try clear hcz9_2
                      try clear hfz20_0
                      try clear hfz20_1
                      try clear hfz20_2
                      try clear hfz23_0
                      try clear hfz23_1
                      try clear hfz23_2
                      try clear hfz25_0
                      try clear hfz25_1
                      try clear hfz25_2
                      try clear hfz29_0
                      try clear hfz29_1
                      try clear hfz29_2
                      try clear hfz32_0
                      try clear hfz32_1
                      try clear hfz32_2
                      try clear hfz38_0
                      try clear hfz38_1
                      try clear hfz38_2
                      try clear hfz9013_0
                      try clear hfz9013_1
                      try clear hfz9013_2
                      try clear hfz9014_0
                      try clear hfz9014_1
                      try clear hfz9014_2
                      try clear hfz9015_0
                      try clear hfz9015_1
                      try clear hfz9015_2
                      try clear hfz9016_0
                      try clear hfz9016_1
                      try clear hfz9016_2
                      try clear hfz9_0
                      try clear hfz9_1
                      try clear hfz9_2
                      try clear p2
                      try clear p51
                      try clear p6
                      try clear q51
                      obtain ⟨kq, x16_45, rfl, HA, HJ45, BK262, BK263, HB⟩ := hcut
                      cases kq with
                      | zero => exact absurd HA.out (by simp [figureheadref05_Round.j3])
                      | succ kj45 =>
                        have H := HA.out
                        clear HA
                        simp only [figureheadref05_Round.j3] at H
                        replace H := Option.bind_eq_some_iff.mp H
                        obtain ⟨t275, A520, H⟩ := H
                        replace H : (if t275 = true then ((figureheadref01_Plus.f kj45 t267 (⟨#[49]⟩ : ByteArray)).bind fun t276 => ((figureheadref01_Times.f kj45 t276 (t264 ++ t265)).bind fun t277 => ((figureheadref05_Make.f kj45 a1_0 t277 x10_4).bind fun bt278 => (some (bt278.1, bt278.2.1, bt278.2.2, 0))))) else ((figureheadref01_Times.f kj45 t267 (t264 ++ t265)).bind fun t281 => ((figureheadref05_Make.f kj45 a1_0 t281 x10_4).bind fun bt282 => (some (bt282.1, bt282.2.1, bt282.2.2, 0))))) = some (r1, r2, r3, r4) := H
                        have A52 := Aside0.mk A520
                        clear A520
                        by_cases c53 : t275 = true
                        · subst c53
                          have H1 : ((figureheadref01_Plus.f kj45 t267 (⟨#[49]⟩ : ByteArray)).bind fun t276 => ((figureheadref01_Times.f kj45 t276 (t264 ++ t265)).bind fun t277 => ((figureheadref05_Make.f kj45 a1_0 t277 x10_4).bind fun bt278 => (some (bt278.1, bt278.2.1, bt278.2.2, 0))))) = some (r1, r2, r3, r4) := by rw [if_pos rfl] at H; exact H
                          clear H
                          have H := H1
                          clear H1
                          replace H := Option.bind_eq_some_iff.mp H
                          obtain ⟨t276, A540, H⟩ := H
                          replace H : ((figureheadref01_Times.f kj45 t276 (t264 ++ t265)).bind fun t277 => ((figureheadref05_Make.f kj45 a1_0 t277 x10_4).bind fun bt278 => (some (bt278.1, bt278.2.1, bt278.2.2, 0)))) = some (r1, r2, r3, r4) := H
                          have A54 := Aside0.mk A540
                          clear A540
                          replace H := Option.bind_eq_some_iff.mp H
                          obtain ⟨t277, A550, H⟩ := H
                          replace H : ((figureheadref05_Make.f kj45 a1_0 t277 x10_4).bind fun bt278 => (some (bt278.1, bt278.2.1, bt278.2.2, 0))) = some (r1, r2, r3, r4) := H
                          have A55 := Aside0.mk A550
                          clear A550
                          replace H := Option.bind_eq_some_iff.mp H
                          obtain ⟨⟨t278, t279, t280⟩, A560, H⟩ := H
                          replace H : (some (t278, t279, t280, 0)) = some (r1, r2, r3, r4) := H
                          have A56 := Aside0.mk A560
                          clear A560
                          simp only [Option.some.injEq, Prod.mk.injEq] at H
                          obtain ⟨rfl, rfl, rfl, rfl⟩ := H
                          have hnb57 := NB262_263.out
                          have hnc57 := NB263_262.out
                          have hcz58_0 : wc.cell? ⟨gb262, 0, none⟩ = some (.bool a1_0) := (blk_cell BK262.out 0).trans rfl
                          have hcz58_1 : wc.cell? ⟨gb262, 1, none⟩ = some (.string a1_1) := (blk_cell BK262.out 1).trans rfl
                          have hcz58_2 : wc.cell? ⟨gb262, 2, none⟩ = some (.int .i64 a1_2) := (blk_cell BK262.out 2).trans rfl
                          have hfz58_0 := blk_frozen BK262.out 0
                          have hfz58_1 := blk_frozen BK262.out 1
                          have hfz58_2 := blk_frozen BK262.out 2
                          try go_wp2_with (first | ((with_reducible refine gate_callee (f := 44) rfl ?_); refine goesL_ (some 72) rfl rfl Tryd.func44 (by kernel_rfl) rfl #[.int .i64 a0, .bool a1_0, .bool x16_45, .int .i64 x15_43] rfl (by (try simp only [List.map_toArray]); (try simp only [List.map_cons]); (try simp only [List.map_nil]); first | done | rfl | (simp only [List.length_drop, List.length_take]; rfl)) ?_; (with_reducible refine (figureheadref05_Up.calls a0 a1_0 x16_45 x15_43 true _ A52.out).mono ?_); rintro e w' ⟨rfl, ⟨nd, rfl⟩⟩; refine ⟨_, rfl, ?_⟩; (try (rw [drewN_self wc]; generalize hq_ : World.drewN wc _ = wc; have n0_ : Aside0 (wc.heap[gb262]? = some (.cells #[.bool a1_0, .string a1_1, .int .i64 a1_2] 23 (0, 0))) := ⟨by rw [← hq_]; exact (by (with_reducible repeat (first | refine blk_drewN ?_ _ | refine blk_drew ?_ | refine blk_alloc ?_ _)); exact BK262.out)⟩; have n1_ : Aside0 (wc.heap[gb263]? = some (.cells #[.bool false, .string (⟨#[]⟩ : ByteArray), .int .i64 0] 23 (0, 0))) := ⟨by rw [← hq_]; exact (by (with_reducible repeat (first | refine blk_drewN ?_ _ | refine blk_drew ?_ | refine blk_alloc ?_ _)); exact BK263.out)⟩; have n2_ : Aside0 (Below w.heap.size w wc) := ⟨by rw [← hq_]; exact (by repeat (first | (with_reducible first | exact HB.out | apply below_alloc | apply pw_below_drewN | apply below_drew1 | refine below_set ?_ GE262.out | refine below_set ?_ GE263.out) | exact HB.out))⟩; clear BK262 BK263 HB hq_; have BK262 := n0_; have BK263 := n1_; have HB := n2_; clear n0_ n1_ n2_)); (try (have hcz9017_0 : wc.cell? ⟨gb262, 0, none⟩ = some (.bool a1_0) := (blk_cell BK262.out 0).trans rfl)); (try (have hcz9017_1 : wc.cell? ⟨gb262, 1, none⟩ = some (.string a1_1) := (blk_cell BK262.out 1).trans rfl)); (try (have hcz9017_2 : wc.cell? ⟨gb262, 2, none⟩ = some (.int .i64 a1_2) := (blk_cell BK262.out 2).trans rfl)); (try (have hfz9017_0 := blk_frozen BK262.out 0)); (try (have hfz9017_1 := blk_frozen BK262.out 1)); (try (have hfz9017_2 := blk_frozen BK262.out 2)); (try (have hcz9018_0 : wc.cell? ⟨gb263, 0, none⟩ = some (.bool false) := (blk_cell BK263.out 0).trans rfl)); (try (have hcz9018_1 : wc.cell? ⟨gb263, 1, none⟩ = some (.string (⟨#[]⟩ : ByteArray)) := (blk_cell BK263.out 1).trans rfl)); (try (have hcz9018_2 : wc.cell? ⟨gb263, 2, none⟩ = some (.int .i64 0) := (blk_cell BK263.out 2).trans rfl)); (try (have hfz9018_0 := blk_frozen BK263.out 0)); (try (have hfz9018_1 := blk_frozen BK263.out 1)); (try (have hfz9018_2 := blk_frozen BK263.out 2))) | ((with_reducible refine gate_callee (f := 42) rfl ?_); refine goesL_ (some 74) rfl rfl Tryd.func42 (by kernel_rfl) rfl #[.string t267, .string (⟨#[49]⟩ : ByteArray)] rfl (by (try simp only [List.map_toArray]); (try simp only [List.map_cons]); (try simp only [List.map_nil]); first | done | rfl | (simp only [List.length_drop, List.length_take]; rfl)) ?_; (with_reducible refine (figureheadref01_Plus.calls kj45 t267 (⟨#[49]⟩ : ByteArray) t276 _ A54.out).mono ?_); rintro e w59 ⟨rfl, hb⟩; refine ⟨_, rfl, ?_⟩; have n0_ := Aside0.mk (blk_below (g := gb262) (o := .cells #[.bool a1_0, .string a1_1, .int .i64 a1_2] 23 (0, 0)) (by (with_reducible repeat (first | refine blk_drewN ?_ _ | refine blk_drew ?_ | refine blk_alloc ?_ _)); exact BK262.out) hb); have n1_ := Aside0.mk (blk_below (g := gb263) (o := .cells #[.bool false, .string (⟨#[]⟩ : ByteArray), .int .i64 0] 23 (0, 0)) (by (with_reducible repeat (first | refine blk_drewN ?_ _ | refine blk_drew ?_ | refine blk_alloc ?_ _)); exact BK263.out) hb); have n2_ := Aside0.mk (below_step (by repeat (first | (with_reducible first | exact HB.out | apply below_alloc | apply pw_below_drewN | apply below_drew1 | refine below_set ?_ GE262.out | refine below_set ?_ GE263.out) | exact HB.out)) hb); clear BK262; clear BK263; clear HB; have BK262 := n0_; have BK263 := n1_; have HB := n2_; clear n0_ n1_ n2_; (try clear hb); (try clear hb2); (try clear hk); (try clear hi)))
                          (try (rw [drewN_self w59]; generalize hq_ : World.drewN w59 _ = w59; have n0_ : Aside0 (w59.heap[gb262]? = some (.cells #[.bool a1_0, .string a1_1, .int .i64 a1_2] 23 (0, 0))) := ⟨by rw [← hq_]; exact (by (with_reducible repeat (first | refine blk_drewN ?_ _ | refine blk_drew ?_ | refine blk_alloc ?_ _)); exact BK262.out)⟩; have n1_ : Aside0 (w59.heap[gb263]? = some (.cells #[.bool false, .string (⟨#[]⟩ : ByteArray), .int .i64 0] 23 (0, 0))) := ⟨by rw [← hq_]; exact (by (with_reducible repeat (first | refine blk_drewN ?_ _ | refine blk_drew ?_ | refine blk_alloc ?_ _)); exact BK263.out)⟩; have n2_ : Aside0 (Below w.heap.size w w59) := ⟨by rw [← hq_]; exact (by repeat (first | (with_reducible first | exact HB.out | apply below_alloc | apply pw_below_drewN | apply below_drew1 | refine below_set ?_ GE262.out | refine below_set ?_ GE263.out) | exact HB.out))⟩; clear BK262 BK263 HB hq_; have BK262 := n0_; have BK263 := n1_; have HB := n2_; clear n0_ n1_ n2_))
                          have n0_ := Aside0.mk (blk_drew BK262.out)
                          have n1_ := Aside0.mk (blk_drew BK263.out)
                          have n2_ := Aside0.mk (below_drew1 HB.out)
                          clear BK262
                          clear BK263
                          clear HB
                          have BK262 := n0_
                          have BK263 := n1_
                          have HB := n2_
                          clear n0_ n1_ n2_
                          refine start_ (n := 9) (S := fun w' => w'.cell? ⟨gb262, 0, none⟩ = some (.bool a1_0) ∧ w'.cell? ⟨gb262, 1, none⟩ = some (.string a1_1) ∧ w'.cell? ⟨gb262, 2, none⟩ = some (.int .i64 a1_2)) (ds := []) #[false, false, false, false, false, false, false, false, false] (by kernel_rfl) rfl rfl ⟨(blk_cell BK262.out 0).trans rfl, (blk_cell BK262.out 1).trans rfl, (blk_cell BK262.out 2).trans rfl⟩ (fun hHeld => ?_); refine with_tabW figureheadref05_Round.tab19 figureheadref05_Round.bits19 (fun HT_ HW_ => ?_)
                          generalize w59.drew = w60 at BK262 BK263 HB hHeld ⊢
                          refine pure_ (i := 0) (N := some 75) (v := ?_) (a' := ?_) #[true, false, false, false, false, false, false, false, false] rfl rfl (any_of HT_.out (by kernel_rfl)) (fun _ _ _ h => h) (Or.inl ⟨by rfl, ?_⟩) ?_ ?_
                          rotate_left
                          · intro w'
                            go_simp
                            with_reducible rfl
                          rotate_left
                          · simp only [Act.put, List.setIfInBounds_toArray, List.set_cons_zero, List.set_cons_succ]; (try simp only [i64_w]); (try simp only [i32_w])
                            rfl
                          refine pure_ (i := 2) (N := some 77) (v := ?_) (a' := ?_) #[true, false, true, false, false, false, false, false, false] rfl rfl (any_of HT_.out (by kernel_rfl)) (fun _ _ _ h => h) (Or.inl ⟨by rfl, ?_⟩) ?_ ?_
                          rotate_left
                          · intro w'
                            go_simp
                            with_reducible rfl
                          rotate_left
                          · simp only [Act.put, List.setIfInBounds_toArray, List.set_cons_zero, List.set_cons_succ]; (try simp only [i64_w]); (try simp only [i32_w])
                            rfl
                          refine pure_ (i := 3) (N := some 78) (v := ?_) (a' := ?_) #[true, false, true, true, false, false, false, false, false] rfl rfl (any_of HT_.out (by kernel_rfl)) (fun _ _ _ h => h) (Or.inl ⟨by rfl, ?_⟩) ?_ ?_
                          rotate_left
                          · intro w'
                            go_simp
                            with_reducible rfl
                          rotate_left
                          · simp only [Act.put, List.setIfInBounds_toArray, List.set_cons_zero, List.set_cons_succ]; (try simp only [i64_w]); (try simp only [i32_w])
                            rfl
                          refine pure_ (i := 5) (N := some 80) (v := ?_) (a' := ?_) #[true, false, true, true, false, true, false, false, false] rfl rfl (any_of HT_.out (by kernel_rfl)) (fun _ _ _ h => h) (Or.inl ⟨by rfl, ?_⟩) ?_ ?_
                          rotate_left
                          · intro w'
                            go_simp
                            with_reducible rfl
                          rotate_left
                          · simp only [Act.put, List.setIfInBounds_toArray, List.set_cons_zero, List.set_cons_succ]; (try simp only [i64_w]); (try simp only [i32_w])
                            rfl
                          refine take_ (i := 1) (N := some 76) (v := ?_) (a' := ?_) #[true, true, true, true, false, true, false, false, false] rfl rfl (take_ofW HT_.out HW_.out (by kernel_rfl)) (fun _ _ _ h => h) (Or.inl ⟨by rfl, ?_⟩) hHeld ?_ ?_
                          rotate_left
                          · rintro w' ⟨s0, s1, s2⟩
                            go_simp
                            with_reducible rfl
                          rotate_left
                          · simp only [Act.put, List.setIfInBounds_toArray, List.set_cons_zero, List.set_cons_succ]; (try simp only [i64_w]); (try simp only [i32_w])
                            rfl
                          refine one_ (i := 4) (N := some 79) #[true, true, true, true, true, true, false, false, false] rfl rfl (one_of HT_.out (by kernel_rfl)) (by decide) (fun K hK => ?_)
                          refine goes_ Tryd.func46 (by kernel_rfl) rfl #[.string t276, .string (t264 ++ t265)] (by rfl) rfl rfl (by (try simp only [List.map_toArray]); (try simp only [List.map_cons]); (try simp only [List.map_nil]); first | done | rfl | (simp only [List.length_drop, List.length_take]; rfl)) ?_
                          with_reducible refine (figureheadref01_Times.calls kj45 t276 (t264 ++ t265) t277 _ A55.out).mono ?_
                          rintro e w61 ⟨rfl, hb⟩
                          refine ⟨_, rfl, ?_⟩
                          have n0_ := Aside0.mk (blk_below (g := gb262) (o := .cells #[.bool a1_0, .string a1_1, .int .i64 a1_2] 23 (0, 0)) (by (with_reducible repeat (first | refine blk_drewN ?_ _ | refine blk_drew ?_ | refine blk_alloc ?_ _)); exact BK262.out) hb)
                          have n1_ := Aside0.mk (blk_below (g := gb263) (o := .cells #[.bool false, .string (⟨#[]⟩ : ByteArray), .int .i64 0] 23 (0, 0)) (by (with_reducible repeat (first | refine blk_drewN ?_ _ | refine blk_drew ?_ | refine blk_alloc ?_ _)); exact BK263.out) hb)
                          have n2_ := Aside0.mk (below_step (by repeat (first | (with_reducible first | exact HB.out | apply below_alloc | apply pw_below_drewN | apply below_drew1 | refine below_set ?_ GE262.out | refine below_set ?_ GE263.out) | exact HB.out)) hb)
                          clear BK262
                          clear BK263
                          clear HB
                          have BK262 := n0_
                          have BK263 := n1_
                          have HB := n2_
                          clear n0_ n1_ n2_
                          (try clear hb)
                          (try clear hb2)
                          (try clear hk)
                          (try clear hi)
                          refine hK.out _ _ ⟨(blk_cell BK262.out 0).trans rfl, (blk_cell BK262.out 1).trans rfl, (blk_cell BK262.out 2).trans rfl⟩ (fun hHeld => ?_)
                          clear hK K
                          refine norm_ (a' := ?_) ?_ ?_
                          rotate_left
                          · show Act.put _ (some 79) _ = _
                            simp only [Act.put, List.setIfInBounds_toArray, List.set_cons_zero, List.set_cons_succ]; (try simp only [i64_w]); (try simp only [i32_w])
                            rfl
                          refine one_ (i := 6) (N := some 81) #[true, true, true, true, true, true, true, false, false] rfl rfl (one_of HT_.out (by kernel_rfl)) (by decide) (fun K hK => ?_)
                          refine goes_ Tryd.func45 (by kernel_rfl) rfl #[.bool a1_0, .string t277, .int .i64 x10_4] (by rfl) rfl rfl (by (try simp only [List.map_toArray]); (try simp only [List.map_cons]); (try simp only [List.map_nil]); first | done | rfl | (simp only [List.length_drop, List.length_take]; rfl)) ?_
                          with_reducible refine (figureheadref05_Make.calls kj45 a1_0 t277 x10_4 t278 t279 t280 _ A56.out).mono ?_
                          rintro e w62 ⟨rfl, hb⟩
                          refine ⟨_, rfl, ?_⟩
                          have n0_ := Aside0.mk (blk_below (g := gb262) (o := .cells #[.bool a1_0, .string a1_1, .int .i64 a1_2] 23 (0, 0)) (by (with_reducible repeat (first | refine blk_drewN ?_ _ | refine blk_drew ?_ | refine blk_alloc ?_ _)); exact BK262.out) hb)
                          have n1_ := Aside0.mk (blk_below (g := gb263) (o := .cells #[.bool false, .string (⟨#[]⟩ : ByteArray), .int .i64 0] 23 (0, 0)) (by (with_reducible repeat (first | refine blk_drewN ?_ _ | refine blk_drew ?_ | refine blk_alloc ?_ _)); exact BK263.out) hb)
                          have n2_ := Aside0.mk (below_step (by repeat (first | (with_reducible first | exact HB.out | apply below_alloc | apply pw_below_drewN | apply below_drew1 | refine below_set ?_ GE262.out | refine below_set ?_ GE263.out) | exact HB.out)) hb)
                          clear BK262
                          clear BK263
                          clear HB
                          have BK262 := n0_
                          have BK263 := n1_
                          have HB := n2_
                          clear n0_ n1_ n2_
                          (try clear hb)
                          (try clear hb2)
                          (try clear hk)
                          (try clear hi)
                          refine hK.out _ _ ⟨(blk_cell BK262.out 0).trans rfl, (blk_cell BK262.out 1).trans rfl, (blk_cell BK262.out 2).trans rfl⟩ (fun hHeld => ?_)
                          clear hK K
                          refine norm_ (a' := ?_) ?_ ?_
                          rotate_left
                          · show Act.put _ (some 81) _ = _
                            simp only [Act.put, List.setIfInBounds_toArray, List.set_cons_zero, List.set_cons_succ]; (try simp only [i64_w]); (try simp only [i32_w])
                            rfl
                          refine one_ (i := 7) (N := none) #[true, true, true, true, true, true, true, true, false] rfl rfl (one_of HT_.out (by kernel_rfl)) (by decide) (fun K hK => ?_)
                          have hs63 : w62.cell? ⟨gb263, 0, none⟩ = some (.bool false) := (blk_cell BK263.out 0).trans rfl
                          have hfs63 := blk_frozen BK263.out 0
                          have hns63_0 := NB262_263.out
                          have hms63_0 := NB263_262.out
                          have hs64 : w62.cell? ⟨gb263, 1, none⟩ = some (.string (⟨#[]⟩ : ByteArray)) := (blk_cell BK263.out 1).trans rfl
                          have hfs64 := blk_frozen BK263.out 1
                          have hns64_0 := NB262_263.out
                          have hms64_0 := NB263_262.out
                          have hs65 : w62.cell? ⟨gb263, 2, none⟩ = some (.int .i64 0) := (blk_cell BK263.out 2).trans rfl
                          have hfs65 := blk_frozen BK263.out 2
                          have hns65_0 := NB262_263.out
                          have hms65_0 := NB263_262.out
                          refine skip_ (w1 := ?_) (by rfl) rfl ?_ ?_
                          rotate_left
                          · go_simp
                            rfl
                          refine hK.out _ _ ⟨((cell_far (p := ⟨gb263, _, none⟩) NB262_263.out _).trans (((cell_far (p := ⟨gb263, _, none⟩) NB262_263.out _).trans (((cell_far (p := ⟨gb263, _, none⟩) NB262_263.out _).trans (hHeld.1)))))), ((cell_far (p := ⟨gb263, _, none⟩) NB262_263.out _).trans (((cell_far (p := ⟨gb263, _, none⟩) NB262_263.out _).trans (((cell_far (p := ⟨gb263, _, none⟩) NB262_263.out _).trans (hHeld.2.1)))))), ((cell_far (p := ⟨gb263, _, none⟩) NB262_263.out _).trans (((cell_far (p := ⟨gb263, _, none⟩) NB262_263.out _).trans (((cell_far (p := ⟨gb263, _, none⟩) NB262_263.out _).trans (hHeld.2.2))))))⟩ (fun hHeld => ?_)
                          clear hK K
                          refine pure_ (i := 8) (N := some 9) (v := ?_) (a' := ?_) #[true, true, true, true, true, true, true, true, true] rfl rfl (any_of HT_.out (by kernel_rfl)) (fun _ _ _ h => h) (Or.inl ⟨by rfl, ?_⟩) ?_ ?_
                          rotate_left
                          · intro w'
                            go_simp
                            with_reducible rfl
                          rotate_left
                          · simp only [Act.put, List.setIfInBounds_toArray, List.set_cons_zero, List.set_cons_succ]; (try simp only [i64_w]); (try simp only [i32_w])
                            rfl
                          refine done_ (done_of HT_.out (by kernel_rfl)) ?_
                          try go_wp2
                          refine bodyPost_ret (results_ct rfl _ _ gb263 23 #[.bool t278, .string t279, .int .i64 t280] (0, 0) _ rfl (by (with_reducible repeat (first | refine blk_drewN ?_ _ | refine blk_drew ?_ | refine blk_alloc ?_ _)); refine blk_put (cs := #[.bool t278, .string t279, .int .i64 0]) ?_ 2 _ rfl; (with_reducible repeat (first | refine blk_drewN ?_ _ | refine blk_drew ?_ | refine blk_alloc ?_ _)); refine blk_put (cs := #[.bool t278, .string (⟨#[]⟩ : ByteArray), .int .i64 0]) ?_ 1 _ rfl; (with_reducible repeat (first | refine blk_drewN ?_ _ | refine blk_drew ?_ | refine blk_alloc ?_ _)); refine blk_put (cs := #[.bool false, .string (⟨#[]⟩ : ByteArray), .int .i64 0]) ?_ 0 _ rfl; (with_reducible repeat (first | refine blk_drewN ?_ _ | refine blk_drew ?_ | refine blk_alloc ?_ _)); exact BK263.out) Tryd.underlying23 rfl (by kernel_rfl)) rfl ?_
                          exact ⟨by first | rfl | (simp [errW_none, errW_some] <;> rfl) | (simp [*, errW_none, errW_some] <;> rfl), by repeat (first | (with_reducible first | exact HB.out | apply below_alloc | apply pw_below_drewN | apply below_drew1 | refine below_set ?_ GE262.out | refine below_set ?_ GE263.out) | exact HB.out)⟩
                        · replace c53 := Bool.eq_false_iff.mpr c53
                          subst c53
                          have H1 : ((figureheadref01_Times.f kj45 t267 (t264 ++ t265)).bind fun t281 => ((figureheadref05_Make.f kj45 a1_0 t281 x10_4).bind fun bt282 => (some (bt282.1, bt282.2.1, bt282.2.2, 0)))) = some (r1, r2, r3, r4) := by rw [if_neg (show ¬ (false = true) by decide)] at H; exact H
                          clear H
                          have H := H1
                          clear H1
                          replace H := Option.bind_eq_some_iff.mp H
                          obtain ⟨t281, A660, H⟩ := H
                          replace H : ((figureheadref05_Make.f kj45 a1_0 t281 x10_4).bind fun bt282 => (some (bt282.1, bt282.2.1, bt282.2.2, 0))) = some (r1, r2, r3, r4) := H
                          have A66 := Aside0.mk A660
                          clear A660
                          replace H := Option.bind_eq_some_iff.mp H
                          obtain ⟨⟨t282, t283, t284⟩, A670, H⟩ := H
                          replace H : (some (t282, t283, t284, 0)) = some (r1, r2, r3, r4) := H
                          have A67 := Aside0.mk A670
                          clear A670
                          simp only [Option.some.injEq, Prod.mk.injEq] at H
                          obtain ⟨rfl, rfl, rfl, rfl⟩ := H
                          have hnb68 := NB262_263.out
                          have hnc68 := NB263_262.out
                          have hcz69_0 : wc.cell? ⟨gb262, 0, none⟩ = some (.bool a1_0) := (blk_cell BK262.out 0).trans rfl
                          have hcz69_1 : wc.cell? ⟨gb262, 1, none⟩ = some (.string a1_1) := (blk_cell BK262.out 1).trans rfl
                          have hcz69_2 : wc.cell? ⟨gb262, 2, none⟩ = some (.int .i64 a1_2) := (blk_cell BK262.out 2).trans rfl
                          have hfz69_0 := blk_frozen BK262.out 0
                          have hfz69_1 := blk_frozen BK262.out 1
                          have hfz69_2 := blk_frozen BK262.out 2
                          try go_wp2_with (first | ((with_reducible refine gate_callee (f := 44) rfl ?_); refine goesL_ (some 72) rfl rfl Tryd.func44 (by kernel_rfl) rfl #[.int .i64 a0, .bool a1_0, .bool x16_45, .int .i64 x15_43] rfl (by (try simp only [List.map_toArray]); (try simp only [List.map_cons]); (try simp only [List.map_nil]); first | done | rfl | (simp only [List.length_drop, List.length_take]; rfl)) ?_; (with_reducible refine (figureheadref05_Up.calls a0 a1_0 x16_45 x15_43 false _ A52.out).mono ?_); rintro e w' ⟨rfl, ⟨nd, rfl⟩⟩; refine ⟨_, rfl, ?_⟩; (try (rw [drewN_self wc]; generalize hq_ : World.drewN wc _ = wc; have n0_ : Aside0 (wc.heap[gb262]? = some (.cells #[.bool a1_0, .string a1_1, .int .i64 a1_2] 23 (0, 0))) := ⟨by rw [← hq_]; exact (by (with_reducible repeat (first | refine blk_drewN ?_ _ | refine blk_drew ?_ | refine blk_alloc ?_ _)); exact BK262.out)⟩; have n1_ : Aside0 (wc.heap[gb263]? = some (.cells #[.bool false, .string (⟨#[]⟩ : ByteArray), .int .i64 0] 23 (0, 0))) := ⟨by rw [← hq_]; exact (by (with_reducible repeat (first | refine blk_drewN ?_ _ | refine blk_drew ?_ | refine blk_alloc ?_ _)); exact BK263.out)⟩; have n2_ : Aside0 (Below w.heap.size w wc) := ⟨by rw [← hq_]; exact (by repeat (first | (with_reducible first | exact HB.out | apply below_alloc | apply pw_below_drewN | apply below_drew1 | refine below_set ?_ GE262.out | refine below_set ?_ GE263.out) | exact HB.out))⟩; clear BK262 BK263 HB hq_; have BK262 := n0_; have BK263 := n1_; have HB := n2_; clear n0_ n1_ n2_)); (try (have hcz9019_0 : wc.cell? ⟨gb262, 0, none⟩ = some (.bool a1_0) := (blk_cell BK262.out 0).trans rfl)); (try (have hcz9019_1 : wc.cell? ⟨gb262, 1, none⟩ = some (.string a1_1) := (blk_cell BK262.out 1).trans rfl)); (try (have hcz9019_2 : wc.cell? ⟨gb262, 2, none⟩ = some (.int .i64 a1_2) := (blk_cell BK262.out 2).trans rfl)); (try (have hfz9019_0 := blk_frozen BK262.out 0)); (try (have hfz9019_1 := blk_frozen BK262.out 1)); (try (have hfz9019_2 := blk_frozen BK262.out 2)); (try (have hcz9020_0 : wc.cell? ⟨gb263, 0, none⟩ = some (.bool false) := (blk_cell BK263.out 0).trans rfl)); (try (have hcz9020_1 : wc.cell? ⟨gb263, 1, none⟩ = some (.string (⟨#[]⟩ : ByteArray)) := (blk_cell BK263.out 1).trans rfl)); (try (have hcz9020_2 : wc.cell? ⟨gb263, 2, none⟩ = some (.int .i64 0) := (blk_cell BK263.out 2).trans rfl)); (try (have hfz9020_0 := blk_frozen BK263.out 0)); (try (have hfz9020_1 := blk_frozen BK263.out 1)); (try (have hfz9020_2 := blk_frozen BK263.out 2))))
                          (try (rw [drewN_self wc]; generalize hq_ : World.drewN wc _ = wc; have n0_ : Aside0 (wc.heap[gb262]? = some (.cells #[.bool a1_0, .string a1_1, .int .i64 a1_2] 23 (0, 0))) := ⟨by rw [← hq_]; exact (by (with_reducible repeat (first | refine blk_drewN ?_ _ | refine blk_drew ?_ | refine blk_alloc ?_ _)); exact BK262.out)⟩; have n1_ : Aside0 (wc.heap[gb263]? = some (.cells #[.bool false, .string (⟨#[]⟩ : ByteArray), .int .i64 0] 23 (0, 0))) := ⟨by rw [← hq_]; exact (by (with_reducible repeat (first | refine blk_drewN ?_ _ | refine blk_drew ?_ | refine blk_alloc ?_ _)); exact BK263.out)⟩; have n2_ : Aside0 (Below w.heap.size w wc) := ⟨by rw [← hq_]; exact (by repeat (first | (with_reducible first | exact HB.out | apply below_alloc | apply pw_below_drewN | apply below_drew1 | refine below_set ?_ GE262.out | refine below_set ?_ GE263.out) | exact HB.out))⟩; clear BK262 BK263 HB hq_; have BK262 := n0_; have BK263 := n1_; have HB := n2_; clear n0_ n1_ n2_))
                          have n0_ := Aside0.mk (blk_drew BK262.out)
                          have n1_ := Aside0.mk (blk_drew BK263.out)
                          have n2_ := Aside0.mk (below_drew1 HB.out)
                          clear BK262
                          clear BK263
                          clear HB
                          have BK262 := n0_
                          have BK263 := n1_
                          have HB := n2_
                          clear n0_ n1_ n2_
                          refine start_ (n := 9) (S := fun w' => w'.cell? ⟨gb262, 0, none⟩ = some (.bool a1_0) ∧ w'.cell? ⟨gb262, 1, none⟩ = some (.string a1_1) ∧ w'.cell? ⟨gb262, 2, none⟩ = some (.int .i64 a1_2)) (ds := []) #[false, false, false, false, false, false, false, false, false] (by kernel_rfl) rfl rfl ⟨(blk_cell BK262.out 0).trans rfl, (blk_cell BK262.out 1).trans rfl, (blk_cell BK262.out 2).trans rfl⟩ (fun hHeld => ?_); refine with_tabW figureheadref05_Round.tab19 figureheadref05_Round.bits19 (fun HT_ HW_ => ?_)
                          generalize wc.drew = w70 at BK262 BK263 HB hHeld ⊢
                          refine pure_ (i := 0) (N := some 75) (v := ?_) (a' := ?_) #[true, false, false, false, false, false, false, false, false] rfl rfl (any_of HT_.out (by kernel_rfl)) (fun _ _ _ h => h) (Or.inl ⟨by rfl, ?_⟩) ?_ ?_
                          rotate_left
                          · intro w'
                            go_simp
                            with_reducible rfl
                          rotate_left
                          · simp only [Act.put, List.setIfInBounds_toArray, List.set_cons_zero, List.set_cons_succ]; (try simp only [i64_w]); (try simp only [i32_w])
                            rfl
                          refine pure_ (i := 2) (N := some 77) (v := ?_) (a' := ?_) #[true, false, true, false, false, false, false, false, false] rfl rfl (any_of HT_.out (by kernel_rfl)) (fun _ _ _ h => h) (Or.inl ⟨by rfl, ?_⟩) ?_ ?_
                          rotate_left
                          · intro w'
                            go_simp
                            with_reducible rfl
                          rotate_left
                          · simp only [Act.put, List.setIfInBounds_toArray, List.set_cons_zero, List.set_cons_succ]; (try simp only [i64_w]); (try simp only [i32_w])
                            rfl
                          refine pure_ (i := 3) (N := some 78) (v := ?_) (a' := ?_) #[true, false, true, true, false, false, false, false, false] rfl rfl (any_of HT_.out (by kernel_rfl)) (fun _ _ _ h => h) (Or.inl ⟨by rfl, ?_⟩) ?_ ?_
                          rotate_left
                          · intro w'
                            go_simp
                            with_reducible rfl
                          rotate_left
                          · simp only [Act.put, List.setIfInBounds_toArray, List.set_cons_zero, List.set_cons_succ]; (try simp only [i64_w]); (try simp only [i32_w])
                            rfl
                          refine pure_ (i := 5) (N := some 80) (v := ?_) (a' := ?_) #[true, false, true, true, false, true, false, false, false] rfl rfl (any_of HT_.out (by kernel_rfl)) (fun _ _ _ h => h) (Or.inl ⟨by rfl, ?_⟩) ?_ ?_
                          rotate_left
                          · intro w'
                            go_simp
                            with_reducible rfl
                          rotate_left
                          · simp only [Act.put, List.setIfInBounds_toArray, List.set_cons_zero, List.set_cons_succ]; (try simp only [i64_w]); (try simp only [i32_w])
                            rfl
                          refine take_ (i := 1) (N := some 76) (v := ?_) (a' := ?_) #[true, true, true, true, false, true, false, false, false] rfl rfl (take_ofW HT_.out HW_.out (by kernel_rfl)) (fun _ _ _ h => h) (Or.inl ⟨by rfl, ?_⟩) hHeld ?_ ?_
                          rotate_left
                          · rintro w' ⟨s0, s1, s2⟩
                            go_simp
                            with_reducible rfl
                          rotate_left
                          · simp only [Act.put, List.setIfInBounds_toArray, List.set_cons_zero, List.set_cons_succ]; (try simp only [i64_w]); (try simp only [i32_w])
                            rfl
                          refine one_ (i := 4) (N := some 79) #[true, true, true, true, true, true, false, false, false] rfl rfl (one_of HT_.out (by kernel_rfl)) (by decide) (fun K hK => ?_)
                          refine goes_ Tryd.func46 (by kernel_rfl) rfl #[.string t267, .string (t264 ++ t265)] (by rfl) rfl rfl (by (try simp only [List.map_toArray]); (try simp only [List.map_cons]); (try simp only [List.map_nil]); first | done | rfl | (simp only [List.length_drop, List.length_take]; rfl)) ?_
                          with_reducible refine (figureheadref01_Times.calls kj45 t267 (t264 ++ t265) t281 _ A66.out).mono ?_
                          rintro e w71 ⟨rfl, hb⟩
                          refine ⟨_, rfl, ?_⟩
                          have n0_ := Aside0.mk (blk_below (g := gb262) (o := .cells #[.bool a1_0, .string a1_1, .int .i64 a1_2] 23 (0, 0)) (by (with_reducible repeat (first | refine blk_drewN ?_ _ | refine blk_drew ?_ | refine blk_alloc ?_ _)); exact BK262.out) hb)
                          have n1_ := Aside0.mk (blk_below (g := gb263) (o := .cells #[.bool false, .string (⟨#[]⟩ : ByteArray), .int .i64 0] 23 (0, 0)) (by (with_reducible repeat (first | refine blk_drewN ?_ _ | refine blk_drew ?_ | refine blk_alloc ?_ _)); exact BK263.out) hb)
                          have n2_ := Aside0.mk (below_step (by repeat (first | (with_reducible first | exact HB.out | apply below_alloc | apply pw_below_drewN | apply below_drew1 | refine below_set ?_ GE262.out | refine below_set ?_ GE263.out) | exact HB.out)) hb)
                          clear BK262
                          clear BK263
                          clear HB
                          have BK262 := n0_
                          have BK263 := n1_
                          have HB := n2_
                          clear n0_ n1_ n2_
                          (try clear hb)
                          (try clear hb2)
                          (try clear hk)
                          (try clear hi)
                          refine hK.out _ _ ⟨(blk_cell BK262.out 0).trans rfl, (blk_cell BK262.out 1).trans rfl, (blk_cell BK262.out 2).trans rfl⟩ (fun hHeld => ?_)
                          clear hK K
                          refine norm_ (a' := ?_) ?_ ?_
                          rotate_left
                          · show Act.put _ (some 79) _ = _
                            simp only [Act.put, List.setIfInBounds_toArray, List.set_cons_zero, List.set_cons_succ]; (try simp only [i64_w]); (try simp only [i32_w])
                            rfl
                          refine one_ (i := 6) (N := some 81) #[true, true, true, true, true, true, true, false, false] rfl rfl (one_of HT_.out (by kernel_rfl)) (by decide) (fun K hK => ?_)
                          refine goes_ Tryd.func45 (by kernel_rfl) rfl #[.bool a1_0, .string t281, .int .i64 x10_4] (by rfl) rfl rfl (by (try simp only [List.map_toArray]); (try simp only [List.map_cons]); (try simp only [List.map_nil]); first | done | rfl | (simp only [List.length_drop, List.length_take]; rfl)) ?_
                          with_reducible refine (figureheadref05_Make.calls kj45 a1_0 t281 x10_4 t282 t283 t284 _ A67.out).mono ?_
                          rintro e w72 ⟨rfl, hb⟩
                          refine ⟨_, rfl, ?_⟩
                          have n0_ := Aside0.mk (blk_below (g := gb262) (o := .cells #[.bool a1_0, .string a1_1, .int .i64 a1_2] 23 (0, 0)) (by (with_reducible repeat (first | refine blk_drewN ?_ _ | refine blk_drew ?_ | refine blk_alloc ?_ _)); exact BK262.out) hb)
                          have n1_ := Aside0.mk (blk_below (g := gb263) (o := .cells #[.bool false, .string (⟨#[]⟩ : ByteArray), .int .i64 0] 23 (0, 0)) (by (with_reducible repeat (first | refine blk_drewN ?_ _ | refine blk_drew ?_ | refine blk_alloc ?_ _)); exact BK263.out) hb)
                          have n2_ := Aside0.mk (below_step (by repeat (first | (with_reducible first | exact HB.out | apply below_alloc | apply pw_below_drewN | apply below_drew1 | refine below_set ?_ GE262.out | refine below_set ?_ GE263.out) | exact HB.out)) hb)
                          clear BK262
                          clear BK263
                          clear HB
                          have BK262 := n0_
                          have BK263 := n1_
                          have HB := n2_
                          clear n0_ n1_ n2_
                          (try clear hb)
                          (try clear hb2)
                          (try clear hk)
                          (try clear hi)
                          refine hK.out _ _ ⟨(blk_cell BK262.out 0).trans rfl, (blk_cell BK262.out 1).trans rfl, (blk_cell BK262.out 2).trans rfl⟩ (fun hHeld => ?_)
                          clear hK K
                          refine norm_ (a' := ?_) ?_ ?_
                          rotate_left
                          · show Act.put _ (some 81) _ = _
                            simp only [Act.put, List.setIfInBounds_toArray, List.set_cons_zero, List.set_cons_succ]; (try simp only [i64_w]); (try simp only [i32_w])
                            rfl
                          refine one_ (i := 7) (N := none) #[true, true, true, true, true, true, true, true, false] rfl rfl (one_of HT_.out (by kernel_rfl)) (by decide) (fun K hK => ?_)
                          have hs73 : w72.cell? ⟨gb263, 0, none⟩ = some (.bool false) := (blk_cell BK263.out 0).trans rfl
                          have hfs73 := blk_frozen BK263.out 0
                          have hns73_0 := NB262_263.out
                          have hms73_0 := NB263_262.out
                          have hs74 : w72.cell? ⟨gb263, 1, none⟩ = some (.string (⟨#[]⟩ : ByteArray)) := (blk_cell BK263.out 1).trans rfl
                          have hfs74 := blk_frozen BK263.out 1
                          have hns74_0 := NB262_263.out
                          have hms74_0 := NB263_262.out
                          have hs75 : w72.cell? ⟨gb263, 2, none⟩ = some (.int .i64 0) := (blk_cell BK263.out 2).trans rfl
                          have hfs75 := blk_frozen BK263.out 2
                          have hns75_0 := NB262_263.out
                          have hms75_0 := NB263_262.out
                          refine skip_ (w1 := ?_) (by rfl) rfl ?_ ?_
                          rotate_left
                          · go_simp
                            rfl
                          refine hK.out _ _ ⟨((cell_far (p := ⟨gb263, _, none⟩) NB262_263.out _).trans (((cell_far (p := ⟨gb263, _, none⟩) NB262_263.out _).trans (((cell_far (p := ⟨gb263, _, none⟩) NB262_263.out _).trans (hHeld.1)))))), ((cell_far (p := ⟨gb263, _, none⟩) NB262_263.out _).trans (((cell_far (p := ⟨gb263, _, none⟩) NB262_263.out _).trans (((cell_far (p := ⟨gb263, _, none⟩) NB262_263.out _).trans (hHeld.2.1)))))), ((cell_far (p := ⟨gb263, _, none⟩) NB262_263.out _).trans (((cell_far (p := ⟨gb263, _, none⟩) NB262_263.out _).trans (((cell_far (p := ⟨gb263, _, none⟩) NB262_263.out _).trans (hHeld.2.2))))))⟩ (fun hHeld => ?_)
                          clear hK K
                          refine pure_ (i := 8) (N := some 9) (v := ?_) (a' := ?_) #[true, true, true, true, true, true, true, true, true] rfl rfl (any_of HT_.out (by kernel_rfl)) (fun _ _ _ h => h) (Or.inl ⟨by rfl, ?_⟩) ?_ ?_
                          rotate_left
                          · intro w'
                            go_simp
                            with_reducible rfl
                          rotate_left
                          · simp only [Act.put, List.setIfInBounds_toArray, List.set_cons_zero, List.set_cons_succ]; (try simp only [i64_w]); (try simp only [i32_w])
                            rfl
                          refine done_ (done_of HT_.out (by kernel_rfl)) ?_
                          try go_wp2
                          refine bodyPost_ret (results_ct rfl _ _ gb263 23 #[.bool t282, .string t283, .int .i64 t284] (0, 0) _ rfl (by (with_reducible repeat (first | refine blk_drewN ?_ _ | refine blk_drew ?_ | refine blk_alloc ?_ _)); refine blk_put (cs := #[.bool t282, .string t283, .int .i64 0]) ?_ 2 _ rfl; (with_reducible repeat (first | refine blk_drewN ?_ _ | refine blk_drew ?_ | refine blk_alloc ?_ _)); refine blk_put (cs := #[.bool t282, .string (⟨#[]⟩ : ByteArray), .int .i64 0]) ?_ 1 _ rfl; (with_reducible repeat (first | refine blk_drewN ?_ _ | refine blk_drew ?_ | refine blk_alloc ?_ _)); refine blk_put (cs := #[.bool false, .string (⟨#[]⟩ : ByteArray), .int .i64 0]) ?_ 0 _ rfl; (with_reducible repeat (first | refine blk_drewN ?_ _ | refine blk_drew ?_ | refine blk_alloc ?_ _)); exact BK263.out) Tryd.underlying23 rfl (by kernel_rfl)) rfl ?_
                          exact ⟨by first | rfl | (simp [errW_none, errW_some] <;> rfl) | (simp [*, errW_none, errW_some] <;> rfl), by repeat (first | (with_reducible first | exact HB.out | apply below_alloc | apply pw_below_drewN | apply below_drew1 | refine below_set ?_ GE262.out | refine below_set ?_ GE263.out) | exact HB.out)⟩
      · rw [if_neg c13] at H
        exact absurd H (by simp)
end Go.Proofs.YtjpokifkbclkiaaDoor.Px
end
section
namespace Go.Proofs.YtjpokifkbclkiaaDoor.Px
open Fig Go.RowKit Go.Proofs.YtjpokifkbclkiaaDoorW.PrintWords Go.Proofs.YtjpokifkbclkiaaDoorW.PrintLast Go.Proofs.YtjpokifkbclkiaaDoorW.PrintMore
attribute [local go_sem] max2_int min2_int max_two min_two max_three min_three max_four min_four   -- for this text's walks alone
attribute [local go_sem] fieldA23_0 fieldA23_1 fieldA23_2
def figureheadref05_Digits.l0 : Nat → ByteArray → Int → Option (Bool)
  | 0, _, _ => none
  | k + 1, x0, x3 => if x3 < (x0.size : Int) then (if 0 ≤ x3 then (if (bt x0 x3) < 48 then (some false) else (if (bt x0 x3) > 57 then (some false) else (figureheadref05_Digits.l0 k x0 (wrap64 (x3 + 1))))) else (none)) else (some (x0.toList != ([] : List UInt8)))
def figureheadref05_Digits.f (k : Nat) (a0 : ByteArray) : Option (Bool) := figureheadref05_Digits.l0 k a0 0
theorem figureheadref05_Digits.mono_l : ∀ k, (∀ y0 y1, LeO (figureheadref05_Digits.l0 k y0 y1) (figureheadref05_Digits.l0 (k + 1) y0 y1))
  | 0 => fun _ _ r h => by simp [figureheadref05_Digits.l0] at h
  | k + 1 => by
    have ih0 := figureheadref05_Digits.mono_l k
    · intro y0 y1
      unfold figureheadref05_Digits.l0
      repeat' first
      | (with_reducible exact ih0 _ _)
      | (with_reducible exact LeO.refl _)
      | (with_reducible exact LeO.none _)
      | (with_reducible refine LeO.ite ?_ ?_)
      | (with_reducible refine LeO.bind ?_ (fun _ => ?_))
      | exact ih0 _ _
      | exact LeO.none _
      | refine LeO.ite ?_ ?_
      | refine LeO.bind ?_ (fun _ => ?_)
theorem figureheadref05_Digits.mono : ∀ a0 k, LeO (figureheadref05_Digits.f k a0) (figureheadref05_Digits.f (k + 1) a0) := by
  intro a0 k
  have ih0 := figureheadref05_Digits.mono_l k
  unfold figureheadref05_Digits.f
  repeat' first
      | (with_reducible exact ih0 _ _)
      | (with_reducible exact LeO.refl _)
      | (with_reducible exact LeO.none _)
      | (with_reducible refine LeO.ite ?_ ?_)
      | (with_reducible refine LeO.bind ?_ (fun _ => ?_))
      | exact ih0 _ _
      | exact LeO.none _
      | refine LeO.ite ?_ ?_
      | refine LeO.bind ?_ (fun _ => ?_)
set_option maxHeartbeats 8000000 in
set_option maxRecDepth 100000 in
theorem figureheadref05_Digits.calls (k : Nat) (a0 : ByteArray) (r : Bool) (w : World) (h : figureheadref05_Digits.f k a0 = some r) :
    Calls Tryd.prog 50 #[.string a0] w fun e w' => e = .returned (.bool r) ∧ Drawn0 w w' := by
  have H : (figureheadref05_Digits.l0 k a0 0) = some r := h
  clear h
  have H' := Aside0.mk H
  clear H
  go_enter Tryd.func50, Tryd.ntmps50
  go_wp2
  go_loopg [3] k (fun kq v3 w' => ∃ (x3_1 : Int), v3 = .int .i64 x3_1 ∧ Aside0 (figureheadref05_Digits.l0 kq a0 x3_1 = some r) ∧ Aside0 (kq ≤ k) ∧ Drawn0 w w')
  case atStart => exact ⟨(0), (by first | rfl | (simp; done) | (simp [*]; done) | (simp [*, Fig.bne_nil]; done)), H', ⟨Nat.le_refl _⟩, by repeat (first | exact Drawn0.refl _ | apply Drawn0.step)⟩
  case round =>
    clear H'
    obtain ⟨x3_1, rfl, HA, HK1, ⟨m1, rfl⟩⟩ := hrel
    cases gk with
    | zero => exact absurd HA.out (by simp [figureheadref05_Digits.l0])
    | succ k1 =>
      have H := HA.out
      clear HA
      simp only [figureheadref05_Digits.l0] at H
      by_cases c2 : x3_1 < (a0.size : Int)
      · rw [if_pos c2] at H
        have c2b0 : decide (x3_1 < (a0.size : Int)) = true := decide_eq_true c2
        clear c2
        by_cases c3 : 0 ≤ x3_1
        · rw [if_pos c3] at H
          have c3b0 : decide (0 ≤ x3_1) = true := decide_eq_true c3
          clear c3
          by_cases c5 : (bt a0 x3_1) < 48
          · rw [if_pos c5] at H
            have c5b0 : decide ((bt a0 x3_1) < 48) = true := decide_eq_true c5
            clear c5
            obtain rfl := Option.some.inj H
            have p4 : 0 ≤ (x3_1 : Int) := of_decide_eq_true (by first | (with_reducible assumption) | assumption)
            have q4 : x3_1 < (a0.size : Int) := of_decide_eq_true (by first | (with_reducible assumption) | assumption)
            have hx4 := bt_at a0 x3_1
            replace p4 := eq_true p4
            replace q4 := eq_true q4
            go_wp2
            go_ret
            exact ⟨by first | rfl | (simp; done) | (simp [*]; done) | (simp [*, Fig.bne_nil]; done), by repeat (first | exact Drawn0.refl _ | apply Drawn0.step)⟩
          · rw [if_neg c5] at H
            have c5b0 : decide ((bt a0 x3_1) < 48) = false := decide_eq_false c5
            clear c5
            by_cases c7 : (bt a0 x3_1) > 57
            · rw [if_pos c7] at H
              have c7b0 : decide (57 < (bt a0 x3_1)) = true := decide_eq_true c7
              clear c7
              obtain rfl := Option.some.inj H
              have p4 : 0 ≤ (x3_1 : Int) := of_decide_eq_true (by first | (with_reducible assumption) | assumption)
              have q4 : x3_1 < (a0.size : Int) := of_decide_eq_true (by first | (with_reducible assumption) | assumption)
              have hx4 := bt_at a0 x3_1
              replace p4 := eq_true p4
              replace q4 := eq_true q4
              have p6 : 0 ≤ (x3_1 : Int) := of_decide_eq_true (by first | (with_reducible assumption) | assumption)
              have q6 : x3_1 < (a0.size : Int) := of_decide_eq_true (by first | (with_reducible assumption) | assumption)
              have hx6 := bt_at a0 x3_1
              replace p6 := eq_true p6
              replace q6 := eq_true q6
              go_wp2
              go_ret
              exact ⟨by first | rfl | (simp; done) | (simp [*]; done) | (simp [*, Fig.bne_nil]; done), by repeat (first | exact Drawn0.refl _ | apply Drawn0.step)⟩
            · rw [if_neg c7] at H
              have c7b0 : decide (57 < (bt a0 x3_1)) = false := decide_eq_false c7
              clear c7
              have H' := Aside0.mk H
              clear H
              have p4 : 0 ≤ (x3_1 : Int) := of_decide_eq_true (by first | (with_reducible assumption) | assumption)
              have q4 : x3_1 < (a0.size : Int) := of_decide_eq_true (by first | (with_reducible assumption) | assumption)
              have hx4 := bt_at a0 x3_1
              replace p4 := eq_true p4
              replace q4 := eq_true q4
              have p6 : 0 ≤ (x3_1 : Int) := of_decide_eq_true (by first | (with_reducible assumption) | assumption)
              have q6 : x3_1 < (a0.size : Int) := of_decide_eq_true (by first | (with_reducible assumption) | assumption)
              have hx6 := bt_at a0 x3_1
              replace p6 := eq_true p6
              replace q6 := eq_true q6
              go_wp2
              go_roundg k1
              case measure => have := HK1.out; omega
              case rel => exact ⟨(wrap64 (x3_1 + 1)), (by first | rfl | (simp; done) | (simp [*]; done) | (simp [*, Fig.bne_nil]; done)), H', ⟨by have := HK1.out; omega⟩, by repeat (first | exact Drawn0.refl _ | apply Drawn0.step)⟩
        · rw [if_neg c3] at H
          exact absurd H (by simp)
      · rw [if_neg c2] at H
        have c2b0 : decide (x3_1 < (a0.size : Int)) = false := decide_eq_false c2
        clear c2
        obtain rfl := Option.some.inj H
        go_wp2
        go_ret
        exact ⟨by first | rfl | (simp; done) | (simp [*]; done) | (simp [*, Fig.bne_nil]; done), by repeat (first | exact Drawn0.refl _ | apply Drawn0.step)⟩
end Go.Proofs.YtjpokifkbclkiaaDoor.Px
end
section
namespace Go.Proofs.YtjpokifkbclkiaaDoor.Px
open Fig Go.RowKit Go.Proofs.YtjpokifkbclkiaaDoorW.PrintWords Go.Proofs.YtjpokifkbclkiaaDoorW.PrintLast Go.Proofs.YtjpokifkbclkiaaDoorW.PrintMore
attribute [local go_sem] max2_int min2_int max_two min_two max_three min_three max_four min_four   -- for this text's walks alone
attribute [local go_sem] fieldA23_0 fieldA23_1 fieldA23_2
def figureheadref05_Good.f (k : Nat) (a0_0 : Bool) (a0_1 : ByteArray) (a0_2 : Int) : Option (Bool) := (figureheadref05_Digits.f k a0_1).bind fun t102 => (if t102 = true then (if (a0_1.size : Int) ≤ 1000 then (if a0_2 ≥ (-1000) then (some (decide (a0_2 ≤ 1000))) else (some false)) else (some false)) else (some false))
theorem figureheadref05_Good.mono : ∀ a0 a1 a2 k, LeO (figureheadref05_Good.f k a0 a1 a2) (figureheadref05_Good.f (k + 1) a0 a1 a2) := by
  intro a0 a1 a2 k
  unfold figureheadref05_Good.f
  repeat' first
      | (with_reducible exact figureheadref05_Digits.mono _ _)
      | (with_reducible exact LeO.refl _)
      | (with_reducible exact LeO.none _)
      | (with_reducible refine LeO.ite ?_ ?_)
      | (with_reducible refine LeO.bind ?_ (fun _ => ?_))
      | exact figureheadref05_Digits.mono _ _
      | exact LeO.none _
      | refine LeO.ite ?_ ?_
      | refine LeO.bind ?_ (fun _ => ?_)
set_option maxHeartbeats 8000000 in
set_option maxRecDepth 100000 in
theorem figureheadref05_Good.calls (k : Nat) (a0_0 : Bool) (a0_1 : ByteArray) (a0_2 : Int) (r : Bool) (w : World) (h : figureheadref05_Good.f k a0_0 a0_1 a0_2 = some r) :
    Calls Tryd.prog 29 #[.agg #[.bool a0_0, .string a0_1, .int .i64 a0_2]] w fun e w' => e = .returned (.bool r) ∧ Below w.heap.size w w' := by
  have hu23 := Tryd.underlying23
  have HB := Aside0.mk (Below.refl w.heap.size w)
  have H : ((figureheadref05_Digits.f k a0_1).bind fun t102 => (if t102 = true then (if (a0_1.size : Int) ≤ 1000 then (if a0_2 ≥ (-1000) then (some (decide (a0_2 ≤ 1000))) else (some false)) else (some false)) else (some false))) = some r := h
  clear h
  replace H := Option.bind_eq_some_iff.mp H
  obtain ⟨t102, A20, H⟩ := H
  replace H : (if t102 = true then (if (a0_1.size : Int) ≤ 1000 then (if a0_2 ≥ (-1000) then (some (decide (a0_2 ≤ 1000))) else (some false)) else (some false)) else (some false)) = some r := H
  have A2 := Aside0.mk A20
  clear A20
  by_cases c3 : t102 = true
  · subst c3
    have H1 : (if (a0_1.size : Int) ≤ 1000 then (if a0_2 ≥ (-1000) then (some (decide (a0_2 ≤ 1000))) else (some false)) else (some false)) = some r := by rw [if_pos rfl] at H; exact H
    clear H
    have H := H1
    clear H1
    by_cases c4 : (a0_1.size : Int) ≤ 1000
    · rw [if_pos c4] at H
      have c4b0 : decide ((a0_1.size : Int) ≤ 1000) = true := decide_eq_true c4
      have c4b1 : decide (a0_1.size ≤ 1000) = true := decide_eq_true (by omega)
      clear c4
      by_cases c5 : a0_2 ≥ (-1000)
      · rw [if_pos c5] at H
        have c5b0 : decide ((-1000) ≤ a0_2) = true := decide_eq_true c5
        clear c5
        obtain rfl := Option.some.inj H
        go_enter Tryd.func29, Tryd.ntmps29
        go_wp2_with (first | ((with_reducible refine gate_dst (N := 1) rfl ?_); (try (refine gate_guard (by rfl) ?_; dsimp only)); refine box_event ?hg (N := 1) ?hd (cs := #[.bool a0_0, .string a0_1, .int .i64 a0_2]) (t := 23) ?hr ?_; (case hd => rfl); (case hg => rfl); (case hr => first | (go_simp; done) | (go_simp; rfl)); intro gb101 hg w6 hbox hb; have n0_ := Aside0.mk (below_step (by repeat (first | (with_reducible first | exact HB.out | apply below_alloc | apply pw_below_drewN | apply below_drew1) | exact HB.out)) hb); have n1_ := Aside0.mk (hbox); have n2_ := Aside0.mk ((by rw [hg]; exact (below_size (by repeat (first | (with_reducible first | exact HB.out | apply below_alloc | apply pw_below_drewN | apply below_drew1) | exact HB.out))) : w.heap.size ≤ gb101)); have n3_ := Aside0.mk ((by rw [hg]; exact (below_size (by repeat (first | (with_reducible first | exact HB.out | apply below_alloc | apply pw_below_drewN | apply below_drew1) | exact HB.out))) : w.heap.size ≤ gb101)); clear HB; have HB := n0_; have BK101 := n1_; have GW101 := n2_; have GE101 := n3_; clear n0_ n1_ n2_ n3_; clear hb hbox hg; have hcz7_0 : w6.cell? ⟨gb101, 0, none⟩ = some (.bool a0_0) := (blk_cell BK101.out 0).trans rfl; have hcz7_1 : w6.cell? ⟨gb101, 1, none⟩ = some (.string a0_1) := (blk_cell BK101.out 1).trans rfl; have hcz7_2 : w6.cell? ⟨gb101, 2, none⟩ = some (.int .i64 a0_2) := (blk_cell BK101.out 2).trans rfl; have hfz7_0 := blk_frozen BK101.out 0; have hfz7_1 := blk_frozen BK101.out 1; have hfz7_2 := blk_frozen BK101.out 2) | ((with_reducible refine gate_callee (f := 50) rfl ?_); refine goesL_ (some 5) rfl rfl Tryd.func50 (by kernel_rfl) rfl #[.string a0_1] rfl (by (try simp only [List.map_toArray]); (try simp only [List.map_cons]); (try simp only [List.map_nil]); first | done | rfl | (simp only [List.length_drop, List.length_take]; rfl)) ?_; (with_reducible refine (figureheadref05_Digits.calls k a0_1 true _ A2.out).mono ?_); rintro e w' ⟨rfl, ⟨nd, rfl⟩⟩; refine ⟨_, rfl, ?_⟩))
        go_ret
        exact ⟨by first | rfl | (simp [errW_none, errW_some] <;> rfl) | (simp [*, errW_none, errW_some] <;> rfl), by repeat (first | (with_reducible first | exact HB.out | apply below_alloc | apply pw_below_drewN | apply below_drew1 | refine below_set ?_ GE101.out) | exact HB.out)⟩
      · rw [if_neg c5] at H
        have c5b0 : decide ((-1000) ≤ a0_2) = false := decide_eq_false c5
        clear c5
        obtain rfl := Option.some.inj H
        go_enter Tryd.func29, Tryd.ntmps29
        go_wp2_with (first | ((with_reducible refine gate_dst (N := 1) rfl ?_); (try (refine gate_guard (by rfl) ?_; dsimp only)); refine box_event ?hg (N := 1) ?hd (cs := #[.bool a0_0, .string a0_1, .int .i64 a0_2]) (t := 23) ?hr ?_; (case hd => rfl); (case hg => rfl); (case hr => first | (go_simp; done) | (go_simp; rfl)); intro gb101 hg w8 hbox hb; have n0_ := Aside0.mk (below_step (by repeat (first | (with_reducible first | exact HB.out | apply below_alloc | apply pw_below_drewN | apply below_drew1) | exact HB.out)) hb); have n1_ := Aside0.mk (hbox); have n2_ := Aside0.mk ((by rw [hg]; exact (below_size (by repeat (first | (with_reducible first | exact HB.out | apply below_alloc | apply pw_below_drewN | apply below_drew1) | exact HB.out))) : w.heap.size ≤ gb101)); have n3_ := Aside0.mk ((by rw [hg]; exact (below_size (by repeat (first | (with_reducible first | exact HB.out | apply below_alloc | apply pw_below_drewN | apply below_drew1) | exact HB.out))) : w.heap.size ≤ gb101)); clear HB; have HB := n0_; have BK101 := n1_; have GW101 := n2_; have GE101 := n3_; clear n0_ n1_ n2_ n3_; clear hb hbox hg; have hcz9_0 : w8.cell? ⟨gb101, 0, none⟩ = some (.bool a0_0) := (blk_cell BK101.out 0).trans rfl; have hcz9_1 : w8.cell? ⟨gb101, 1, none⟩ = some (.string a0_1) := (blk_cell BK101.out 1).trans rfl; have hcz9_2 : w8.cell? ⟨gb101, 2, none⟩ = some (.int .i64 a0_2) := (blk_cell BK101.out 2).trans rfl; have hfz9_0 := blk_frozen BK101.out 0; have hfz9_1 := blk_frozen BK101.out 1; have hfz9_2 := blk_frozen BK101.out 2) | ((with_reducible refine gate_callee (f := 50) rfl ?_); refine goesL_ (some 5) rfl rfl Tryd.func50 (by kernel_rfl) rfl #[.string a0_1] rfl (by (try simp only [List.map_toArray]); (try simp only [List.map_cons]); (try simp only [List.map_nil]); first | done | rfl | (simp only [List.length_drop, List.length_take]; rfl)) ?_; (with_reducible refine (figureheadref05_Digits.calls k a0_1 true _ A2.out).mono ?_); rintro e w' ⟨rfl, ⟨nd, rfl⟩⟩; refine ⟨_, rfl, ?_⟩))
        go_ret
        exact ⟨by first | rfl | (simp [errW_none, errW_some] <;> rfl) | (simp [*, errW_none, errW_some] <;> rfl), by repeat (first | (with_reducible first | exact HB.out | apply below_alloc | apply pw_below_drewN | apply below_drew1 | refine below_set ?_ GE101.out) | exact HB.out)⟩
    · rw [if_neg c4] at H
      have c4b0 : decide ((a0_1.size : Int) ≤ 1000) = false := decide_eq_false c4
      have c4b1 : decide (a0_1.size ≤ 1000) = false := decide_eq_false (by omega)
      clear c4
      obtain rfl := Option.some.inj H
      go_enter Tryd.func29, Tryd.ntmps29
      go_wp2_with (first | ((with_reducible refine gate_dst (N := 1) rfl ?_); (try (refine gate_guard (by rfl) ?_; dsimp only)); refine box_event ?hg (N := 1) ?hd (cs := #[.bool a0_0, .string a0_1, .int .i64 a0_2]) (t := 23) ?hr ?_; (case hd => rfl); (case hg => rfl); (case hr => first | (go_simp; done) | (go_simp; rfl)); intro gb101 hg w10 hbox hb; have n0_ := Aside0.mk (below_step (by repeat (first | (with_reducible first | exact HB.out | apply below_alloc | apply pw_below_drewN | apply below_drew1) | exact HB.out)) hb); have n1_ := Aside0.mk (hbox); have n2_ := Aside0.mk ((by rw [hg]; exact (below_size (by repeat (first | (with_reducible first | exact HB.out | apply below_alloc | apply pw_below_drewN | apply below_drew1) | exact HB.out))) : w.heap.size ≤ gb101)); have n3_ := Aside0.mk ((by rw [hg]; exact (below_size (by repeat (first | (with_reducible first | exact HB.out | apply below_alloc | apply pw_below_drewN | apply below_drew1) | exact HB.out))) : w.heap.size ≤ gb101)); clear HB; have HB := n0_; have BK101 := n1_; have GW101 := n2_; have GE101 := n3_; clear n0_ n1_ n2_ n3_; clear hb hbox hg; have hcz11_0 : w10.cell? ⟨gb101, 0, none⟩ = some (.bool a0_0) := (blk_cell BK101.out 0).trans rfl; have hcz11_1 : w10.cell? ⟨gb101, 1, none⟩ = some (.string a0_1) := (blk_cell BK101.out 1).trans rfl; have hcz11_2 : w10.cell? ⟨gb101, 2, none⟩ = some (.int .i64 a0_2) := (blk_cell BK101.out 2).trans rfl; have hfz11_0 := blk_frozen BK101.out 0; have hfz11_1 := blk_frozen BK101.out 1; have hfz11_2 := blk_frozen BK101.out 2) | ((with_reducible refine gate_callee (f := 50) rfl ?_); refine goesL_ (some 5) rfl rfl Tryd.func50 (by kernel_rfl) rfl #[.string a0_1] rfl (by (try simp only [List.map_toArray]); (try simp only [List.map_cons]); (try simp only [List.map_nil]); first | done | rfl | (simp only [List.length_drop, List.length_take]; rfl)) ?_; (with_reducible refine (figureheadref05_Digits.calls k a0_1 true _ A2.out).mono ?_); rintro e w' ⟨rfl, ⟨nd, rfl⟩⟩; refine ⟨_, rfl, ?_⟩))
      go_ret
      exact ⟨by first | rfl | (simp [errW_none, errW_some] <;> rfl) | (simp [*, errW_none, errW_some] <;> rfl), by repeat (first | (with_reducible first | exact HB.out | apply below_alloc | apply pw_below_drewN | apply below_drew1 | refine below_set ?_ GE101.out) | exact HB.out)⟩
  · replace c3 := Bool.eq_false_iff.mpr c3
    subst c3
    have H1 : (some false) = some r := by rw [if_neg (show ¬ (false = true) by decide)] at H; exact H
    clear H
    have H := H1
    clear H1
    obtain rfl := Option.some.inj H
    go_enter Tryd.func29, Tryd.ntmps29
    go_wp2_with (first | ((with_reducible refine gate_dst (N := 1) rfl ?_); (try (refine gate_guard (by rfl) ?_; dsimp only)); refine box_event ?hg (N := 1) ?hd (cs := #[.bool a0_0, .string a0_1, .int .i64 a0_2]) (t := 23) ?hr ?_; (case hd => rfl); (case hg => rfl); (case hr => first | (go_simp; done) | (go_simp; rfl)); intro gb101 hg w12 hbox hb; have n0_ := Aside0.mk (below_step (by repeat (first | (with_reducible first | exact HB.out | apply below_alloc | apply pw_below_drewN | apply below_drew1) | exact HB.out)) hb); have n1_ := Aside0.mk (hbox); have n2_ := Aside0.mk ((by rw [hg]; exact (below_size (by repeat (first | (with_reducible first | exact HB.out | apply below_alloc | apply pw_below_drewN | apply below_drew1) | exact HB.out))) : w.heap.size ≤ gb101)); have n3_ := Aside0.mk ((by rw [hg]; exact (below_size (by repeat (first | (with_reducible first | exact HB.out | apply below_alloc | apply pw_below_drewN | apply below_drew1) | exact HB.out))) : w.heap.size ≤ gb101)); clear HB; have HB := n0_; have BK101 := n1_; have GW101 := n2_; have GE101 := n3_; clear n0_ n1_ n2_ n3_; clear hb hbox hg; have hcz13_0 : w12.cell? ⟨gb101, 0, none⟩ = some (.bool a0_0) := (blk_cell BK101.out 0).trans rfl; have hcz13_1 : w12.cell? ⟨gb101, 1, none⟩ = some (.string a0_1) := (blk_cell BK101.out 1).trans rfl; have hcz13_2 : w12.cell? ⟨gb101, 2, none⟩ = some (.int .i64 a0_2) := (blk_cell BK101.out 2).trans rfl; have hfz13_0 := blk_frozen BK101.out 0; have hfz13_1 := blk_frozen BK101.out 1; have hfz13_2 := blk_frozen BK101.out 2) | ((with_reducible refine gate_callee (f := 50) rfl ?_); refine goesL_ (some 5) rfl rfl Tryd.func50 (by kernel_rfl) rfl #[.string a0_1] rfl (by (try simp only [List.map_toArray]); (try simp only [List.map_cons]); (try simp only [List.map_nil]); first | done | rfl | (simp only [List.length_drop, List.length_take]; rfl)) ?_; (with_reducible refine (figureheadref05_Digits.calls k a0_1 false _ A2.out).mono ?_); rintro e w' ⟨rfl, ⟨nd, rfl⟩⟩; refine ⟨_, rfl, ?_⟩))
    go_ret
    exact ⟨by first | rfl | (simp [errW_none, errW_some] <;> rfl) | (simp [*, errW_none, errW_some] <;> rfl), by repeat (first | (with_reducible first | exact HB.out | apply below_alloc | apply pw_below_drewN | apply below_drew1 | refine below_set ?_ GE101.out) | exact HB.out)⟩
end Go.Proofs.YtjpokifkbclkiaaDoor.Px
end
section
namespace Go.Proofs.YtjpokifkbclkiaaDoor.Px
open Fig Go.RowKit Go.Proofs.YtjpokifkbclkiaaDoorW.PrintWords Go.Proofs.YtjpokifkbclkiaaDoorW.PrintLast Go.Proofs.YtjpokifkbclkiaaDoorW.PrintMore
attribute [local go_sem] max2_int min2_int max_two min_two max_three min_three max_four min_four   -- for this text's walks alone
attribute [local go_sem] fieldA23_0 fieldA23_1 fieldA23_2
def figureheadlaw09_good.f (k : Nat) (a0_0 : Bool) (a0_1 : ByteArray) (a0_2 : Int) : Option (Bool) := (figureheadref05_Good.f k a0_0 a0_1 a0_2).bind fun t438 => (if t438 = true then (if (a0_1.size : Int) ≤ 100 then (if a0_2 ≥ (-300) then (some (decide (a0_2 ≤ 300))) else (some false)) else (some false)) else (some false))
theorem figureheadlaw09_good.mono : ∀ a0 a1 a2 k, LeO (figureheadlaw09_good.f k a0 a1 a2) (figureheadlaw09_good.f (k + 1) a0 a1 a2) := by
  intro a0 a1 a2 k
  unfold figureheadlaw09_good.f
  repeat' first
      | (with_reducible exact figureheadref05_Good.mono _ _ _ _)
      | (with_reducible exact LeO.refl _)
      | (with_reducible exact LeO.none _)
      | (with_reducible refine LeO.ite ?_ ?_)
      | (with_reducible refine LeO.bind ?_ (fun _ => ?_))
      | exact figureheadref05_Good.mono _ _ _ _
      | exact LeO.none _
      | refine LeO.ite ?_ ?_
      | refine LeO.bind ?_ (fun _ => ?_)
set_option maxHeartbeats 8000000 in
set_option maxRecDepth 100000 in
theorem figureheadlaw09_good.calls (k : Nat) (a0_0 : Bool) (a0_1 : ByteArray) (a0_2 : Int) (r : Bool) (w : World) (h : figureheadlaw09_good.f k a0_0 a0_1 a0_2 = some r) :
    Calls Tryd.prog 23 #[.agg #[.bool a0_0, .string a0_1, .int .i64 a0_2]] w fun e w' => e = .returned (.bool r) ∧ Below w.heap.size w w' := by
  have hu23 := Tryd.underlying23
  have HB := Aside0.mk (Below.refl w.heap.size w)
  have H : ((figureheadref05_Good.f k a0_0 a0_1 a0_2).bind fun t438 => (if t438 = true then (if (a0_1.size : Int) ≤ 100 then (if a0_2 ≥ (-300) then (some (decide (a0_2 ≤ 300))) else (some false)) else (some false)) else (some false))) = some r := h
  clear h
  replace H := Option.bind_eq_some_iff.mp H
  obtain ⟨t438, A20, H⟩ := H
  replace H : (if t438 = true then (if (a0_1.size : Int) ≤ 100 then (if a0_2 ≥ (-300) then (some (decide (a0_2 ≤ 300))) else (some false)) else (some false)) else (some false)) = some r := H
  have A2 := Aside0.mk A20
  clear A20
  by_cases c3 : t438 = true
  · subst c3
    have H1 : (if (a0_1.size : Int) ≤ 100 then (if a0_2 ≥ (-300) then (some (decide (a0_2 ≤ 300))) else (some false)) else (some false)) = some r := by rw [if_pos rfl] at H; exact H
    clear H
    have H := H1
    clear H1
    by_cases c4 : (a0_1.size : Int) ≤ 100
    · rw [if_pos c4] at H
      have c4b0 : decide ((a0_1.size : Int) ≤ 100) = true := decide_eq_true c4
      have c4b1 : decide (a0_1.size ≤ 100) = true := decide_eq_true (by omega)
      clear c4
      by_cases c5 : a0_2 ≥ (-300)
      · rw [if_pos c5] at H
        have c5b0 : decide ((-300) ≤ a0_2) = true := decide_eq_true c5
        clear c5
        obtain rfl := Option.some.inj H
        go_enter Tryd.func23, Tryd.ntmps23
        go_wp2_with (first | ((with_reducible refine gate_dst (N := 1) rfl ?_); (try (refine gate_guard (by rfl) ?_; dsimp only)); refine box_event ?hg (N := 1) ?hd (cs := #[.bool a0_0, .string a0_1, .int .i64 a0_2]) (t := 23) ?hr ?_; (case hd => rfl); (case hg => rfl); (case hr => first | (go_simp; done) | (go_simp; rfl)); intro gb437 hg w6 hbox hb; have n0_ := Aside0.mk (below_step (by repeat (first | (with_reducible first | exact HB.out | apply below_alloc | apply pw_below_drewN | apply below_drew1) | exact HB.out)) hb); have n1_ := Aside0.mk (hbox); have n2_ := Aside0.mk ((by rw [hg]; exact (below_size (by repeat (first | (with_reducible first | exact HB.out | apply below_alloc | apply pw_below_drewN | apply below_drew1) | exact HB.out))) : w.heap.size ≤ gb437)); have n3_ := Aside0.mk ((by rw [hg]; exact (below_size (by repeat (first | (with_reducible first | exact HB.out | apply below_alloc | apply pw_below_drewN | apply below_drew1) | exact HB.out))) : w.heap.size ≤ gb437)); clear HB; have HB := n0_; have BK437 := n1_; have GW437 := n2_; have GE437 := n3_; clear n0_ n1_ n2_ n3_; clear hb hbox hg; have hcz7_0 : w6.cell? ⟨gb437, 0, none⟩ = some (.bool a0_0) := (blk_cell BK437.out 0).trans rfl; have hcz7_1 : w6.cell? ⟨gb437, 1, none⟩ = some (.string a0_1) := (blk_cell BK437.out 1).trans rfl; have hcz7_2 : w6.cell? ⟨gb437, 2, none⟩ = some (.int .i64 a0_2) := (blk_cell BK437.out 2).trans rfl; have hfz7_0 := blk_frozen BK437.out 0; have hfz7_1 := blk_frozen BK437.out 1; have hfz7_2 := blk_frozen BK437.out 2) | ((with_reducible refine gate_callee (f := 29) rfl ?_); refine goesL_ (some 4) rfl rfl Tryd.func29 (by kernel_rfl) rfl #[.agg #[.bool a0_0, .string a0_1, .int .i64 a0_2]] rfl (by (try simp only [List.map_toArray]); (try simp only [List.map_cons]); (try simp only [List.map_nil]); first | done | rfl | (simp only [List.length_drop, List.length_take]; rfl)) ?_; (with_reducible refine (figureheadref05_Good.calls k a0_0 a0_1 a0_2 true _ A2.out).mono ?_); rintro e w8 ⟨rfl, hb⟩; refine ⟨_, rfl, ?_⟩; have n0_ := Aside0.mk (blk_below (g := gb437) (o := .cells #[.bool a0_0, .string a0_1, .int .i64 a0_2] 23 (0, 0)) (by (with_reducible repeat (first | refine blk_drewN ?_ _ | refine blk_drew ?_ | refine blk_alloc ?_ _)); exact BK437.out) hb); have n1_ := Aside0.mk (below_step (by repeat (first | (with_reducible first | exact HB.out | apply below_alloc | apply pw_below_drewN | apply below_drew1 | refine below_set ?_ GE437.out) | exact HB.out)) hb); clear BK437; clear HB; have BK437 := n0_; have HB := n1_; clear n0_ n1_; (try clear hb); (try clear hb2); (try clear hk); (try clear hi); have hcz9_0 : w8.cell? ⟨gb437, 0, none⟩ = some (.bool a0_0) := (blk_cell BK437.out 0).trans rfl; have hcz9_1 : w8.cell? ⟨gb437, 1, none⟩ = some (.string a0_1) := (blk_cell BK437.out 1).trans rfl; have hcz9_2 : w8.cell? ⟨gb437, 2, none⟩ = some (.int .i64 a0_2) := (blk_cell BK437.out 2).trans rfl; have hfz9_0 := blk_frozen BK437.out 0; have hfz9_1 := blk_frozen BK437.out 1; have hfz9_2 := blk_frozen BK437.out 2))
        go_ret
        exact ⟨by first | rfl | (simp [errW_none, errW_some] <;> rfl) | (simp [*, errW_none, errW_some] <;> rfl), by repeat (first | (with_reducible first | exact HB.out | apply below_alloc | apply pw_below_drewN | apply below_drew1 | refine below_set ?_ GE437.out) | exact HB.out)⟩
      · rw [if_neg c5] at H
        have c5b0 : decide ((-300) ≤ a0_2) = false := decide_eq_false c5
        clear c5
        obtain rfl := Option.some.inj H
        go_enter Tryd.func23, Tryd.ntmps23
        go_wp2_with (first | ((with_reducible refine gate_dst (N := 1) rfl ?_); (try (refine gate_guard (by rfl) ?_; dsimp only)); refine box_event ?hg (N := 1) ?hd (cs := #[.bool a0_0, .string a0_1, .int .i64 a0_2]) (t := 23) ?hr ?_; (case hd => rfl); (case hg => rfl); (case hr => first | (go_simp; done) | (go_simp; rfl)); intro gb437 hg w10 hbox hb; have n0_ := Aside0.mk (below_step (by repeat (first | (with_reducible first | exact HB.out | apply below_alloc | apply pw_below_drewN | apply below_drew1) | exact HB.out)) hb); have n1_ := Aside0.mk (hbox); have n2_ := Aside0.mk ((by rw [hg]; exact (below_size (by repeat (first | (with_reducible first | exact HB.out | apply below_alloc | apply pw_below_drewN | apply below_drew1) | exact HB.out))) : w.heap.size ≤ gb437)); have n3_ := Aside0.mk ((by rw [hg]; exact (below_size (by repeat (first | (with_reducible first | exact HB.out | apply below_alloc | apply pw_below_drewN | apply below_drew1) | exact HB.out))) : w.heap.size ≤ gb437)); clear HB; have HB := n0_; have BK437 := n1_; have GW437 := n2_; have GE437 := n3_; clear n0_ n1_ n2_ n3_; clear hb hbox hg; have hcz11_0 : w10.cell? ⟨gb437, 0, none⟩ = some (.bool a0_0) := (blk_cell BK437.out 0).trans rfl; have hcz11_1 : w10.cell? ⟨gb437, 1, none⟩ = some (.string a0_1) := (blk_cell BK437.out 1).trans rfl; have hcz11_2 : w10.cell? ⟨gb437, 2, none⟩ = some (.int .i64 a0_2) := (blk_cell BK437.out 2).trans rfl; have hfz11_0 := blk_frozen BK437.out 0; have hfz11_1 := blk_frozen BK437.out 1; have hfz11_2 := blk_frozen BK437.out 2) | ((with_reducible refine gate_callee (f := 29) rfl ?_); refine goesL_ (some 4) rfl rfl Tryd.func29 (by kernel_rfl) rfl #[.agg #[.bool a0_0, .string a0_1, .int .i64 a0_2]] rfl (by (try simp only [List.map_toArray]); (try simp only [List.map_cons]); (try simp only [List.map_nil]); first | done | rfl | (simp only [List.length_drop, List.length_take]; rfl)) ?_; (with_reducible refine (figureheadref05_Good.calls k a0_0 a0_1 a0_2 true _ A2.out).mono ?_); rintro e w12 ⟨rfl, hb⟩; refine ⟨_, rfl, ?_⟩; have n0_ := Aside0.mk (blk_below (g := gb437) (o := .cells #[.bool a0_0, .string a0_1, .int .i64 a0_2] 23 (0, 0)) (by (with_reducible repeat (first | refine blk_drewN ?_ _ | refine blk_drew ?_ | refine blk_alloc ?_ _)); exact BK437.out) hb); have n1_ := Aside0.mk (below_step (by repeat (first | (with_reducible first | exact HB.out | apply below_alloc | apply pw_below_drewN | apply below_drew1 | refine below_set ?_ GE437.out) | exact HB.out)) hb); clear BK437; clear HB; have BK437 := n0_; have HB := n1_; clear n0_ n1_; (try clear hb); (try clear hb2); (try clear hk); (try clear hi); have hcz13_0 : w12.cell? ⟨gb437, 0, none⟩ = some (.bool a0_0) := (blk_cell BK437.out 0).trans rfl; have hcz13_1 : w12.cell? ⟨gb437, 1, none⟩ = some (.string a0_1) := (blk_cell BK437.out 1).trans rfl; have hcz13_2 : w12.cell? ⟨gb437, 2, none⟩ = some (.int .i64 a0_2) := (blk_cell BK437.out 2).trans rfl; have hfz13_0 := blk_frozen BK437.out 0; have hfz13_1 := blk_frozen BK437.out 1; have hfz13_2 := blk_frozen BK437.out 2))
        go_ret
        exact ⟨by first | rfl | (simp [errW_none, errW_some] <;> rfl) | (simp [*, errW_none, errW_some] <;> rfl), by repeat (first | (with_reducible first | exact HB.out | apply below_alloc | apply pw_below_drewN | apply below_drew1 | refine below_set ?_ GE437.out) | exact HB.out)⟩
    · rw [if_neg c4] at H
      have c4b0 : decide ((a0_1.size : Int) ≤ 100) = false := decide_eq_false c4
      have c4b1 : decide (a0_1.size ≤ 100) = false := decide_eq_false (by omega)
      clear c4
      obtain rfl := Option.some.inj H
      go_enter Tryd.func23, Tryd.ntmps23
      go_wp2_with (first | ((with_reducible refine gate_dst (N := 1) rfl ?_); (try (refine gate_guard (by rfl) ?_; dsimp only)); refine box_event ?hg (N := 1) ?hd (cs := #[.bool a0_0, .string a0_1, .int .i64 a0_2]) (t := 23) ?hr ?_; (case hd => rfl); (case hg => rfl); (case hr => first | (go_simp; done) | (go_simp; rfl)); intro gb437 hg w14 hbox hb; have n0_ := Aside0.mk (below_step (by repeat (first | (with_reducible first | exact HB.out | apply below_alloc | apply pw_below_drewN | apply below_drew1) | exact HB.out)) hb); have n1_ := Aside0.mk (hbox); have n2_ := Aside0.mk ((by rw [hg]; exact (below_size (by repeat (first | (with_reducible first | exact HB.out | apply below_alloc | apply pw_below_drewN | apply below_drew1) | exact HB.out))) : w.heap.size ≤ gb437)); have n3_ := Aside0.mk ((by rw [hg]; exact (below_size (by repeat (first | (with_reducible first | exact HB.out | apply below_alloc | apply pw_below_drewN | apply below_drew1) | exact HB.out))) : w.heap.size ≤ gb437)); clear HB; have HB := n0_; have BK437 := n1_; have GW437 := n2_; have GE437 := n3_; clear n0_ n1_ n2_ n3_; clear hb hbox hg; have hcz15_0 : w14.cell? ⟨gb437, 0, none⟩ = some (.bool a0_0) := (blk_cell BK437.out 0).trans rfl; have hcz15_1 : w14.cell? ⟨gb437, 1, none⟩ = some (.string a0_1) := (blk_cell BK437.out 1).trans rfl; have hcz15_2 : w14.cell? ⟨gb437, 2, none⟩ = some (.int .i64 a0_2) := (blk_cell BK437.out 2).trans rfl; have hfz15_0 := blk_frozen BK437.out 0; have hfz15_1 := blk_frozen BK437.out 1; have hfz15_2 := blk_frozen BK437.out 2) | ((with_reducible refine gate_callee (f := 29) rfl ?_); refine goesL_ (some 4) rfl rfl Tryd.func29 (by kernel_rfl) rfl #[.agg #[.bool a0_0, .string a0_1, .int .i64 a0_2]] rfl (by (try simp only [List.map_toArray]); (try simp only [List.map_cons]); (try simp only [List.map_nil]); first | done | rfl | (simp only [List.length_drop, List.length_take]; rfl)) ?_; (with_reducible refine (figureheadref05_Good.calls k a0_0 a0_1 a0_2 true _ A2.out).mono ?_); rintro e w16 ⟨rfl, hb⟩; refine ⟨_, rfl, ?_⟩; have n0_ := Aside0.mk (blk_below (g := gb437) (o := .cells #[.bool a0_0, .string a0_1, .int .i64 a0_2] 23 (0, 0)) (by (with_reducible repeat (first | refine blk_drewN ?_ _ | refine blk_drew ?_ | refine blk_alloc ?_ _)); exact BK437.out) hb); have n1_ := Aside0.mk (below_step (by repeat (first | (with_reducible first | exact HB.out | apply below_alloc | apply pw_below_drewN | apply below_drew1 | refine below_set ?_ GE437.out) | exact HB.out)) hb); clear BK437; clear HB; have BK437 := n0_; have HB := n1_; clear n0_ n1_; (try clear hb); (try clear hb2); (try clear hk); (try clear hi); have hcz17_0 : w16.cell? ⟨gb437, 0, none⟩ = some (.bool a0_0) := (blk_cell BK437.out 0).trans rfl; have hcz17_1 : w16.cell? ⟨gb437, 1, none⟩ = some (.string a0_1) := (blk_cell BK437.out 1).trans rfl; have hcz17_2 : w16.cell? ⟨gb437, 2, none⟩ = some (.int .i64 a0_2) := (blk_cell BK437.out 2).trans rfl; have hfz17_0 := blk_frozen BK437.out 0; have hfz17_1 := blk_frozen BK437.out 1; have hfz17_2 := blk_frozen BK437.out 2))
      go_ret
      exact ⟨by first | rfl | (simp [errW_none, errW_some] <;> rfl) | (simp [*, errW_none, errW_some] <;> rfl), by repeat (first | (with_reducible first | exact HB.out | apply below_alloc | apply pw_below_drewN | apply below_drew1 | refine below_set ?_ GE437.out) | exact HB.out)⟩
  · replace c3 := Bool.eq_false_iff.mpr c3
    subst c3
    have H1 : (some false) = some r := by rw [if_neg (show ¬ (false = true) by decide)] at H; exact H
    clear H
    have H := H1
    clear H1
    obtain rfl := Option.some.inj H
    go_enter Tryd.func23, Tryd.ntmps23
    go_wp2_with (first | ((with_reducible refine gate_dst (N := 1) rfl ?_); (try (refine gate_guard (by rfl) ?_; dsimp only)); refine box_event ?hg (N := 1) ?hd (cs := #[.bool a0_0, .string a0_1, .int .i64 a0_2]) (t := 23) ?hr ?_; (case hd => rfl); (case hg => rfl); (case hr => first | (go_simp; done) | (go_simp; rfl)); intro gb437 hg w18 hbox hb; have n0_ := Aside0.mk (below_step (by repeat (first | (with_reducible first | exact HB.out | apply below_alloc | apply pw_below_drewN | apply below_drew1) | exact HB.out)) hb); have n1_ := Aside0.mk (hbox); have n2_ := Aside0.mk ((by rw [hg]; exact (below_size (by repeat (first | (with_reducible first | exact HB.out | apply below_alloc | apply pw_below_drewN | apply below_drew1) | exact HB.out))) : w.heap.size ≤ gb437)); have n3_ := Aside0.mk ((by rw [hg]; exact (below_size (by repeat (first | (with_reducible first | exact HB.out | apply below_alloc | apply pw_below_drewN | apply below_drew1) | exact HB.out))) : w.heap.size ≤ gb437)); clear HB; have HB := n0_; have BK437 := n1_; have GW437 := n2_; have GE437 := n3_; clear n0_ n1_ n2_ n3_; clear hb hbox hg; have hcz19_0 : w18.cell? ⟨gb437, 0, none⟩ = some (.bool a0_0) := (blk_cell BK437.out 0).trans rfl; have hcz19_1 : w18.cell? ⟨gb437, 1, none⟩ = some (.string a0_1) := (blk_cell BK437.out 1).trans rfl; have hcz19_2 : w18.cell? ⟨gb437, 2, none⟩ = some (.int .i64 a0_2) := (blk_cell BK437.out 2).trans rfl; have hfz19_0 := blk_frozen BK437.out 0; have hfz19_1 := blk_frozen BK437.out 1; have hfz19_2 := blk_frozen BK437.out 2) | ((with_reducible refine gate_callee (f := 29) rfl ?_); refine goesL_ (some 4) rfl rfl Tryd.func29 (by kernel_rfl) rfl #[.agg #[.bool a0_0, .string a0_1, .int .i64 a0_2]] rfl (by (try simp only [List.map_toArray]); (try simp only [List.map_cons]); (try simp only [List.map_nil]); first | done | rfl | (simp only [List.length_drop, List.length_take]; rfl)) ?_; (with_reducible refine (figureheadref05_Good.calls k a0_0 a0_1 a0_2 false _ A2.out).mono ?_); rintro e w20 ⟨rfl, hb⟩; refine ⟨_, rfl, ?_⟩; have n0_ := Aside0.mk (blk_below (g := gb437) (o := .cells #[.bool a0_0, .string a0_1, .int .i64 a0_2] 23 (0, 0)) (by (with_reducible repeat (first | refine blk_drewN ?_ _ | refine blk_drew ?_ | refine blk_alloc ?_ _)); exact BK437.out) hb); have n1_ := Aside0.mk (below_step (by repeat (first | (with_reducible first | exact HB.out | apply below_alloc | apply pw_below_drewN | apply below_drew1 | refine below_set ?_ GE437.out) | exact HB.out)) hb); clear BK437; clear HB; have BK437 := n0_; have HB := n1_; clear n0_ n1_; (try clear hb); (try clear hb2); (try clear hk); (try clear hi)))
    go_ret
    exact ⟨by first | rfl | (simp [errW_none, errW_some] <;> rfl) | (simp [*, errW_none, errW_some] <;> rfl), by repeat (first | (with_reducible first | exact HB.out | apply below_alloc | apply pw_below_drewN | apply below_drew1 | refine below_set ?_ GE437.out) | exact HB.out)⟩
end Go.Proofs.YtjpokifkbclkiaaDoor.Px
end
section
namespace Go.Proofs.YtjpokifkbclkiaaDoor.Px
open Fig Go.RowKit Go.Proofs.YtjpokifkbclkiaaDoorW.PrintWords Go.Proofs.YtjpokifkbclkiaaDoorW.PrintLast Go.Proofs.YtjpokifkbclkiaaDoorW.PrintMore
attribute [local go_sem] max2_int min2_int max_two min_two max_three min_three max_four min_four   -- for this text's walks alone
attribute [local go_sem] fieldA23_0 fieldA23_1 fieldA23_2
def mode_Good.f (a0 : Int) : Option (Bool) := if a0 ≥ 0 then (some (decide (a0 < 8))) else (some false)
set_option maxHeartbeats 8000000 in
set_option maxRecDepth 100000 in
theorem mode_Good.calls (a0 : Int) (r : Bool) (w : World) (h : mode_Good.f a0 = some r) :
    Calls Tryd.prog 30 #[.int .i64 a0] w fun e w' => e = .returned (.bool r) ∧ Drawn0 w w' := by
  have H : (if a0 ≥ 0 then (some (decide (a0 < 8))) else (some false)) = some r := h
  clear h
  by_cases c2 : a0 ≥ 0
  · rw [if_pos c2] at H
    have c2b0 : decide (0 ≤ a0) = true := decide_eq_true c2
    clear c2
    obtain rfl := Option.some.inj H
    go_enter Tryd.func30, Tryd.ntmps30
    go_wp2
    go_ret
    exact ⟨by first | rfl | (simp; done) | (simp [*]; done) | (simp [*, Fig.bne_nil]; done), by repeat (first | exact Drawn0.refl _ | apply Drawn0.step)⟩
  · rw [if_neg c2] at H
    have c2b0 : decide (0 ≤ a0) = false := decide_eq_false c2
    clear c2
    obtain rfl := Option.some.inj H
    go_enter Tryd.func30, Tryd.ntmps30
    go_wp2
    go_ret
    exact ⟨by first | rfl | (simp; done) | (simp [*]; done) | (simp [*, Fig.bne_nil]; done), by repeat (first | exact Drawn0.refl _ | apply Drawn0.step)⟩
end Go.Proofs.YtjpokifkbclkiaaDoor.Px
end
section
namespace Go.Proofs.YtjpokifkbclkiaaDoor.Px
open Fig Go.RowKit Go.Proofs.YtjpokifkbclkiaaDoorW.PrintWords Go.Proofs.YtjpokifkbclkiaaDoorW.PrintLast Go.Proofs.YtjpokifkbclkiaaDoorW.PrintMore
attribute [local go_sem] max2_int min2_int max_two min_two max_three min_three max_four min_four   -- for this text's walks alone
attribute [local go_sem] fieldA23_0 fieldA23_1 fieldA23_2
def nat_top.l0 : Nat → List Int → Int → Option (Int)
  | 0, _, _ => none
  | k + 1, x0, x3 => if x3 > 0 then (if 0 ≤ (wrap64 (x3 - 1)) then (if (wrap64 (x3 - 1)) < (x0.length : Int) then (if (rd x0 (wrap64 (x3 - 1))) = 0 then (nat_top.l0 k x0 (wrap64 (x3 - 1))) else (some x3)) else (none)) else (none)) else (some x3)
def nat_top.f (k : Nat) (l0 : List Int) : Option (Int) := nat_top.l0 k l0 (l0.length : Int)
theorem nat_top.mono_l : ∀ k, (∀ y0 y1, LeO (nat_top.l0 k y0 y1) (nat_top.l0 (k + 1) y0 y1))
  | 0 => fun _ _ r h => by simp [nat_top.l0] at h
  | k + 1 => by
    have ih0 := nat_top.mono_l k
    · intro y0 y1
      unfold nat_top.l0
      repeat' first
      | (with_reducible exact ih0 _ _)
      | (with_reducible exact LeO.refl _)
      | (with_reducible exact LeO.none _)
      | (with_reducible refine LeO.ite ?_ ?_)
      | (with_reducible refine LeO.bind ?_ (fun _ => ?_))
      | exact ih0 _ _
      | exact LeO.none _
      | refine LeO.ite ?_ ?_
      | refine LeO.bind ?_ (fun _ => ?_)
theorem nat_top.mono : ∀ a0 k, LeO (nat_top.f k a0) (nat_top.f (k + 1) a0) := by
  intro a0 k
  have ih0 := nat_top.mono_l k
  unfold nat_top.f
  repeat' first
      | (with_reducible exact ih0 _ _)
      | (with_reducible exact LeO.refl _)
      | (with_reducible exact LeO.none _)
      | (with_reducible refine LeO.ite ?_ ?_)
      | (with_reducible refine LeO.bind ?_ (fun _ => ?_))
      | exact ih0 _ _
      | exact LeO.none _
      | refine LeO.ite ?_ ?_
      | refine LeO.bind ?_ (fun _ => ?_)
set_option maxHeartbeats 8000000 in
set_option maxRecDepth 100000 in
theorem nat_top.calls (k : Nat) (A0 : Option Addr) (c0 : Nat) (l0 : List Int) (r : Int) (w : World) (hr0 : Kd.C (Kd.int .u32) w A0 l0.length l0) (hc0 : l0.length ≤ c0) (h : nat_top.f k l0 = some r) :
    Calls Tryd.prog 55 #[.slice A0 l0.length c0] w fun e w' => e = .returned (.int .i64 r) ∧ Drawn0 w w' := by
  have HR0 := Aside0.mk hr0
  have HC0 := Aside0.mk hc0
  clear hr0 hc0
  have H : (nat_top.l0 k l0 (l0.length : Int)) = some r := h
  clear h
  have H' := Aside0.mk H
  clear H
  go_enter Tryd.func55, Tryd.ntmps55
  go_wp2
  go_loopg [3] k (fun kq v3 w' => ∃ (x3_1 : Int), v3 = .int .i64 x3_1 ∧ Aside0 (nat_top.l0 kq l0 x3_1 = some r) ∧ Aside0 (kq ≤ k) ∧ Drawn0 w w')
  case atStart => exact ⟨((l0.length : Int)), (by first | rfl | (simp; done) | (simp [*]; done) | (simp [*, Fig.bne_nil]; done)), H', ⟨Nat.le_refl _⟩, by repeat (first | exact Drawn0.refl _ | apply Drawn0.step)⟩
  case round =>
    clear H'
    obtain ⟨x3_1, rfl, HA, HK1, ⟨m1, rfl⟩⟩ := hrel
    cases gk with
    | zero => exact absurd HA.out (by simp [nat_top.l0])
    | succ k1 =>
      have H := HA.out
      clear HA
      simp only [nat_top.l0] at H
      by_cases c2 : x3_1 > 0
      · rw [if_pos c2] at H
        have c2b0 : decide (0 < x3_1) = true := decide_eq_true c2
        clear c2
        obtain ⟨ji3, hji3⟩ : ∃ j_ : Int, (wrap64 (x3_1 - 1)) = j_ := ⟨_, rfl⟩
        replace H : (if 0 ≤ (ji3) then (if (ji3) < (l0.length : Int) then (if (rd l0 (ji3)) = 0 then (nat_top.l0 k1 l0 ji3) else (some x3_1)) else (none)) else (none)) = some r := by first | (rw [hji3] at H; exact H) | (simp only [hji3] at H ⊢; exact H)
        have hji3w : (IntKind.i64.wrap (x3_1 - 1)) = ji3 := (i64_w _).trans hji3
        by_cases c4 : 0 ≤ (ji3)
        · rw [if_pos c4] at H
          have c4b0 : decide (0 ≤ (ji3)) = true := decide_eq_true c4
          clear c4
          by_cases c5 : (ji3) < (l0.length : Int)
          · rw [if_pos c5] at H
            have c5b0 : decide ((ji3) < (l0.length : Int)) = true := decide_eq_true c5
            clear c5
            by_cases c6 : (rd l0 (ji3)) = 0
            · rw [if_pos c6] at H
              have c6b0 : ((rd l0 (ji3)) == 0) = true := beq_iff_eq.mpr c6
              have c6b1 : ((rd l0 (ji3)) != 0) = false := bne_eq_false_iff_eq.mpr c6
              clear c6
              have H' := Aside0.mk H
              clear H
              have p105 : 0 ≤ ((ji3) : Int) := of_decide_eq_true (by first | (with_reducible assumption) | assumption)
              have q105 : (ji3) < (l0.length : Int) := of_decide_eq_true (by first | (with_reducible assumption) | assumption)
              obtain ⟨ad105, e105, hx105_0⟩ := Kd.at_int HR0.out (ji3) p105 q105
              cases e105
              replace p105 := eq_true p105
              replace q105 := eq_true q105
              go_wp2
              go_roundg k1
              case measure => have := HK1.out; omega
              case rel => exact ⟨(ji3), (by first | rfl | (simp; done) | (simp only [← hji3] <;> (first | rfl | simp)) | (simp [*]; done) | (simp [*, Fig.bne_nil]; done)), H', ⟨by have := HK1.out; omega⟩, by repeat (first | exact Drawn0.refl _ | apply Drawn0.step)⟩
            · rw [if_neg c6] at H
              have c6b0 : ((rd l0 (ji3)) == 0) = false := beq_eq_false_iff_ne.mpr c6
              have c6b1 : ((rd l0 (ji3)) != 0) = true := bne_iff_ne.mpr c6
              obtain rfl := Option.some.inj H
              have p105 : 0 ≤ ((ji3) : Int) := of_decide_eq_true (by first | (with_reducible assumption) | assumption)
              have q105 : (ji3) < (l0.length : Int) := of_decide_eq_true (by first | (with_reducible assumption) | assumption)
              obtain ⟨ad105, e105, hx105_0⟩ := Kd.at_int HR0.out (ji3) p105 q105
              cases e105
              replace p105 := eq_true p105
              replace q105 := eq_true q105
              go_wp2
              go_ret
              exact ⟨by first | rfl | (simp; done) | (simp only [← hji3] <;> (first | rfl | simp)) | (simp [*]; done) | (simp [*, Fig.bne_nil]; done), by repeat (first | exact Drawn0.refl _ | apply Drawn0.step)⟩
          · rw [if_neg c5] at H
            exact absurd H (by simp)
        · rw [if_neg c4] at H
          exact absurd H (by simp)
      · rw [if_neg c2] at H
        have c2b0 : decide (0 < x3_1) = false := decide_eq_false c2
        clear c2
        obtain rfl := Option.some.inj H
        go_wp2
        go_ret
        exact ⟨by first | rfl | (simp; done) | (simp [*]; done) | (simp [*, Fig.bne_nil]; done), by repeat (first | exact Drawn0.refl _ | apply Drawn0.step)⟩
end Go.Proofs.YtjpokifkbclkiaaDoor.Px
end
section
namespace Go.Proofs.YtjpokifkbclkiaaDoor.Px
open Fig Go.RowKit Go.Proofs.YtjpokifkbclkiaaDoorW.PrintWords Go.Proofs.YtjpokifkbclkiaaDoorW.PrintLast Go.Proofs.YtjpokifkbclkiaaDoorW.PrintMore
attribute [local go_sem] max2_int min2_int max_two min_two max_three min_three max_four min_four   -- for this text's walks alone
attribute [local go_sem] fieldA23_0 fieldA23_1 fieldA23_2
theorem top_loop (l : List Int) (hl : l.length ≤ 4611686018427387904) : ∀ (n : Nat), n ≤ l.length → Ev (fun k => nat_top.l0 k l (n : Int)) (((trimL (l.take n)).length : Nat) : Int)
  | 0, hn => by
    refine evDone (r' := ((0 : Nat) : Int)) (fun k => ?_) (by simp [trimL])
    simp only [nat_top.l0]; rw [if_neg (by omega)]
  | n + 1, hn => by
    have hlt : n < l.length := by omega
    rw [List.take_succ_eq_append_getElem hlt]
    by_cases h0 : l[n] = 0
    · refine evIs (Ev.step (f := fun k => nat_top.l0 k l (n : Int)) (fun k => ?_) (top_loop l hl n (by omega))) (by rw [h0, trimL_snoc_zero])
      simp only [nat_top.l0]; rw [if_pos (by omega), pred64 _ (by omega), if_pos (by omega), if_pos (by omega), rd_get hlt, if_pos h0]
    · refine evDone (r' := ((n + 1 : Nat) : Int)) (fun k => ?_) (by rw [trimL_snoc h0]; simp; omega)
      simp only [nat_top.l0]; rw [if_pos (by omega), pred64 _ (by omega), if_pos (by omega), if_pos (by omega), rd_get hlt, if_neg h0]
theorem top_ev {l : List Int} (hl : l.length ≤ 4611686018427387904) : Ev (fun k => nat_top.f k l) (((trimL l).length : Nat) : Int) := by
  have := top_loop l hl l.length (Nat.le_refl _)
  rwa [List.take_length] at this
theorem top_at {l : List Int} (hl : l.length ≤ 4611686018427387904) : ∃ k, nat_top.f k l = some (((trimL l).length : Nat) : Int) := (top_ev hl).rounds
end Go.Proofs.YtjpokifkbclkiaaDoor.Px
end
section
namespace Go.Proofs.YtjpokifkbclkiaaDoor.Px
open Fig Go.RowKit Go.Proofs.YtjpokifkbclkiaaDoorW.PrintWords Go.Proofs.YtjpokifkbclkiaaDoorW.PrintLast Go.Proofs.YtjpokifkbclkiaaDoorW.PrintMore
attribute [local go_sem] max2_int min2_int max_two min_two max_three min_three max_four min_four   -- for this text's walks alone
attribute [local go_sem] fieldA23_0 fieldA23_1 fieldA23_2
set_option maxRecDepth 100000
def nat_Trim.f (l0 : List Int) : Option (List Int) := trimF l0
set_option maxHeartbeats 1000000 in
theorem nat_Trim.calls (A0 : Option Addr) (c0 : Nat) (l0 : List Int) (r : List Int) (w : World) (hr0 : Kd.C (Kd.int .u32) w A0 l0.length l0) (hc0 : l0.length ≤ c0) (h : nat_Trim.f l0 = some r) :
    Calls Tryd.prog 58 #[.slice A0 l0.length c0] w fun e w' => ∃ v0_ : Value, e = .returned (v0_) ∧ Kd.R (Kd.int .u32) 50 w' w.heap.size (fun _ => True) v0_ r ∧ Below w.heap.size w w' := by
  unfold nat_Trim.f trimF at h
  by_cases hl : l0.length ≤ 20000000000000
  · rw [if_pos hl] at h
    obtain rfl := Option.some.inj h
    obtain ⟨k, hk⟩ := top_at (l := l0) (by omega)
    have ht := trimL_len l0
    have hk' := Aside0.mk hk
    have htk := Aside0.mk (Fig.take_trim l0)
    obtain ⟨n, hn⟩ : ∃ n, n = (trimL l0).length := ⟨_, rfl⟩
    rw [← hn] at hk' ht htk
    have hn' := Aside0.mk hn
    have HR0 := Aside0.mk hr0
    have HC0 := Aside0.mk hc0
    clear h hk hr0 hc0 hn
    go_enter Tryd.func58, Tryd.ntmps58
    go_wp2_with (first
      | (go_at_call 55; (with_reducible refine (nat_top.calls k _ _ l0 (n : Int) _ ?side1 ?side2 hk'.out).mono ?_); (case side1 => exact HR0.out); (case side2 => exact HC0.out); rintro e w' ⟨rfl, ⟨nd, rfl⟩⟩)
      | ((with_reducible refine gate_dst (N := 6) rfl ?_); refine Kd.R_make (Kd.int .u32) w.heap.size 50 rfl (N := 6) rfl 44 _ _ rfl (n : Int) rfl rfl Tryd.underlying44 (.int .u32 0) 4 info50 rfl (by decide) (by omega) 0 (ok := fun _ => True) (okp := fun _ => True) rfl (fun _ hk => hk) trivial (by omega) (by omega) (w0 := w) (pw_below_drewN (Below.refl _ _) _) (Nat.le_refl _) ?_; intro v6 w6 ho6 hb6 hg_ hnew_; clear hg_ hnew_; rw [Int.toNat_natCast] at ho6; have HO6 := Aside0.mk ho6; have HB6 := Aside0.mk hb6; clear ho6 hb6)
      | ((with_reducible refine gate_dst (N := 9) rfl ?_); refine R_copy (k := .u32) w.heap.size rfl _ _ 44 50 rfl Tryd.underlying44 (by kernel_rfl) v6 (List.replicate n 0) l0 A0 l0.length c0 (fun _ => True) rfl rfl HO6.out (Kd.C_below HR0.out HB6.out) ?cs HB6.out ?_; (case cs => rw [List.length_replicate]; exact ht); intro w9 ho9 hb9; rw [List.length_replicate, htk.out] at ho9; have HO9 := Aside0.mk ho9; have HB9 := Aside0.mk hb9; clear ho9 hb9))
    go_ret
    exact ⟨_, rfl, HO9.out, HB9.out⟩
  · rw [if_neg hl] at h; cases h
end Go.Proofs.YtjpokifkbclkiaaDoor.Px
end
