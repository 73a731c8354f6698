/- The functions that the law NatGrows reaches, told as plain functions, with what is proved of them (part 0). -/
import Derived.Test.YtkhmdpplpecgcaaPx0
namespace Go.Proofs.Ytkhmdpplpecgcaa.Px
open Fig Go.RowKit Go.Proofs.YtkhmdpplpecgcaaW.PrintWords Go.Proofs.YtkhmdpplpecgcaaW.PrintLast Go.Proofs.YtkhmdpplpecgcaaW.PrintMore
attribute [local go_sem] max2_int min2_int max_two min_two max_three min_three max_four min_four   -- for this text's walks alone

/-! ### nat_top: function 38 -/
def nat_top.l0 : Nat → List Int → Int → Option (Int)
  | 0, _, _ => none
  | k + 1, x0, x3 => if x3 > 0 then (if 0 ≤ (wrap64 (x3 - 1)) then (if (wrap64 (x3 - 1)) < (x0.length : Int) then (if (rd x0 (wrap64 (x3 - 1))) = 0 then (nat_top.l0 k x0 (wrap64 (x3 - 1))) else (some x3)) else (none)) else (none)) else (some x3)
def nat_top.f (k : Nat) (l0 : List Int) : Option (Int) := nat_top.l0 k l0 (l0.length : Int)
theorem nat_top.mono_l : ∀ k, (∀ y0 y1, LeO (nat_top.l0 k y0 y1) (nat_top.l0 (k + 1) y0 y1))
  | 0 => fun _ _ r h => by simp [nat_top.l0] at h
  | k + 1 => by
    have ih0 := nat_top.mono_l k
    · intro y0 y1
      unfold nat_top.l0
      repeat' first
      | (with_reducible exact ih0 _ _)
      | (with_reducible exact LeO.refl _)
      | (with_reducible exact LeO.none _)
      | (with_reducible refine LeO.ite ?_ ?_)
      | (with_reducible refine LeO.bind ?_ (fun _ => ?_))
      | exact ih0 _ _
      | exact LeO.none _
      | refine LeO.ite ?_ ?_
      | refine LeO.bind ?_ (fun _ => ?_)
theorem nat_top.mono : ∀ a0 k, LeO (nat_top.f k a0) (nat_top.f (k + 1) a0) := by
  intro a0 k
  have ih0 := nat_top.mono_l k
  unfold nat_top.f
  repeat' first
      | (with_reducible exact ih0 _ _)
      | (with_reducible exact LeO.refl _)
      | (with_reducible exact LeO.none _)
      | (with_reducible refine LeO.ite ?_ ?_)
      | (with_reducible refine LeO.bind ?_ (fun _ => ?_))
      | exact ih0 _ _
      | exact LeO.none _
      | refine LeO.ite ?_ ?_
      | refine LeO.bind ?_ (fun _ => ?_)
set_option maxHeartbeats 8000000 in
set_option maxRecDepth 100000 in
theorem nat_top.calls (k : Nat) (A0 : Option Addr) (c0 : Nat) (l0 : List Int) (r : Int) (w : World) (hr0 : Kd.C (Kd.int .u32) w A0 l0.length l0) (hc0 : l0.length ≤ c0) (h : nat_top.f k l0 = some r) :
    Calls Try.prog 38 #[.slice A0 l0.length c0] w fun e w' => e = .returned (.int .i64 r) ∧ Drawn0 w w' := by
  have HR0 := Aside0.mk hr0
  have HC0 := Aside0.mk hc0
  clear hr0 hc0
  have H : (nat_top.l0 k l0 (l0.length : Int)) = some r := h
  clear h
  have H' := Aside0.mk H
  clear H
  go_enter Try.func38, Try.ntmps38
  go_wp2
  go_loopg [3] k (fun kq v3 w' => ∃ (x3_1 : Int), v3 = .int .i64 x3_1 ∧ Aside0 (nat_top.l0 kq l0 x3_1 = some r) ∧ Aside0 (kq ≤ k) ∧ Drawn0 w w')
  case atStart => exact ⟨((l0.length : Int)), (by first | rfl | (simp; done) | (simp [*]; done) | (simp [*, Fig.bne_nil]; done)), H', ⟨Nat.le_refl _⟩, by repeat (first | exact Drawn0.refl _ | apply Drawn0.step)⟩
  case round =>
    clear H'
    obtain ⟨x3_1, rfl, HA, HK1, ⟨m1, rfl⟩⟩ := hrel
    cases gk with
    | zero => exact absurd HA.out (by simp [nat_top.l0])
    | succ k1 =>
      have H := HA.out
      clear HA
      simp only [nat_top.l0] at H
      by_cases c2 : x3_1 > 0
      · rw [if_pos c2] at H
        have c2b0 : decide (0 < x3_1) = true := decide_eq_true c2
        clear c2
        obtain ⟨ji3, hji3⟩ : ∃ j_ : Int, (wrap64 (x3_1 - 1)) = j_ := ⟨_, rfl⟩
        replace H : (if 0 ≤ (ji3) then (if (ji3) < (l0.length : Int) then (if (rd l0 (ji3)) = 0 then (nat_top.l0 k1 l0 ji3) else (some x3_1)) else (none)) else (none)) = some r := by first | (rw [hji3] at H; exact H) | (simp only [hji3] at H ⊢; exact H)
        have hji3w : (IntKind.i64.wrap (x3_1 - 1)) = ji3 := (i64_w _).trans hji3
        by_cases c4 : 0 ≤ (ji3)
        · rw [if_pos c4] at H
          have c4b0 : decide (0 ≤ (ji3)) = true := decide_eq_true c4
          clear c4
          by_cases c5 : (ji3) < (l0.length : Int)
          · rw [if_pos c5] at H
            have c5b0 : decide ((ji3) < (l0.length : Int)) = true := decide_eq_true c5
            clear c5
            by_cases c6 : (rd l0 (ji3)) = 0
            · rw [if_pos c6] at H
              have c6b0 : ((rd l0 (ji3)) == 0) = true := beq_iff_eq.mpr c6
              have c6b1 : ((rd l0 (ji3)) != 0) = false := bne_eq_false_iff_eq.mpr c6
              clear c6
              have H' := Aside0.mk H
              clear H
              have p105 : 0 ≤ ((ji3) : Int) := of_decide_eq_true (by first | (with_reducible assumption) | assumption)
              have q105 : (ji3) < (l0.length : Int) := of_decide_eq_true (by first | (with_reducible assumption) | assumption)
              obtain ⟨ad105, e105, hx105_0⟩ := Kd.at_int HR0.out (ji3) p105 q105
              cases e105
              replace p105 := eq_true p105
              replace q105 := eq_true q105
              go_wp2
              go_roundg k1
              case measure => have := HK1.out; omega
              case rel => exact ⟨(ji3), (by first | rfl | (simp; done) | (simp only [← hji3] <;> (first | rfl | simp)) | (simp [*]; done) | (simp [*, Fig.bne_nil]; done)), H', ⟨by have := HK1.out; omega⟩, by repeat (first | exact Drawn0.refl _ | apply Drawn0.step)⟩
            · rw [if_neg c6] at H
              have c6b0 : ((rd l0 (ji3)) == 0) = false := beq_eq_false_iff_ne.mpr c6
              have c6b1 : ((rd l0 (ji3)) != 0) = true := bne_iff_ne.mpr c6
              obtain rfl := Option.some.inj H
              have p105 : 0 ≤ ((ji3) : Int) := of_decide_eq_true (by first | (with_reducible assumption) | assumption)
              have q105 : (ji3) < (l0.length : Int) := of_decide_eq_true (by first | (with_reducible assumption) | assumption)
              obtain ⟨ad105, e105, hx105_0⟩ := Kd.at_int HR0.out (ji3) p105 q105
              cases e105
              replace p105 := eq_true p105
              replace q105 := eq_true q105
              go_wp2
              go_ret
              exact ⟨by first | rfl | (simp; done) | (simp only [← hji3] <;> (first | rfl | simp)) | (simp [*]; done) | (simp [*, Fig.bne_nil]; done), by repeat (first | exact Drawn0.refl _ | apply Drawn0.step)⟩
          · rw [if_neg c5] at H
            exact absurd H (by simp)
        · rw [if_neg c4] at H
          exact absurd H (by simp)
      · rw [if_neg c2] at H
        have c2b0 : decide (0 < x3_1) = false := decide_eq_false c2
        clear c2
        obtain rfl := Option.some.inj H
        go_wp2
        go_ret
        exact ⟨by first | rfl | (simp; done) | (simp [*]; done) | (simp [*, Fig.bne_nil]; done), by repeat (first | exact Drawn0.refl _ | apply Drawn0.step)⟩

end Go.Proofs.Ytkhmdpplpecgcaa.Px

namespace Go.Proofs.Ytkhmdpplpecgcaa.Px
open Fig Go.RowKit Go.Proofs.YtkhmdpplpecgcaaW.PrintWords Go.Proofs.YtkhmdpplpecgcaaW.PrintLast Go.Proofs.YtkhmdpplpecgcaaW.PrintMore
attribute [local go_sem] max2_int min2_int max_two min_two max_three min_three max_four min_four   -- for this text's walks alone

/-! plain facts: nat_top -/
theorem top_loop (l : List Int) (hl : l.length ≤ 4611686018427387904) : ∀ (n : Nat), n ≤ l.length → Ev (fun k => nat_top.l0 k l (n : Int)) (((trimL (l.take n)).length : Nat) : Int)
  | 0, hn => by
    refine evDone (r' := ((0 : Nat) : Int)) (fun k => ?_) (by simp [trimL])
    simp only [nat_top.l0]; rw [if_neg (by omega)]
  | n + 1, hn => by
    have hlt : n < l.length := by omega
    rw [List.take_succ_eq_append_getElem hlt]
    by_cases h0 : l[n] = 0
    · refine evIs (Ev.step (f := fun k => nat_top.l0 k l (n : Int)) (fun k => ?_) (top_loop l hl n (by omega))) (by rw [h0, trimL_snoc_zero])
      simp only [nat_top.l0]; rw [if_pos (by omega), pred64 _ (by omega), if_pos (by omega), if_pos (by omega), rd_get hlt, if_pos h0]
    · refine evDone (r' := ((n + 1 : Nat) : Int)) (fun k => ?_) (by rw [trimL_snoc h0]; simp; omega)
      simp only [nat_top.l0]; rw [if_pos (by omega), pred64 _ (by omega), if_pos (by omega), if_pos (by omega), rd_get hlt, if_neg h0]
theorem top_ev {l : List Int} (hl : l.length ≤ 4611686018427387904) : Ev (fun k => nat_top.f k l) (((trimL l).length : Nat) : Int) := by
  have := top_loop l hl l.length (Nat.le_refl _)
  rwa [List.take_length] at this
theorem top_at {l : List Int} (hl : l.length ≤ 4611686018427387904) : ∃ k, nat_top.f k l = some (((trimL l).length : Nat) : Int) := (top_ev hl).rounds

end Go.Proofs.Ytkhmdpplpecgcaa.Px

namespace Go.Proofs.Ytkhmdpplpecgcaa.Px
open Fig Go.RowKit Go.Proofs.YtkhmdpplpecgcaaW.PrintWords Go.Proofs.YtkhmdpplpecgcaaW.PrintLast Go.Proofs.YtkhmdpplpecgcaaW.PrintMore
attribute [local go_sem] max2_int min2_int max_two min_two max_three min_three max_four min_four   -- for this text's walks alone

/-! ### nat_Trim: function 31 -/
def nat_Trim.f (l0 : List Int) : Option (List Int) := trimF l0
set_option maxHeartbeats 1000000 in
theorem nat_Trim.calls (A0 : Option Addr) (c0 : Nat) (l0 : List Int) (r : List Int) (w : World) (hr0 : Kd.C (Kd.int .u32) w A0 l0.length l0) (hc0 : l0.length ≤ c0) (h : nat_Trim.f l0 = some r) :
    Calls Try.prog 31 #[.slice A0 l0.length c0] w fun e w' => ∃ v0_ : Value, e = .returned (v0_) ∧ Kd.R (Kd.int .u32) 30 w' w.heap.size (fun _ => True) v0_ r ∧ Below w.heap.size w w' := by
  unfold nat_Trim.f trimF at h
  by_cases hl : l0.length ≤ 20000000000000
  · rw [if_pos hl] at h
    obtain rfl := Option.some.inj h
    obtain ⟨k, hk⟩ := top_at (l := l0) (by omega)
    have ht := trimL_len l0
    have hk' := Aside0.mk hk
    have htk := Aside0.mk (Fig.take_trim l0)
    obtain ⟨n, hn⟩ : ∃ n, n = (trimL l0).length := ⟨_, rfl⟩
    rw [← hn] at hk' ht htk
    have hn' := Aside0.mk hn
    have HR0 := Aside0.mk hr0
    have HC0 := Aside0.mk hc0
    clear h hk hr0 hc0 hn
    go_enter Try.func31, Try.ntmps31
    go_wp2_with (first
      | (go_at_call 38; (with_reducible refine (nat_top.calls k _ _ l0 (n : Int) _ ?side1 ?side2 hk'.out).mono ?_); (case side1 => exact HR0.out); (case side2 => exact HC0.out); rintro e w' ⟨rfl, ⟨nd, rfl⟩⟩)
      | ((with_reducible refine gate_dst (N := 6) rfl ?_); refine Kd.R_make (Kd.int .u32) w.heap.size 30 rfl (N := 6) rfl 22 _ _ rfl (n : Int) rfl rfl Try.underlying22 (.int .u32 0) 4 info30 rfl (by decide) (by omega) 0 (ok := fun _ => True) (okp := fun _ => True) rfl (fun _ hk => hk) trivial (by omega) (by omega) (w0 := w) (pw_below_drewN (Below.refl _ _) _) (Nat.le_refl _) ?_; intro v6 w6 ho6 hb6 hg_ hnew_; clear hg_ hnew_; rw [Int.toNat_natCast] at ho6; have HO6 := Aside0.mk ho6; have HB6 := Aside0.mk hb6; clear ho6 hb6)
      | ((with_reducible refine gate_dst (N := 9) rfl ?_); refine R_copy (k := .u32) w.heap.size rfl _ _ 22 30 rfl Try.underlying22 (by kernel_rfl) v6 (List.replicate n 0) l0 A0 l0.length c0 (fun _ => True) rfl rfl HO6.out (Kd.C_below HR0.out HB6.out) ?cs HB6.out ?_; (case cs => rw [List.length_replicate]; exact ht); intro w9 ho9 hb9; rw [List.length_replicate, htk.out] at ho9; have HO9 := Aside0.mk ho9; have HB9 := Aside0.mk hb9; clear ho9 hb9))
    go_ret
    exact ⟨_, rfl, HO9.out, HB9.out⟩
  · rw [if_neg hl] at h; cases h

end Go.Proofs.Ytkhmdpplpecgcaa.Px

namespace Go.Proofs.Ytkhmdpplpecgcaa.Px
open Fig Go.RowKit Go.Proofs.YtkhmdpplpecgcaaW.PrintWords Go.Proofs.YtkhmdpplpecgcaaW.PrintLast Go.Proofs.YtkhmdpplpecgcaaW.PrintMore
attribute [local go_sem] max2_int min2_int max_two min_two max_three min_three max_four min_four   -- for this text's walks alone

/-! ### figureheadref01_Same: function 17 -/
def figureheadref01_Same.l0 : Nat → List Int → List Int → Int → Option (Bool)
  | 0, _, _, _ => none
  | k + 1, x0, x1, x5 => if x5 < (x0.length : Int) then (if 0 ≤ x5 then (if x5 < (x1.length : Int) then (if (rd x0 x5) = (rd x1 x5) then (figureheadref01_Same.l0 k x0 x1 (wrap64 (x5 + 1))) else (some false)) else (none)) else (none)) else (some true)
def figureheadref01_Same.f (k : Nat) (l0 : List Int) (l1 : List Int) : Option (Bool) := if (l0.length : Int) = (l1.length : Int) then (figureheadref01_Same.l0 k l0 l1 0) else (some false)
theorem figureheadref01_Same.mono_l : ∀ k, (∀ y0 y1 y2, LeO (figureheadref01_Same.l0 k y0 y1 y2) (figureheadref01_Same.l0 (k + 1) y0 y1 y2))
  | 0 => fun _ _ _ r h => by simp [figureheadref01_Same.l0] at h
  | k + 1 => by
    have ih0 := figureheadref01_Same.mono_l k
    · intro y0 y1 y2
      unfold figureheadref01_Same.l0
      repeat' first
      | (with_reducible exact ih0 _ _ _)
      | (with_reducible exact LeO.refl _)
      | (with_reducible exact LeO.none _)
      | (with_reducible refine LeO.ite ?_ ?_)
      | (with_reducible refine LeO.bind ?_ (fun _ => ?_))
      | exact ih0 _ _ _
      | exact LeO.none _
      | refine LeO.ite ?_ ?_
      | refine LeO.bind ?_ (fun _ => ?_)
theorem figureheadref01_Same.mono : ∀ a0 a1 k, LeO (figureheadref01_Same.f k a0 a1) (figureheadref01_Same.f (k + 1) a0 a1) := by
  intro a0 a1 k
  have ih0 := figureheadref01_Same.mono_l k
  unfold figureheadref01_Same.f
  repeat' first
      | (with_reducible exact ih0 _ _ _)
      | (with_reducible exact LeO.refl _)
      | (with_reducible exact LeO.none _)
      | (with_reducible refine LeO.ite ?_ ?_)
      | (with_reducible refine LeO.bind ?_ (fun _ => ?_))
      | exact ih0 _ _ _
      | exact LeO.none _
      | refine LeO.ite ?_ ?_
      | refine LeO.bind ?_ (fun _ => ?_)
set_option maxHeartbeats 8000000 in
set_option maxRecDepth 100000 in
theorem figureheadref01_Same.calls (k : Nat) (A0 : Option Addr) (c0 : Nat) (l0 : List Int) (A1 : Option Addr) (c1 : Nat) (l1 : List Int) (r : Bool) (w : World) (hr0 : Kd.C (Kd.int .u32) w A0 l0.length l0) (hc0 : l0.length ≤ c0) (hr1 : Kd.C (Kd.int .u32) w A1 l1.length l1) (hc1 : l1.length ≤ c1) (h : figureheadref01_Same.f k l0 l1 = some r) :
    Calls Try.prog 17 #[.slice A0 l0.length c0, .slice A1 l1.length c1] w fun e w' => e = .returned (.bool r) ∧ Drawn0 w w' := by
  have HR0 := Aside0.mk hr0
  have HC0 := Aside0.mk hc0
  clear hr0 hc0
  have HR1 := Aside0.mk hr1
  have HC1 := Aside0.mk hc1
  clear hr1 hc1
  have H : (if (l0.length : Int) = (l1.length : Int) then (figureheadref01_Same.l0 k l0 l1 0) else (some false)) = some r := h
  clear h
  by_cases c3 : (l0.length : Int) = (l1.length : Int)
  · rw [if_pos c3] at H
    have c3b0 : ((l0.length : Int) == (l1.length : Int)) = true := beq_iff_eq.mpr c3
    have c3b1 : ((l0.length : Int) != (l1.length : Int)) = false := bne_eq_false_iff_eq.mpr c3
    have c3b2 : (l0.length == l1.length) = true := by first | simpa using c3 | (simp at c3 ⊢; omega)
    clear c3
    have H' := Aside0.mk H
    clear H
    go_enter Try.func17, Try.ntmps17
    go_wp2
    repeat (go_quiet (fail); try go_wp2)
    go_loopg [5] k (fun kq v5 w' => ∃ (x5_1 : Int), v5 = .int .i64 x5_1 ∧ Aside0 (figureheadref01_Same.l0 kq l0 l1 x5_1 = some r) ∧ Aside0 (kq ≤ k) ∧ Drawn0 w w')
    case atStart => exact ⟨(0), (by first | rfl | (simp; done) | (simp [*]; done) | (simp [*, Fig.bne_nil]; done)), H', ⟨Nat.le_refl _⟩, by repeat (first | exact Drawn0.refl _ | apply Drawn0.step)⟩
    case round =>
      clear H'
      try clear c1
      try clear p2
      try clear c3
      try clear c3b0
      try clear c3b1
      try clear c3b2
      obtain ⟨x5_1, rfl, HA, HK1, ⟨m1, rfl⟩⟩ := hrel
      cases gk with
      | zero => exact absurd HA.out (by simp [figureheadref01_Same.l0])
      | succ k1 =>
        have H := HA.out
        clear HA
        simp only [figureheadref01_Same.l0] at H
        by_cases c4 : x5_1 < (l0.length : Int)
        · rw [if_pos c4] at H
          have c4b0 : decide (x5_1 < (l0.length : Int)) = true := decide_eq_true c4
          clear c4
          by_cases c5 : 0 ≤ x5_1
          · rw [if_pos c5] at H
            have c5b0 : decide (0 ≤ x5_1) = true := decide_eq_true c5
            clear c5
            by_cases c6 : x5_1 < (l1.length : Int)
            · rw [if_pos c6] at H
              have c6b0 : decide (x5_1 < (l1.length : Int)) = true := decide_eq_true c6
              clear c6
              by_cases c7 : (rd l0 x5_1) = (rd l1 x5_1)
              · rw [if_pos c7] at H
                have c7b0 : ((rd l0 x5_1) == (rd l1 x5_1)) = true := beq_iff_eq.mpr c7
                have c7b1 : ((rd l0 x5_1) != (rd l1 x5_1)) = false := bne_eq_false_iff_eq.mpr c7
                clear c7
                have H' := Aside0.mk H
                clear H
                have p145 : 0 ≤ (x5_1 : Int) := of_decide_eq_true (by first | (with_reducible assumption) | assumption)
                have q145 : x5_1 < (l0.length : Int) := of_decide_eq_true (by first | (with_reducible assumption) | assumption)
                obtain ⟨ad145, e145, hx145_0⟩ := Kd.at_int HR0.out x5_1 p145 q145
                cases e145
                replace p145 := eq_true p145
                replace q145 := eq_true q145
                have p146 : 0 ≤ (x5_1 : Int) := of_decide_eq_true (by first | (with_reducible assumption) | assumption)
                have q146 : x5_1 < (l1.length : Int) := of_decide_eq_true (by first | (with_reducible assumption) | assumption)
                obtain ⟨ad146, e146, hx146_0⟩ := Kd.at_int HR1.out x5_1 p146 q146
                cases e146
                replace p146 := eq_true p146
                replace q146 := eq_true q146
                go_wp2
                repeat (go_quiet (fail); try go_wp2)
                go_roundg k1
                case measure => have := HK1.out; omega
                case rel => exact ⟨(wrap64 (x5_1 + 1)), (by first | rfl | (simp; done) | (simp [*]; done) | (simp [*, Fig.bne_nil]; done)), H', ⟨by have := HK1.out; omega⟩, by repeat (first | exact Drawn0.refl _ | apply Drawn0.step)⟩
              · rw [if_neg c7] at H
                have c7b0 : ((rd l0 x5_1) == (rd l1 x5_1)) = false := beq_eq_false_iff_ne.mpr c7
                have c7b1 : ((rd l0 x5_1) != (rd l1 x5_1)) = true := bne_iff_ne.mpr c7
                obtain rfl := Option.some.inj H
                have p145 : 0 ≤ (x5_1 : Int) := of_decide_eq_true (by first | (with_reducible assumption) | assumption)
                have q145 : x5_1 < (l0.length : Int) := of_decide_eq_true (by first | (with_reducible assumption) | assumption)
                obtain ⟨ad145, e145, hx145_0⟩ := Kd.at_int HR0.out x5_1 p145 q145
                cases e145
                replace p145 := eq_true p145
                replace q145 := eq_true q145
                have p146 : 0 ≤ (x5_1 : Int) := of_decide_eq_true (by first | (with_reducible assumption) | assumption)
                have q146 : x5_1 < (l1.length : Int) := of_decide_eq_true (by first | (with_reducible assumption) | assumption)
                obtain ⟨ad146, e146, hx146_0⟩ := Kd.at_int HR1.out x5_1 p146 q146
                cases e146
                replace p146 := eq_true p146
                replace q146 := eq_true q146
                go_wp2
                repeat (go_quiet (fail); try go_wp2)
                go_ret
                exact ⟨by first | rfl | (simp; done) | (simp [*]; done) | (simp [*, Fig.bne_nil]; done), by repeat (first | exact Drawn0.refl _ | apply Drawn0.step)⟩
            · rw [if_neg c6] at H
              exact absurd H (by simp)
          · rw [if_neg c5] at H
            exact absurd H (by simp)
        · rw [if_neg c4] at H
          have c4b0 : decide (x5_1 < (l0.length : Int)) = false := decide_eq_false c4
          clear c4
          obtain rfl := Option.some.inj H
          go_wp2
          repeat (go_quiet (fail); try go_wp2)
          go_ret
          exact ⟨by first | rfl | (simp; done) | (simp [*]; done) | (simp [*, Fig.bne_nil]; done), by repeat (first | exact Drawn0.refl _ | apply Drawn0.step)⟩
  · rw [if_neg c3] at H
    have c3b0 : ((l0.length : Int) == (l1.length : Int)) = false := beq_eq_false_iff_ne.mpr c3
    have c3b1 : ((l0.length : Int) != (l1.length : Int)) = true := bne_iff_ne.mpr c3
    have c3b2 : (l0.length == l1.length) = false := by first | simpa using c3 | (simp at c3 ⊢; omega)
    obtain rfl := Option.some.inj H
    go_enter Try.func17, Try.ntmps17
    go_wp2
    repeat (go_quiet (fail); try go_wp2)
    go_ret
    exact ⟨by first | rfl | (simp; done) | (simp [*]; done) | (simp [*, Fig.bne_nil]; done), by repeat (first | exact Drawn0.refl _ | apply Drawn0.step)⟩

end Go.Proofs.Ytkhmdpplpecgcaa.Px

namespace Go.Proofs.Ytkhmdpplpecgcaa.Px
open Fig Go.RowKit Go.Proofs.YtkhmdpplpecgcaaW.PrintWords Go.Proofs.YtkhmdpplpecgcaaW.PrintLast Go.Proofs.YtkhmdpplpecgcaaW.PrintMore
attribute [local go_sem] max2_int min2_int max_two min_two max_three min_three max_four min_four   -- for this text's walks alone

/-! ### figureheadref01_Strip: function 35 -/
def figureheadref01_Strip.l0 : Nat → ByteArray → Int → Option (ByteArray)
  | 0, _, _ => none
  | k + 1, x0, x3 => if x3 < (x0.size : Int) then (if 0 ≤ x3 then (if (bt x0 x3) = 48 then (figureheadref01_Strip.l0 k x0 (wrap64 (x3 + 1))) else (if x3 ≤ (x0.size : Int) then (some (x0.extract (x3 : Int).toNat x0.size)) else (none))) else (none)) else (if 0 ≤ x3 then (if x3 ≤ (x0.size : Int) then (some (x0.extract (x3 : Int).toNat x0.size)) else (none)) else (none))
def figureheadref01_Strip.f (k : Nat) (a0 : ByteArray) : Option (ByteArray) := figureheadref01_Strip.l0 k a0 0
theorem figureheadref01_Strip.mono_l : ∀ k, (∀ y0 y1, LeO (figureheadref01_Strip.l0 k y0 y1) (figureheadref01_Strip.l0 (k + 1) y0 y1))
  | 0 => fun _ _ r h => by simp [figureheadref01_Strip.l0] at h
  | k + 1 => by
    have ih0 := figureheadref01_Strip.mono_l k
    · intro y0 y1
      unfold figureheadref01_Strip.l0
      repeat' first
      | (with_reducible exact ih0 _ _)
      | (with_reducible exact LeO.refl _)
      | (with_reducible exact LeO.none _)
      | (with_reducible refine LeO.ite ?_ ?_)
      | (with_reducible refine LeO.bind ?_ (fun _ => ?_))
      | exact ih0 _ _
      | exact LeO.none _
      | refine LeO.ite ?_ ?_
      | refine LeO.bind ?_ (fun _ => ?_)
theorem figureheadref01_Strip.mono : ∀ a0 k, LeO (figureheadref01_Strip.f k a0) (figureheadref01_Strip.f (k + 1) a0) := by
  intro a0 k
  have ih0 := figureheadref01_Strip.mono_l k
  unfold figureheadref01_Strip.f
  repeat' first
      | (with_reducible exact ih0 _ _)
      | (with_reducible exact LeO.refl _)
      | (with_reducible exact LeO.none _)
      | (with_reducible refine LeO.ite ?_ ?_)
      | (with_reducible refine LeO.bind ?_ (fun _ => ?_))
      | exact ih0 _ _
      | exact LeO.none _
      | refine LeO.ite ?_ ?_
      | refine LeO.bind ?_ (fun _ => ?_)
set_option maxHeartbeats 8000000 in
set_option maxRecDepth 100000 in
theorem figureheadref01_Strip.calls (k : Nat) (a0 : ByteArray) (r : ByteArray) (w : World) (h : figureheadref01_Strip.f k a0 = some r) :
    Calls Try.prog 35 #[.string a0] w fun e w' => e = .returned (.string r) ∧ Drawn0 w w' := by
  have H : (figureheadref01_Strip.l0 k a0 0) = some r := h
  clear h
  have H' := Aside0.mk H
  clear H
  go_enter Try.func35, Try.ntmps35
  go_wp2
  go_loopg [3] k (fun kq v3 w' => ∃ (x3_1 : Int), v3 = .int .i64 x3_1 ∧ Aside0 (figureheadref01_Strip.l0 kq a0 x3_1 = some r) ∧ Aside0 (kq ≤ k) ∧ Drawn0 w w')
  case atStart => exact ⟨(0), (by first | rfl | (simp; done) | (simp [*]; done) | (simp [*, Fig.bne_nil]; done)), H', ⟨Nat.le_refl _⟩, by repeat (first | exact Drawn0.refl _ | apply Drawn0.step)⟩
  case round =>
    clear H'
    obtain ⟨x3_1, rfl, HA, HK1, ⟨m1, rfl⟩⟩ := hrel
    cases gk with
    | zero => exact absurd HA.out (by simp [figureheadref01_Strip.l0])
    | succ k1 =>
      have H := HA.out
      clear HA
      simp only [figureheadref01_Strip.l0] at H
      by_cases c2 : x3_1 < (a0.size : Int)
      · rw [if_pos c2] at H
        have c2b0 : decide (x3_1 < (a0.size : Int)) = true := decide_eq_true c2
        clear c2
        by_cases c3 : 0 ≤ x3_1
        · rw [if_pos c3] at H
          have c3b0 : decide (0 ≤ x3_1) = true := decide_eq_true c3
          clear c3
          by_cases c5 : (bt a0 x3_1) = 48
          · rw [if_pos c5] at H
            have c5b0 : ((bt a0 x3_1) == 48) = true := beq_iff_eq.mpr c5
            have c5b1 : ((bt a0 x3_1) != 48) = false := bne_eq_false_iff_eq.mpr c5
            clear c5
            have H' := Aside0.mk H
            clear H
            have p4 : 0 ≤ (x3_1 : Int) := of_decide_eq_true (by first | (with_reducible assumption) | assumption)
            have q4 : x3_1 < (a0.size : Int) := of_decide_eq_true (by first | (with_reducible assumption) | assumption)
            have hx4 := bt_at a0 x3_1
            replace p4 := eq_true p4
            replace q4 := eq_true q4
            go_wp2
            go_roundg k1
            case measure => have := HK1.out; omega
            case rel => exact ⟨(wrap64 (x3_1 + 1)), (by first | rfl | (simp; done) | (simp [*]; done) | (simp [*, Fig.bne_nil]; done)), H', ⟨by have := HK1.out; omega⟩, by repeat (first | exact Drawn0.refl _ | apply Drawn0.step)⟩
          · rw [if_neg c5] at H
            have c5b0 : ((bt a0 x3_1) == 48) = false := beq_eq_false_iff_ne.mpr c5
            have c5b1 : ((bt a0 x3_1) != 48) = true := bne_iff_ne.mpr c5
            have c6b0 := eq_true (of_decide_eq_true (by first | (with_reducible assumption) | assumption) : 0 ≤ x3_1)
            by_cases c7 : x3_1 ≤ (a0.size : Int)
            · rw [if_pos c7] at H
              have c7b0 := eq_true c7
              have c7b1 : decide (x3_1 ≤ (a0.size : Int)) = true := decide_eq_true c7
              clear c7
              obtain rfl := Option.some.inj H
              have p4 : 0 ≤ (x3_1 : Int) := of_decide_eq_true (by first | (with_reducible assumption) | assumption)
              have q4 : x3_1 < (a0.size : Int) := of_decide_eq_true (by first | (with_reducible assumption) | assumption)
              have hx4 := bt_at a0 x3_1
              replace p4 := eq_true p4
              replace q4 := eq_true q4
              go_wp2
              go_ret
              exact ⟨by first | rfl | (simp; done) | (simp [*]; done) | (simp [*, Fig.bne_nil]; done), by repeat (first | exact Drawn0.refl _ | apply Drawn0.step)⟩
            · rw [if_neg c7] at H
              exact absurd H (by simp)
        · rw [if_neg c3] at H
          exact absurd H (by simp)
      · rw [if_neg c2] at H
        have c2b0 : decide (x3_1 < (a0.size : Int)) = false := decide_eq_false c2
        clear c2
        by_cases c8 : 0 ≤ x3_1
        · rw [if_pos c8] at H
          have c8b0 := eq_true c8
          have c8b1 : decide (0 ≤ x3_1) = true := decide_eq_true c8
          clear c8
          by_cases c9 : x3_1 ≤ (a0.size : Int)
          · rw [if_pos c9] at H
            have c9b0 := eq_true c9
            have c9b1 : decide (x3_1 ≤ (a0.size : Int)) = true := decide_eq_true c9
            clear c9
            obtain rfl := Option.some.inj H
            go_wp2
            go_ret
            exact ⟨by first | rfl | (simp; done) | (simp [*]; done) | (simp [*, Fig.bne_nil]; done), by repeat (first | exact Drawn0.refl _ | apply Drawn0.step)⟩
          · rw [if_neg c9] at H
            exact absurd H (by simp)
        · rw [if_neg c8] at H
          exact absurd H (by simp)

end Go.Proofs.Ytkhmdpplpecgcaa.Px

namespace Go.Proofs.Ytkhmdpplpecgcaa.Px
open Fig Go.RowKit Go.Proofs.YtkhmdpplpecgcaaW.PrintWords Go.Proofs.YtkhmdpplpecgcaaW.PrintLast Go.Proofs.YtkhmdpplpecgcaaW.PrintMore
attribute [local go_sem] max2_int min2_int max_two min_two max_three min_three max_four min_four   -- for this text's walks alone

/-! ### figureheadref01_Text: function 21 -/
mutual
def figureheadref01_Text.l0 : Nat → List Int → ByteArray → Int → Option (ByteArray)
  | 0, _, _, _ => none
  | k + 1, x0, x3, x4 => if x4 < (x0.length : Int) then (if 0 ≤ x4 then (figureheadref01_Text.l1 k x0 x3 x4 (rd x0 x4) 0) else (none)) else ((figureheadref01_Strip.f k x3).bind fun t168 => (some t168))
def figureheadref01_Text.l1 : Nat → List Int → ByteArray → Int → Int → Int → Option (ByteArray)
  | 0, _, _, _, _, _ => none
  | k + 1, x0, x3, x4, x5, x6 => if x6 < 9 then ((some (([((48 + (Int.tmod x5 10)) % 4294967296) % 256] : List Int) : List Int)).bind fun y170 => (if (strOfNums y170).size + x3.size ≤ 9223372036854775807 then (figureheadref01_Text.l1 k x0 ((strOfNums y170) ++ x3) x4 ((Int.tdiv x5 10) % 4294967296) (wrap64 (x6 + 1))) else (none))) else (figureheadref01_Text.l0 k x0 x3 (wrap64 (x4 + 1)))
end
def figureheadref01_Text.f (k : Nat) (l0 : List Int) : Option (ByteArray) := figureheadref01_Text.l0 k l0 (⟨#[]⟩ : ByteArray) 0
theorem figureheadref01_Text.mono_l : ∀ k, (∀ y0 y1 y2, LeO (figureheadref01_Text.l0 k y0 y1 y2) (figureheadref01_Text.l0 (k + 1) y0 y1 y2)) ∧ (∀ y0 y1 y2 y3 y4, LeO (figureheadref01_Text.l1 k y0 y1 y2 y3 y4) (figureheadref01_Text.l1 (k + 1) y0 y1 y2 y3 y4))
  | 0 => ⟨fun _ _ _ r h => by simp [figureheadref01_Text.l0] at h, fun _ _ _ _ _ r h => by simp [figureheadref01_Text.l1] at h⟩
  | k + 1 => by
    obtain ⟨ih0, ih1⟩ := figureheadref01_Text.mono_l k
    refine ⟨?_, ?_⟩
    · intro y0 y1 y2
      unfold figureheadref01_Text.l0
      repeat' first
      | (with_reducible exact ih0 _ _ _)
      | (with_reducible exact ih1 _ _ _ _ _)
      | (with_reducible exact figureheadref01_Strip.mono _ _)
      | (with_reducible exact LeO.refl _)
      | (with_reducible exact LeO.none _)
      | (with_reducible refine LeO.ite ?_ ?_)
      | (with_reducible refine LeO.bind ?_ (fun _ => ?_))
      | exact ih0 _ _ _
      | exact ih1 _ _ _ _ _
      | exact figureheadref01_Strip.mono _ _
      | exact LeO.none _
      | refine LeO.ite ?_ ?_
      | refine LeO.bind ?_ (fun _ => ?_)
    · intro y0 y1 y2 y3 y4
      unfold figureheadref01_Text.l1
      repeat' first
      | (with_reducible exact ih0 _ _ _)
      | (with_reducible exact ih1 _ _ _ _ _)
      | (with_reducible exact figureheadref01_Strip.mono _ _)
      | (with_reducible exact LeO.refl _)
      | (with_reducible exact LeO.none _)
      | (with_reducible refine LeO.ite ?_ ?_)
      | (with_reducible refine LeO.bind ?_ (fun _ => ?_))
      | exact ih0 _ _ _
      | exact ih1 _ _ _ _ _
      | exact figureheadref01_Strip.mono _ _
      | exact LeO.none _
      | refine LeO.ite ?_ ?_
      | refine LeO.bind ?_ (fun _ => ?_)
theorem figureheadref01_Text.mono : ∀ a0 k, LeO (figureheadref01_Text.f k a0) (figureheadref01_Text.f (k + 1) a0) := by
  intro a0 k
  obtain ⟨ih0, ih1⟩ := figureheadref01_Text.mono_l k
  unfold figureheadref01_Text.f
  repeat' first
      | (with_reducible exact ih0 _ _ _)
      | (with_reducible exact ih1 _ _ _ _ _)
      | (with_reducible exact figureheadref01_Strip.mono _ _)
      | (with_reducible exact LeO.refl _)
      | (with_reducible exact LeO.none _)
      | (with_reducible refine LeO.ite ?_ ?_)
      | (with_reducible refine LeO.bind ?_ (fun _ => ?_))
      | exact ih0 _ _ _
      | exact ih1 _ _ _ _ _
      | exact figureheadref01_Strip.mono _ _
      | exact LeO.none _
      | refine LeO.ite ?_ ?_
      | refine LeO.bind ?_ (fun _ => ?_)
set_option maxHeartbeats 8000000 in
set_option maxRecDepth 100000 in
theorem figureheadref01_Text.calls (k : Nat) (A0 : Option Addr) (c0 : Nat) (l0 : List Int) (r : ByteArray) (w : World) (hr0 : Kd.C (Kd.int .u32) w A0 l0.length l0) (hc0 : l0.length ≤ c0) (h : figureheadref01_Text.f k l0 = some r) :
    Calls Try.prog 21 #[.slice A0 l0.length c0] w fun e w' => e = .returned (.string r) ∧ Below w.heap.size w w' := by
  have HR0 := Aside0.mk hr0
  have HC0 := Aside0.mk hc0
  clear hr0 hc0
  have HB := Aside0.mk (Below.refl w.heap.size w)
  have H : (figureheadref01_Text.l0 k l0 (⟨#[]⟩ : ByteArray) 0) = some r := h
  clear h
  have H' := Aside0.mk H
  clear H
  go_enter Try.func21, Try.ntmps21
  go_wp2
  go_loopg [3, 4] k (fun kq v3 v4 w' => ∃ (x3_1 : ByteArray) (x4_1 : Int), v3 = .string x3_1 ∧ v4 = .int .i64 x4_1 ∧ Aside0 (figureheadref01_Text.l0 kq l0 x3_1 x4_1 = some r) ∧ Aside0 (kq ≤ k) ∧ Aside0 (Below w.heap.size w w'))
  case atStart => exact ⟨((⟨#[]⟩ : ByteArray)), (0), (by first | rfl | (simp; done) | (simp [*]; done) | (simp [*, Fig.bne_nil]; done)), (by first | rfl | (simp; done) | (simp [*]; done) | (simp [*, Fig.bne_nil]; done)), H', ⟨Nat.le_refl _⟩, ⟨by repeat (first | (with_reducible first | exact HB.out | apply below_alloc | apply pw_below_drewN | apply below_drew1) | exact HB.out)⟩⟩
  case round =>
    clear H'
    obtain ⟨x3_1, x4_1, rfl, rfl, HA, HK1, HB⟩ := hrel
    cases gk with
    | zero => exact absurd HA.out (by simp [figureheadref01_Text.l0])
    | succ k1 =>
      have H := HA.out
      clear HA
      simp only [figureheadref01_Text.l0] at H
      by_cases c2 : x4_1 < (l0.length : Int)
      · rw [if_pos c2] at H
        have c2b0 : decide (x4_1 < (l0.length : Int)) = true := decide_eq_true c2
        clear c2
        by_cases c3 : 0 ≤ x4_1
        · rw [if_pos c3] at H
          have c3b0 : decide (0 ≤ x4_1) = true := decide_eq_true c3
          clear c3
          have H' := Aside0.mk H
          clear H
          have p169 : 0 ≤ (x4_1 : Int) := of_decide_eq_true (by first | (with_reducible assumption) | assumption)
          have q169 : x4_1 < (l0.length : Int) := of_decide_eq_true (by first | (with_reducible assumption) | assumption)
          obtain ⟨ad169, e169, hx169_0⟩ := Kd.at_int HR0.out x4_1 p169 q169
          cases e169
          replace hx169_0 := (HB.out.cell (World.block_lt_of_cell? w _ hx169_0)).trans hx169_0
          replace p169 := eq_true p169
          replace q169 := eq_true q169
          go_wp2
          go_loopg [3, 5, 6] k1 (fun kq v3 v5 v6 w' => ∃ (x3_2 : ByteArray) (x5_2 : Int) (x6_2 : Int), v3 = .string x3_2 ∧ v5 = .int .u32 x5_2 ∧ v6 = .int .i64 x6_2 ∧ Aside0 (figureheadref01_Text.l1 kq l0 x3_2 x4_1 x5_2 x6_2 = some r) ∧ Aside0 (kq ≤ k1) ∧ Aside0 (Below w.heap.size w w'))
          case atStart => exact ⟨(x3_1), (rd l0 x4_1), (0), (by first | rfl | (simp; done) | (simp [*]; done) | (simp [*, Fig.bne_nil]; done)), (by first | rfl | (simp; done) | (simp [*]; done) | (simp [*, Fig.bne_nil]; done)), (by first | rfl | (simp; done) | (simp [*]; done) | (simp [*, Fig.bne_nil]; done)), H', ⟨Nat.le_refl _⟩, ⟨by repeat (first | (with_reducible first | exact HB.out | apply below_alloc | apply pw_below_drewN | apply below_drew1) | exact HB.out)⟩⟩
          case round =>
            clear H'
            try clear p1
            try clear q1
            try clear hx1
            try clear c2
            try clear c2b0
            try clear p2
            try clear c3
            try clear c3b0
            try clear hx169_0
            try clear p169
            try clear q169
            obtain ⟨x3_2, x5_2, x6_2, rfl, rfl, rfl, HA, HK2, HB⟩ := hrel
            cases gk with
            | zero => exact absurd HA.out (by simp [figureheadref01_Text.l1])
            | succ k2 =>
              have H := HA.out
              clear HA
              simp only [figureheadref01_Text.l1] at H
              by_cases c4 : x6_2 < 9
              · rw [if_pos c4] at H
                have c4b0 : decide (x6_2 < 9) = true := decide_eq_true c4
                clear c4
                obtain ⟨y170, hy170⟩ : ∃ y_ : List Int, y_ = (([((48 + (Int.tmod x5_2 10)) % 4294967296) % 256] : List Int)) := ⟨_, rfl⟩
                replace H : (if (strOfNums y170).size + x3_2.size ≤ 9223372036854775807 then (figureheadref01_Text.l1 k2 l0 ((strOfNums y170) ++ x3_2) x4_1 ((Int.tdiv x5_2 10) % 4294967296) (wrap64 (x6_2 + 1))) else (none)) = some r := by first | (rw [hy170]; with_reducible exact H) | (have H2_ := (Option.bind_some _ _).symm.trans H; rw [hy170]; with_reducible exact H2_) | (have H2_ := (Option.bind_some _ _).symm.trans H; with_reducible exact H2_) | with_reducible exact H | (rw [hy170]; exact H) | exact H
                have Ny170 := Aside0.mk hy170
                clear hy170
                by_cases c5 : (strOfNums y170).size + x3_2.size ≤ 9223372036854775807
                · rw [if_pos c5] at H
                  have c5b0 := eq_true c5
                  have c5b1 : decide ((strOfNums y170).size + x3_2.size ≤ 9223372036854775807) = true := decide_eq_true c5
                  try have c5b2 : (9223372036854775807 < (strOfNums y170).size + x3_2.size) = False := eq_false (Nat.not_lt.2 c5)
                  have H' := Aside0.mk H
                  clear H
                  go_wp2_with (first | ((with_reducible refine gate_dst (N := 25) rfl ?_); refine Kd.R_lit (Kd.int .u8) _ 5 ?hg (N := 25) ?hd (xs := ([((48 + (Int.tmod x5_2 10)) % 4294967296) % 256] : List Int)) (inner := [.int .u8 (((48 + (Int.tmod x5_2 10)) % 4294967296) % 256)]) (ok := fun _ => True) (okp := fun _ => True) ?hr ?hp (fun _ hk => hk) trivial (Below.refl _ _) (Nat.le_refl _) (by simp) ?_; (case hd => rfl); (case hg => rfl); (case hr => first | (go_simp; done) | (go_simp; rfl)); (case hp => exact (Reps.one (show Kd.M (Kd.int .u8) _ _ _ (((48 + (Int.tmod x5_2 10)) % 4294967296) % 256) [.int .u8 (((48 + (Int.tmod x5_2 10)) % 4294967296) % 256)] from rfl) (Reps.none _ _))); intro v171 w6 ho7 hb hg_ hnew_; clear hg_ hnew_; (first | rw [← Ny170.out] at ho7 | (simp only [Int.reduceToNat] at ho7; rw [← Ny170.out] at ho7)); have n0_ := Aside0.mk (Kd.R_lower ho7 (below_size (by repeat (first | (with_reducible first | exact HB.out | apply below_alloc | apply pw_below_drewN | apply below_drew1) | exact HB.out)))); have n1_ := Aside0.mk (below_step (by repeat (first | (with_reducible first | exact HB.out | apply below_alloc | apply pw_below_drewN | apply below_drew1) | exact HB.out)) hb); clear HB; have HO172 := n0_; have HB := n1_; clear n0_ n1_; clear hb ho7; have hcv8 := own_string (P := Try.prog) Try.underlying46 Try.underlying5 Try.underlying9 (Kd.own_of_R HO172.out)))
                  go_roundg k2
                  case measure => have := HK1.out; have := HK2.out; omega
                  case rel => exact ⟨((strOfNums y170) ++ x3_2), ((Int.tdiv x5_2 10) % 4294967296), (wrap64 (x6_2 + 1)), (by first | rfl | (simp; done) | (simp [*]; done) | (simp [*, Fig.bne_nil]; done)), (by first | rfl | (simp; done) | (simp [*]; done) | (simp [*, Fig.bne_nil]; done)), (by first | rfl | (simp; done) | (simp [*]; done) | (simp [*, Fig.bne_nil]; done)), H', ⟨by have := HK1.out; have := HK2.out; omega⟩, ⟨by repeat (first | (with_reducible first | exact HB.out | apply below_alloc | apply pw_below_drewN | apply below_drew1) | exact HB.out)⟩⟩
                · rw [if_neg c5] at H
                  exact absurd H (by simp)
              · rw [if_neg c4] at H
                have c4b0 : decide (x6_2 < 9) = false := decide_eq_false c4
                clear c4
                have H' := Aside0.mk H
                clear H
                go_wp2
                go_roundg k2
                case measure => have := HK1.out; have := HK2.out; omega
                case rel => exact ⟨(x3_2), (wrap64 (x4_1 + 1)), (by first | rfl | (simp; done) | (simp [*]; done) | (simp [*, Fig.bne_nil]; done)), (by first | rfl | (simp; done) | (simp [*]; done) | (simp [*, Fig.bne_nil]; done)), H', ⟨by have := HK1.out; have := HK2.out; omega⟩, ⟨by repeat (first | (with_reducible first | exact HB.out | apply below_alloc | apply pw_below_drewN | apply below_drew1) | exact HB.out)⟩⟩
        · rw [if_neg c3] at H
          exact absurd H (by simp)
      · rw [if_neg c2] at H
        have c2b0 : decide (x4_1 < (l0.length : Int)) = false := decide_eq_false c2
        clear c2
        replace H := Option.bind_eq_some_iff.mp H
        obtain ⟨t168, A90, H⟩ := H
        replace H : (some t168) = some r := H
        have A9 := Aside0.mk A90
        clear A90
        obtain rfl := Option.some.inj H
        go_wp2_with (first | ((with_reducible refine gate_callee (f := 35) rfl ?_); refine goesL_ (some 32) rfl rfl Try.func35 (by kernel_rfl) rfl #[.string x3_1] rfl (by (try simp only [List.map_toArray, List.map_cons, List.map_nil]); first | done | rfl | (simp only [List.length_drop, List.length_take]; rfl)) ?_; (with_reducible refine (figureheadref01_Strip.calls k1 x3_1 t168 _ A9.out).mono ?_); rintro e w' ⟨rfl, ⟨nd, rfl⟩⟩; refine ⟨_, rfl, ?_⟩))
        go_ret
        exact ⟨by first | rfl | (simp [errW_none, errW_some] <;> rfl) | (simp [*, errW_none, errW_some] <;> rfl), by repeat (first | (with_reducible first | exact HB.out | apply below_alloc | apply pw_below_drewN | apply below_drew1) | exact HB.out)⟩

end Go.Proofs.Ytkhmdpplpecgcaa.Px

namespace Go.Proofs.Ytkhmdpplpecgcaa.Px
open Fig Go.RowKit Go.Proofs.YtkhmdpplpecgcaaW.PrintWords Go.Proofs.YtkhmdpplpecgcaaW.PrintLast Go.Proofs.YtkhmdpplpecgcaaW.PrintMore
attribute [local go_sem] max2_int min2_int max_two min_two max_three min_three max_four min_four   -- for this text's walks alone

/-! ### figureheadref01_Good: function 32 -/
def figureheadref01_Good.l0 : Nat → List Int → Int → Option (Bool)
  | 0, _, _ => none
  | k + 1, x0, x3 => if x3 < (x0.length : Int) then (if 0 ≤ x3 then (if (rd x0 x3) > 999999999 then (some false) else (figureheadref01_Good.l0 k x0 (wrap64 (x3 + 1)))) else (none)) else (some true)
def figureheadref01_Good.f (k : Nat) (l0 : List Int) : Option (Bool) := figureheadref01_Good.l0 k l0 0
theorem figureheadref01_Good.mono_l : ∀ k, (∀ y0 y1, LeO (figureheadref01_Good.l0 k y0 y1) (figureheadref01_Good.l0 (k + 1) y0 y1))
  | 0 => fun _ _ r h => by simp [figureheadref01_Good.l0] at h
  | k + 1 => by
    have ih0 := figureheadref01_Good.mono_l k
    · intro y0 y1
      unfold figureheadref01_Good.l0
      repeat' first
      | (with_reducible exact ih0 _ _)
      | (with_reducible exact LeO.refl _)
      | (with_reducible exact LeO.none _)
      | (with_reducible refine LeO.ite ?_ ?_)
      | (with_reducible refine LeO.bind ?_ (fun _ => ?_))
      | exact ih0 _ _
      | exact LeO.none _
      | refine LeO.ite ?_ ?_
      | refine LeO.bind ?_ (fun _ => ?_)
theorem figureheadref01_Good.mono : ∀ a0 k, LeO (figureheadref01_Good.f k a0) (figureheadref01_Good.f (k + 1) a0) := by
  intro a0 k
  have ih0 := figureheadref01_Good.mono_l k
  unfold figureheadref01_Good.f
  repeat' first
      | (with_reducible exact ih0 _ _)
      | (with_reducible exact LeO.refl _)
      | (with_reducible exact LeO.none _)
      | (with_reducible refine LeO.ite ?_ ?_)
      | (with_reducible refine LeO.bind ?_ (fun _ => ?_))
      | exact ih0 _ _
      | exact LeO.none _
      | refine LeO.ite ?_ ?_
      | refine LeO.bind ?_ (fun _ => ?_)
set_option maxHeartbeats 8000000 in
set_option maxRecDepth 100000 in
theorem figureheadref01_Good.calls (k : Nat) (A0 : Option Addr) (c0 : Nat) (l0 : List Int) (r : Bool) (w : World) (hr0 : Kd.C (Kd.int .u32) w A0 l0.length l0) (hc0 : l0.length ≤ c0) (h : figureheadref01_Good.f k l0 = some r) :
    Calls Try.prog 32 #[.slice A0 l0.length c0] w fun e w' => e = .returned (.bool r) ∧ Drawn0 w w' := by
  have HR0 := Aside0.mk hr0
  have HC0 := Aside0.mk hc0
  clear hr0 hc0
  have H : (figureheadref01_Good.l0 k l0 0) = some r := h
  clear h
  have H' := Aside0.mk H
  clear H
  go_enter Try.func32, Try.ntmps32
  go_wp2
  go_loopg [3] k (fun kq v3 w' => ∃ (x3_1 : Int), v3 = .int .i64 x3_1 ∧ Aside0 (figureheadref01_Good.l0 kq l0 x3_1 = some r) ∧ Aside0 (kq ≤ k) ∧ Drawn0 w w')
  case atStart => exact ⟨(0), (by first | rfl | (simp; done) | (simp [*]; done) | (simp [*, Fig.bne_nil]; done)), H', ⟨Nat.le_refl _⟩, by repeat (first | exact Drawn0.refl _ | apply Drawn0.step)⟩
  case round =>
    clear H'
    obtain ⟨x3_1, rfl, HA, HK1, ⟨m1, rfl⟩⟩ := hrel
    cases gk with
    | zero => exact absurd HA.out (by simp [figureheadref01_Good.l0])
    | succ k1 =>
      have H := HA.out
      clear HA
      simp only [figureheadref01_Good.l0] at H
      by_cases c2 : x3_1 < (l0.length : Int)
      · rw [if_pos c2] at H
        have c2b0 : decide (x3_1 < (l0.length : Int)) = true := decide_eq_true c2
        clear c2
        by_cases c3 : 0 ≤ x3_1
        · rw [if_pos c3] at H
          have c3b0 : decide (0 ≤ x3_1) = true := decide_eq_true c3
          clear c3
          by_cases c4 : (rd l0 x3_1) > 999999999
          · rw [if_pos c4] at H
            have c4b0 : decide (999999999 < (rd l0 x3_1)) = true := decide_eq_true c4
            clear c4
            obtain rfl := Option.some.inj H
            have p101 : 0 ≤ (x3_1 : Int) := of_decide_eq_true (by first | (with_reducible assumption) | assumption)
            have q101 : x3_1 < (l0.length : Int) := of_decide_eq_true (by first | (with_reducible assumption) | assumption)
            obtain ⟨ad101, e101, hx101_0⟩ := Kd.at_int HR0.out x3_1 p101 q101
            cases e101
            replace p101 := eq_true p101
            replace q101 := eq_true q101
            go_wp2
            go_ret
            exact ⟨by first | rfl | (simp; done) | (simp [*]; done) | (simp [*, Fig.bne_nil]; done), by repeat (first | exact Drawn0.refl _ | apply Drawn0.step)⟩
          · rw [if_neg c4] at H
            have c4b0 : decide (999999999 < (rd l0 x3_1)) = false := decide_eq_false c4
            clear c4
            have H' := Aside0.mk H
            clear H
            have p101 : 0 ≤ (x3_1 : Int) := of_decide_eq_true (by first | (with_reducible assumption) | assumption)
            have q101 : x3_1 < (l0.length : Int) := of_decide_eq_true (by first | (with_reducible assumption) | assumption)
            obtain ⟨ad101, e101, hx101_0⟩ := Kd.at_int HR0.out x3_1 p101 q101
            cases e101
            replace p101 := eq_true p101
            replace q101 := eq_true q101
            go_wp2
            go_roundg k1
            case measure => have := HK1.out; omega
            case rel => exact ⟨(wrap64 (x3_1 + 1)), (by first | rfl | (simp; done) | (simp [*]; done) | (simp [*, Fig.bne_nil]; done)), H', ⟨by have := HK1.out; omega⟩, by repeat (first | exact Drawn0.refl _ | apply Drawn0.step)⟩
        · rw [if_neg c3] at H
          exact absurd H (by simp)
      · rw [if_neg c2] at H
        have c2b0 : decide (x3_1 < (l0.length : Int)) = false := decide_eq_false c2
        clear c2
        obtain rfl := Option.some.inj H
        go_wp2
        go_ret
        exact ⟨by first | rfl | (simp; done) | (simp [*]; done) | (simp [*, Fig.bne_nil]; done), by repeat (first | exact Drawn0.refl _ | apply Drawn0.step)⟩

end Go.Proofs.Ytkhmdpplpecgcaa.Px

namespace Go.Proofs.Ytkhmdpplpecgcaa.Px
open Fig Go.RowKit Go.Proofs.YtkhmdpplpecgcaaW.PrintWords Go.Proofs.YtkhmdpplpecgcaaW.PrintLast Go.Proofs.YtkhmdpplpecgcaaW.PrintMore
attribute [local go_sem] max2_int min2_int max_two min_two max_three min_three max_four min_four   -- for this text's walks alone

/-! ### figureheadlaw01_good: function 24 -/
def figureheadlaw01_good.l0 : Nat → List (List Int) → Int → Option (Bool)
  | 0, _, _ => none
  | k + 1, x0, x3 => if x3 < (x0.length : Int) then (if 0 ≤ x3 then (if ((rd_L1 x0 x3).length : Int) > 60 then (some false) else ((figureheadref01_Good.f k (rd_L1 x0 x3)).bind fun t380 => (if t380 = true then (figureheadlaw01_good.l0 k x0 (wrap64 (x3 + 1))) else (some false)))) else (none)) else (some true)
def figureheadlaw01_good.f (k : Nat) (l0 : List (List Int)) : Option (Bool) := figureheadlaw01_good.l0 k l0 0
theorem figureheadlaw01_good.mono_l : ∀ k, (∀ y0 y1, LeO (figureheadlaw01_good.l0 k y0 y1) (figureheadlaw01_good.l0 (k + 1) y0 y1))
  | 0 => fun _ _ r h => by simp [figureheadlaw01_good.l0] at h
  | k + 1 => by
    have ih0 := figureheadlaw01_good.mono_l k
    · intro y0 y1
      unfold figureheadlaw01_good.l0
      repeat' first
      | (with_reducible exact ih0 _ _)
      | (with_reducible exact figureheadref01_Good.mono _ _)
      | (with_reducible exact LeO.refl _)
      | (with_reducible exact LeO.none _)
      | (with_reducible refine LeO.ite ?_ ?_)
      | (with_reducible refine LeO.bind ?_ (fun _ => ?_))
      | exact ih0 _ _
      | exact figureheadref01_Good.mono _ _
      | exact LeO.none _
      | refine LeO.ite ?_ ?_
      | refine LeO.bind ?_ (fun _ => ?_)
theorem figureheadlaw01_good.mono : ∀ a0 k, LeO (figureheadlaw01_good.f k a0) (figureheadlaw01_good.f (k + 1) a0) := by
  intro a0 k
  have ih0 := figureheadlaw01_good.mono_l k
  unfold figureheadlaw01_good.f
  repeat' first
      | (with_reducible exact ih0 _ _)
      | (with_reducible exact figureheadref01_Good.mono _ _)
      | (with_reducible exact LeO.refl _)
      | (with_reducible exact LeO.none _)
      | (with_reducible refine LeO.ite ?_ ?_)
      | (with_reducible refine LeO.bind ?_ (fun _ => ?_))
      | exact ih0 _ _
      | exact figureheadref01_Good.mono _ _
      | exact LeO.none _
      | refine LeO.ite ?_ ?_
      | refine LeO.bind ?_ (fun _ => ?_)
set_option maxHeartbeats 8000000 in
set_option maxRecDepth 100000 in
theorem figureheadlaw01_good.calls (k : Nat) (A0 : Option Addr) (c0 : Nat) (l0 : List (List Int)) (r : Bool) (w : World) (hr0 : Kd.C (Kd.slice 30 (Kd.int .u32)) w A0 l0.length l0) (hc0 : l0.length ≤ c0) (h : figureheadlaw01_good.f k l0 = some r) :
    Calls Try.prog 24 #[.slice A0 l0.length c0] w fun e w' => e = .returned (.bool r) ∧ Drawn0 w w' := by
  have HR0 := Aside0.mk hr0
  have HC0 := Aside0.mk hc0
  clear hr0 hc0
  have H : (figureheadlaw01_good.l0 k l0 0) = some r := h
  clear h
  have H' := Aside0.mk H
  clear H
  go_enter Try.func24, Try.ntmps24
  go_wp2
  go_loopg [3] k (fun kq v3 w' => ∃ (x3_1 : Int), v3 = .int .i64 x3_1 ∧ Aside0 (figureheadlaw01_good.l0 kq l0 x3_1 = some r) ∧ Aside0 (kq ≤ k) ∧ Drawn0 w w')
  case atStart => exact ⟨(0), (by first | rfl | (simp; done) | (simp [*]; done) | (simp [*, Fig.bne_nil]; done)), H', ⟨Nat.le_refl _⟩, by repeat (first | exact Drawn0.refl _ | apply Drawn0.step)⟩
  case round =>
    clear H'
    obtain ⟨x3_1, rfl, HA, HK1, ⟨m1, rfl⟩⟩ := hrel
    cases gk with
    | zero => exact absurd HA.out (by simp [figureheadlaw01_good.l0])
    | succ k1 =>
      have H := HA.out
      clear HA
      simp only [figureheadlaw01_good.l0] at H
      by_cases c2 : x3_1 < (l0.length : Int)
      · rw [if_pos c2] at H
        have c2b0 : decide (x3_1 < (l0.length : Int)) = true := decide_eq_true c2
        clear c2
        by_cases c3 : 0 ≤ x3_1
        · rw [if_pos c3] at H
          have c3b0 : decide (0 ≤ x3_1) = true := decide_eq_true c3
          clear c3
          by_cases c4 : ((rd_L1 l0 x3_1).length : Int) > 60
          · rw [if_pos c4] at H
            have c4b0 : decide (60 < ((rd_L1 l0 x3_1).length : Int)) = true := decide_eq_true c4
            have c4b1 : decide (60 < (rd_L1 l0 x3_1).length) = true := decide_eq_true (by omega)
            clear c4
            obtain rfl := Option.some.inj H
            have p378 : 0 ≤ (x3_1 : Int) := of_decide_eq_true (by first | (with_reducible assumption) | assumption)
            have q378 : x3_1 < (l0.length : Int) := of_decide_eq_true (by first | (with_reducible assumption) | assumption)
            obtain ⟨ad378, A378_0, c378_0, e378, hx378_0, hl378_0, hi378_0⟩ := at_L1 HR0.out x3_1 p378 q378
            cases e378
            have HR378_0 := Aside0.mk hi378_0
            have HC378_0 := Aside0.mk hl378_0
            clear hi378_0 hl378_0
            replace p378 := eq_true p378
            replace q378 := eq_true q378
            go_wp2
            go_ret
            exact ⟨by first | rfl | (simp; done) | (simp [*]; done) | (simp [*, Fig.bne_nil]; done), by repeat (first | exact Drawn0.refl _ | apply Drawn0.step)⟩
          · rw [if_neg c4] at H
            have c4b0 : decide (60 < ((rd_L1 l0 x3_1).length : Int)) = false := decide_eq_false c4
            have c4b1 : decide (60 < (rd_L1 l0 x3_1).length) = false := decide_eq_false (by omega)
            clear c4
            replace H := Option.bind_eq_some_iff.mp H
            obtain ⟨t380, A50, H⟩ := H
            replace H : (if t380 = true then (figureheadlaw01_good.l0 k1 l0 (wrap64 (x3_1 + 1))) else (some false)) = some r := H
            have A5 := Aside0.mk A50
            clear A50
            by_cases c6 : t380 = true
            · subst c6
              have H1 : (figureheadlaw01_good.l0 k1 l0 (wrap64 (x3_1 + 1))) = some r := by rw [if_pos rfl] at H; exact H
              clear H
              have H := H1
              clear H1
              have H' := Aside0.mk H
              clear H
              have p378 : 0 ≤ (x3_1 : Int) := of_decide_eq_true (by first | (with_reducible assumption) | assumption)
              have q378 : x3_1 < (l0.length : Int) := of_decide_eq_true (by first | (with_reducible assumption) | assumption)
              obtain ⟨ad378, A378_0, c378_0, e378, hx378_0, hl378_0, hi378_0⟩ := at_L1 HR0.out x3_1 p378 q378
              cases e378
              have HR378_0 := Aside0.mk hi378_0
              have HC378_0 := Aside0.mk hl378_0
              clear hi378_0 hl378_0
              replace p378 := eq_true p378
              replace q378 := eq_true q378
              have p379 : 0 ≤ (x3_1 : Int) := of_decide_eq_true (by first | (with_reducible assumption) | assumption)
              have q379 : x3_1 < (l0.length : Int) := of_decide_eq_true (by first | (with_reducible assumption) | assumption)
              obtain ⟨ad379, A379_0, c379_0, e379, hx379_0, hl379_0, hi379_0⟩ := at_L1 HR0.out x3_1 p379 q379
              obtain rfl : ad378 = ad379 := (by injection e379)
              have HR379_0 := Aside0.mk hi379_0
              have HC379_0 := Aside0.mk hl379_0
              clear hi379_0 hl379_0
              replace p379 := eq_true p379
              replace q379 := eq_true q379
              have ea_ := Option.some.inj (hx378_0.symm.trans hx379_0)
              injection ea_ with ea_ en_ ec_
              subst ea_
              subst ec_
              clear en_
              go_wp2_with (first | ((with_reducible refine gate_dst (N := 21) rfl ?_); (refine gate_guard (by rfl) ?_; dsimp only); (with_reducible refine gate_callee (f := 32) rfl ?_); refine goesL_ (some 21) rfl rfl Try.func32 (by kernel_rfl) rfl #[.slice A378_0 (rd_L1 l0 x3_1).length c378_0] rfl (by (try simp only [List.map_toArray, List.map_cons, List.map_nil]); first | done | rfl | (simp only [List.length_drop, List.length_take]; rfl)) ?_; (with_reducible refine (figureheadref01_Good.calls k1 _ _ (rd_L1 l0 x3_1) true _ ?side1 ?side2 A5.out).mono ?_); (case side1 => repeat (first | exact HR379_0.out | (with_reducible refine Kd.C_alloc ?_ _) | (with_reducible refine Kd.C_drewN ?_ _) | (with_reducible refine Kd.C_drew ?_))); (case side2 => exact HC379_0.out); rintro e w' ⟨rfl, ⟨nd, rfl⟩⟩; refine ⟨_, rfl, ?_⟩))
              go_roundg k1
              case measure => have := HK1.out; omega
              case rel => exact ⟨(wrap64 (x3_1 + 1)), (by first | rfl | (simp; done) | (simp [*]; done) | (simp [*, Fig.bne_nil]; done)), H', ⟨by have := HK1.out; omega⟩, by repeat (first | exact Drawn0.refl _ | apply Drawn0.step)⟩
            · replace c6 := Bool.eq_false_iff.mpr c6
              subst c6
              have H1 : (some false) = some r := by rw [if_neg (show ¬ (false = true) by decide)] at H; exact H
              clear H
              have H := H1
              clear H1
              obtain rfl := Option.some.inj H
              have p378 : 0 ≤ (x3_1 : Int) := of_decide_eq_true (by first | (with_reducible assumption) | assumption)
              have q378 : x3_1 < (l0.length : Int) := of_decide_eq_true (by first | (with_reducible assumption) | assumption)
              obtain ⟨ad378, A378_0, c378_0, e378, hx378_0, hl378_0, hi378_0⟩ := at_L1 HR0.out x3_1 p378 q378
              cases e378
              have HR378_0 := Aside0.mk hi378_0
              have HC378_0 := Aside0.mk hl378_0
              clear hi378_0 hl378_0
              replace p378 := eq_true p378
              replace q378 := eq_true q378
              have p379 : 0 ≤ (x3_1 : Int) := of_decide_eq_true (by first | (with_reducible assumption) | assumption)
              have q379 : x3_1 < (l0.length : Int) := of_decide_eq_true (by first | (with_reducible assumption) | assumption)
              obtain ⟨ad379, A379_0, c379_0, e379, hx379_0, hl379_0, hi379_0⟩ := at_L1 HR0.out x3_1 p379 q379
              obtain rfl : ad378 = ad379 := (by injection e379)
              have HR379_0 := Aside0.mk hi379_0
              have HC379_0 := Aside0.mk hl379_0
              clear hi379_0 hl379_0
              replace p379 := eq_true p379
              replace q379 := eq_true q379
              have ea_ := Option.some.inj (hx378_0.symm.trans hx379_0)
              injection ea_ with ea_ en_ ec_
              subst ea_
              subst ec_
              clear en_
              go_wp2_with (first | ((with_reducible refine gate_dst (N := 21) rfl ?_); (refine gate_guard (by rfl) ?_; dsimp only); (with_reducible refine gate_callee (f := 32) rfl ?_); refine goesL_ (some 21) rfl rfl Try.func32 (by kernel_rfl) rfl #[.slice A378_0 (rd_L1 l0 x3_1).length c378_0] rfl (by (try simp only [List.map_toArray, List.map_cons, List.map_nil]); first | done | rfl | (simp only [List.length_drop, List.length_take]; rfl)) ?_; (with_reducible refine (figureheadref01_Good.calls k1 _ _ (rd_L1 l0 x3_1) false _ ?side1 ?side2 A5.out).mono ?_); (case side1 => repeat (first | exact HR379_0.out | (with_reducible refine Kd.C_alloc ?_ _) | (with_reducible refine Kd.C_drewN ?_ _) | (with_reducible refine Kd.C_drew ?_))); (case side2 => exact HC379_0.out); rintro e w' ⟨rfl, ⟨nd, rfl⟩⟩; refine ⟨_, rfl, ?_⟩))
              go_ret
              exact ⟨by first | rfl | (simp; done) | (simp [*]; done) | (simp [*, Fig.bne_nil]; done), by repeat (first | exact Drawn0.refl _ | apply Drawn0.step)⟩
        · rw [if_neg c3] at H
          exact absurd H (by simp)
      · rw [if_neg c2] at H
        have c2b0 : decide (x3_1 < (l0.length : Int)) = false := decide_eq_false c2
        clear c2
        obtain rfl := Option.some.inj H
        go_wp2
        go_ret
        exact ⟨by first | rfl | (simp; done) | (simp [*]; done) | (simp [*, Fig.bne_nil]; done), by repeat (first | exact Drawn0.refl _ | apply Drawn0.step)⟩

end Go.Proofs.Ytkhmdpplpecgcaa.Px

namespace Go.Proofs.Ytkhmdpplpecgcaa.Px
open Fig Go.RowKit Go.Proofs.YtkhmdpplpecgcaaW.PrintWords Go.Proofs.YtkhmdpplpecgcaaW.PrintLast Go.Proofs.YtkhmdpplpecgcaaW.PrintMore
attribute [local go_sem] max2_int min2_int max_two min_two max_three min_three max_four min_four   -- for this text's walks alone

/-! ### cmp_isNaN_int: function 43 -/
def cmp_isNaN_int.f (a0 : Int) : Option (Bool) := some (a0 != a0)
set_option maxHeartbeats 8000000 in
set_option maxRecDepth 100000 in
theorem cmp_isNaN_int.calls (a0 : Int) (r : Bool) (w : World) (h : cmp_isNaN_int.f a0 = some r) :
    Calls Try.prog 43 #[.int .i64 a0] w fun e w' => e = .returned (.bool r) ∧ Drawn0 w w' := by
  have H : (some (a0 != a0)) = some r := h
  clear h
  obtain rfl := Option.some.inj H
  go_enter Try.func43, Try.ntmps43
  go_wp2
  go_ret
  exact ⟨by first | rfl | (simp; done) | (simp [*]; done) | (simp [*, Fig.bne_nil]; done), by repeat (first | exact Drawn0.refl _ | apply Drawn0.step)⟩

end Go.Proofs.Ytkhmdpplpecgcaa.Px

namespace Go.Proofs.Ytkhmdpplpecgcaa.Px
open Fig Go.RowKit Go.Proofs.YtkhmdpplpecgcaaW.PrintWords Go.Proofs.YtkhmdpplpecgcaaW.PrintLast Go.Proofs.YtkhmdpplpecgcaaW.PrintMore
attribute [local go_sem] max2_int min2_int max_two min_two max_three min_three max_four min_four   -- for this text's walks alone

/-! ### cmp_Compare_int: function 39 -/
def cmp_Compare_int.f (a0 : Int) (a1 : Int) : Option (Int) := (cmp_isNaN_int.f a0).bind fun t381 => ((cmp_isNaN_int.f a1).bind fun t382 => (if t381 = true then (if t382 = true then (some 0) else (some (-1))) else (if t382 = true then (some 1) else (if a0 < a1 then (some (-1)) else (if a0 > a1 then (some 1) else (some 0))))))
set_option maxHeartbeats 8000000 in
set_option maxRecDepth 100000 in
theorem cmp_Compare_int.calls (a0 : Int) (a1 : Int) (r : Int) (w : World) (h : cmp_Compare_int.f a0 a1 = some r) :
    Calls Try.prog 39 #[.int .i64 a0, .int .i64 a1] w fun e w' => e = .returned (.int .i64 r) ∧ Drawn0 w w' := by
  have H : ((cmp_isNaN_int.f a0).bind fun t381 => ((cmp_isNaN_int.f a1).bind fun t382 => (if t381 = true then (if t382 = true then (some 0) else (some (-1))) else (if t382 = true then (some 1) else (if a0 < a1 then (some (-1)) else (if a0 > a1 then (some 1) else (some 0))))))) = some r := h
  clear h
  replace H := Option.bind_eq_some_iff.mp H
  obtain ⟨t381, A30, H⟩ := H
  replace H : ((cmp_isNaN_int.f a1).bind fun t382 => (if t381 = true then (if t382 = true then (some 0) else (some (-1))) else (if t382 = true then (some 1) else (if a0 < a1 then (some (-1)) else (if a0 > a1 then (some 1) else (some 0)))))) = some r := H
  have A3 := Aside0.mk A30
  clear A30
  replace H := Option.bind_eq_some_iff.mp H
  obtain ⟨t382, A40, H⟩ := H
  replace H : (if t381 = true then (if t382 = true then (some 0) else (some (-1))) else (if t382 = true then (some 1) else (if a0 < a1 then (some (-1)) else (if a0 > a1 then (some 1) else (some 0))))) = some r := H
  have A4 := Aside0.mk A40
  clear A40
  by_cases c5 : t381 = true
  · subst c5
    have H1 : (if t382 = true then (some 0) else (some (-1))) = some r := by rw [if_pos rfl] at H; exact H
    clear H
    have H := H1
    clear H1
    by_cases c6 : t382 = true
    · subst c6
      have H1 : (some 0) = some r := by rw [if_pos rfl] at H; exact H
      clear H
      have H := H1
      clear H1
      obtain rfl := Option.some.inj H
      go_enter Try.func39, Try.ntmps39
      go_wp2_with (first | ((with_reducible refine gate_callee (f := 43) rfl ?_); refine goesL_ (some 8) rfl rfl Try.func43 (by kernel_rfl) rfl #[.int .i64 a0] rfl (by (try simp only [List.map_toArray, List.map_cons, List.map_nil]); first | done | rfl | (simp only [List.length_drop, List.length_take]; rfl)) ?_; (with_reducible refine (cmp_isNaN_int.calls a0 true _ A3.out).mono ?_); rintro e w' ⟨rfl, ⟨nd, rfl⟩⟩; refine ⟨_, rfl, ?_⟩) | ((with_reducible refine gate_callee (f := 43) rfl ?_); refine goesL_ (some 10) rfl rfl Try.func43 (by kernel_rfl) rfl #[.int .i64 a1] rfl (by (try simp only [List.map_toArray, List.map_cons, List.map_nil]); first | done | rfl | (simp only [List.length_drop, List.length_take]; rfl)) ?_; (with_reducible refine (cmp_isNaN_int.calls a1 true _ A4.out).mono ?_); rintro e w' ⟨rfl, ⟨nd, rfl⟩⟩; refine ⟨_, rfl, ?_⟩))
      go_ret
      exact ⟨by first | rfl | (simp; done) | (simp [*]; done) | (simp [*, Fig.bne_nil]; done), by repeat (first | exact Drawn0.refl _ | apply Drawn0.step)⟩
    · replace c6 := Bool.eq_false_iff.mpr c6
      subst c6
      have H1 : (some (-1)) = some r := by rw [if_neg (show ¬ (false = true) by decide)] at H; exact H
      clear H
      have H := H1
      clear H1
      obtain rfl := Option.some.inj H
      go_enter Try.func39, Try.ntmps39
      go_wp2_with (first | ((with_reducible refine gate_callee (f := 43) rfl ?_); refine goesL_ (some 8) rfl rfl Try.func43 (by kernel_rfl) rfl #[.int .i64 a0] rfl (by (try simp only [List.map_toArray, List.map_cons, List.map_nil]); first | done | rfl | (simp only [List.length_drop, List.length_take]; rfl)) ?_; (with_reducible refine (cmp_isNaN_int.calls a0 true _ A3.out).mono ?_); rintro e w' ⟨rfl, ⟨nd, rfl⟩⟩; refine ⟨_, rfl, ?_⟩) | ((with_reducible refine gate_callee (f := 43) rfl ?_); refine goesL_ (some 10) rfl rfl Try.func43 (by kernel_rfl) rfl #[.int .i64 a1] rfl (by (try simp only [List.map_toArray, List.map_cons, List.map_nil]); first | done | rfl | (simp only [List.length_drop, List.length_take]; rfl)) ?_; (with_reducible refine (cmp_isNaN_int.calls a1 false _ A4.out).mono ?_); rintro e w' ⟨rfl, ⟨nd, rfl⟩⟩; refine ⟨_, rfl, ?_⟩))
      go_ret
      exact ⟨by first | rfl | (simp; done) | (simp [*]; done) | (simp [*, Fig.bne_nil]; done), by repeat (first | exact Drawn0.refl _ | apply Drawn0.step)⟩
  · replace c5 := Bool.eq_false_iff.mpr c5
    subst c5
    have H1 : (if t382 = true then (some 1) else (if a0 < a1 then (some (-1)) else (if a0 > a1 then (some 1) else (some 0)))) = some r := by rw [if_neg (show ¬ (false = true) by decide)] at H; exact H
    clear H
    have H := H1
    clear H1
    by_cases c7 : t382 = true
    · subst c7
      have H1 : (some 1) = some r := by rw [if_pos rfl] at H; exact H
      clear H
      have H := H1
      clear H1
      obtain rfl := Option.some.inj H
      go_enter Try.func39, Try.ntmps39
      go_wp2_with (first | ((with_reducible refine gate_callee (f := 43) rfl ?_); refine goesL_ (some 8) rfl rfl Try.func43 (by kernel_rfl) rfl #[.int .i64 a0] rfl (by (try simp only [List.map_toArray, List.map_cons, List.map_nil]); first | done | rfl | (simp only [List.length_drop, List.length_take]; rfl)) ?_; (with_reducible refine (cmp_isNaN_int.calls a0 false _ A3.out).mono ?_); rintro e w' ⟨rfl, ⟨nd, rfl⟩⟩; refine ⟨_, rfl, ?_⟩) | ((with_reducible refine gate_callee (f := 43) rfl ?_); refine goesL_ (some 10) rfl rfl Try.func43 (by kernel_rfl) rfl #[.int .i64 a1] rfl (by (try simp only [List.map_toArray, List.map_cons, List.map_nil]); first | done | rfl | (simp only [List.length_drop, List.length_take]; rfl)) ?_; (with_reducible refine (cmp_isNaN_int.calls a1 true _ A4.out).mono ?_); rintro e w' ⟨rfl, ⟨nd, rfl⟩⟩; refine ⟨_, rfl, ?_⟩))
      go_ret
      exact ⟨by first | rfl | (simp; done) | (simp [*]; done) | (simp [*, Fig.bne_nil]; done), by repeat (first | exact Drawn0.refl _ | apply Drawn0.step)⟩
    · replace c7 := Bool.eq_false_iff.mpr c7
      subst c7
      have H1 : (if a0 < a1 then (some (-1)) else (if a0 > a1 then (some 1) else (some 0))) = some r := by rw [if_neg (show ¬ (false = true) by decide)] at H; exact H
      clear H
      have H := H1
      clear H1
      by_cases c8 : a0 < a1
      · rw [if_pos c8] at H
        have c8b0 : decide (a0 < a1) = true := decide_eq_true c8
        clear c8
        obtain rfl := Option.some.inj H
        go_enter Try.func39, Try.ntmps39
        go_wp2_with (first | ((with_reducible refine gate_callee (f := 43) rfl ?_); refine goesL_ (some 8) rfl rfl Try.func43 (by kernel_rfl) rfl #[.int .i64 a0] rfl (by (try simp only [List.map_toArray, List.map_cons, List.map_nil]); first | done | rfl | (simp only [List.length_drop, List.length_take]; rfl)) ?_; (with_reducible refine (cmp_isNaN_int.calls a0 false _ A3.out).mono ?_); rintro e w' ⟨rfl, ⟨nd, rfl⟩⟩; refine ⟨_, rfl, ?_⟩) | ((with_reducible refine gate_callee (f := 43) rfl ?_); refine goesL_ (some 10) rfl rfl Try.func43 (by kernel_rfl) rfl #[.int .i64 a1] rfl (by (try simp only [List.map_toArray, List.map_cons, List.map_nil]); first | done | rfl | (simp only [List.length_drop, List.length_take]; rfl)) ?_; (with_reducible refine (cmp_isNaN_int.calls a1 false _ A4.out).mono ?_); rintro e w' ⟨rfl, ⟨nd, rfl⟩⟩; refine ⟨_, rfl, ?_⟩))
        go_ret
        exact ⟨by first | rfl | (simp; done) | (simp [*]; done) | (simp [*, Fig.bne_nil]; done), by repeat (first | exact Drawn0.refl _ | apply Drawn0.step)⟩
      · rw [if_neg c8] at H
        have c8b0 : decide (a0 < a1) = false := decide_eq_false c8
        clear c8
        by_cases c9 : a0 > a1
        · rw [if_pos c9] at H
          have c9b0 : decide (a1 < a0) = true := decide_eq_true c9
          clear c9
          obtain rfl := Option.some.inj H
          go_enter Try.func39, Try.ntmps39
          go_wp2_with (first | ((with_reducible refine gate_callee (f := 43) rfl ?_); refine goesL_ (some 8) rfl rfl Try.func43 (by kernel_rfl) rfl #[.int .i64 a0] rfl (by (try simp only [List.map_toArray, List.map_cons, List.map_nil]); first | done | rfl | (simp only [List.length_drop, List.length_take]; rfl)) ?_; (with_reducible refine (cmp_isNaN_int.calls a0 false _ A3.out).mono ?_); rintro e w' ⟨rfl, ⟨nd, rfl⟩⟩; refine ⟨_, rfl, ?_⟩) | ((with_reducible refine gate_callee (f := 43) rfl ?_); refine goesL_ (some 10) rfl rfl Try.func43 (by kernel_rfl) rfl #[.int .i64 a1] rfl (by (try simp only [List.map_toArray, List.map_cons, List.map_nil]); first | done | rfl | (simp only [List.length_drop, List.length_take]; rfl)) ?_; (with_reducible refine (cmp_isNaN_int.calls a1 false _ A4.out).mono ?_); rintro e w' ⟨rfl, ⟨nd, rfl⟩⟩; refine ⟨_, rfl, ?_⟩))
          go_ret
          exact ⟨by first | rfl | (simp; done) | (simp [*]; done) | (simp [*, Fig.bne_nil]; done), by repeat (first | exact Drawn0.refl _ | apply Drawn0.step)⟩
        · rw [if_neg c9] at H
          have c9b0 : decide (a1 < a0) = false := decide_eq_false c9
          clear c9
          obtain rfl := Option.some.inj H
          go_enter Try.func39, Try.ntmps39
          go_wp2_with (first | ((with_reducible refine gate_callee (f := 43) rfl ?_); refine goesL_ (some 8) rfl rfl Try.func43 (by kernel_rfl) rfl #[.int .i64 a0] rfl (by (try simp only [List.map_toArray, List.map_cons, List.map_nil]); first | done | rfl | (simp only [List.length_drop, List.length_take]; rfl)) ?_; (with_reducible refine (cmp_isNaN_int.calls a0 false _ A3.out).mono ?_); rintro e w' ⟨rfl, ⟨nd, rfl⟩⟩; refine ⟨_, rfl, ?_⟩) | ((with_reducible refine gate_callee (f := 43) rfl ?_); refine goesL_ (some 10) rfl rfl Try.func43 (by kernel_rfl) rfl #[.int .i64 a1] rfl (by (try simp only [List.map_toArray, List.map_cons, List.map_nil]); first | done | rfl | (simp only [List.length_drop, List.length_take]; rfl)) ?_; (with_reducible refine (cmp_isNaN_int.calls a1 false _ A4.out).mono ?_); rintro e w' ⟨rfl, ⟨nd, rfl⟩⟩; refine ⟨_, rfl, ?_⟩))
          go_ret
          exact ⟨by first | rfl | (simp; done) | (simp [*]; done) | (simp [*, Fig.bne_nil]; done), by repeat (first | exact Drawn0.refl _ | apply Drawn0.step)⟩

end Go.Proofs.Ytkhmdpplpecgcaa.Px

namespace Go.Proofs.Ytkhmdpplpecgcaa.Px
open Fig Go.RowKit Go.Proofs.YtkhmdpplpecgcaaW.PrintWords Go.Proofs.YtkhmdpplpecgcaaW.PrintLast Go.Proofs.YtkhmdpplpecgcaaW.PrintMore
attribute [local go_sem] max2_int min2_int max_two min_two max_three min_three max_four min_four   -- for this text's walks alone

/-! ### cmp_isNaN_uint32: function 44 -/
def cmp_isNaN_uint32.f (a0 : Int) : Option (Bool) := some (a0 != a0)
set_option maxHeartbeats 8000000 in
set_option maxRecDepth 100000 in
theorem cmp_isNaN_uint32.calls (a0 : Int) (r : Bool) (w : World) (h : cmp_isNaN_uint32.f a0 = some r) :
    Calls Try.prog 44 #[.int .u32 a0] w fun e w' => e = .returned (.bool r) ∧ Drawn0 w w' := by
  have H : (some (a0 != a0)) = some r := h
  clear h
  obtain rfl := Option.some.inj H
  go_enter Try.func44, Try.ntmps44
  go_wp2
  go_ret
  exact ⟨by first | rfl | (simp; done) | (simp [*]; done) | (simp [*, Fig.bne_nil]; done), by repeat (first | exact Drawn0.refl _ | apply Drawn0.step)⟩

end Go.Proofs.Ytkhmdpplpecgcaa.Px

namespace Go.Proofs.Ytkhmdpplpecgcaa.Px
open Fig Go.RowKit Go.Proofs.YtkhmdpplpecgcaaW.PrintWords Go.Proofs.YtkhmdpplpecgcaaW.PrintLast Go.Proofs.YtkhmdpplpecgcaaW.PrintMore
attribute [local go_sem] max2_int min2_int max_two min_two max_three min_three max_four min_four   -- for this text's walks alone

/-! ### cmp_Compare_uint32: function 40 -/
def cmp_Compare_uint32.f (a0 : Int) (a1 : Int) : Option (Int) := (cmp_isNaN_uint32.f a0).bind fun t383 => ((cmp_isNaN_uint32.f a1).bind fun t384 => (if t383 = true then (if t384 = true then (some 0) else (some (-1))) else (if t384 = true then (some 1) else (if a0 < a1 then (some (-1)) else (if a0 > a1 then (some 1) else (some 0))))))
set_option maxHeartbeats 8000000 in
set_option maxRecDepth 100000 in
theorem cmp_Compare_uint32.calls (a0 : Int) (a1 : Int) (r : Int) (w : World) (h : cmp_Compare_uint32.f a0 a1 = some r) :
    Calls Try.prog 40 #[.int .u32 a0, .int .u32 a1] w fun e w' => e = .returned (.int .i64 r) ∧ Drawn0 w w' := by
  have H : ((cmp_isNaN_uint32.f a0).bind fun t383 => ((cmp_isNaN_uint32.f a1).bind fun t384 => (if t383 = true then (if t384 = true then (some 0) else (some (-1))) else (if t384 = true then (some 1) else (if a0 < a1 then (some (-1)) else (if a0 > a1 then (some 1) else (some 0))))))) = some r := h
  clear h
  replace H := Option.bind_eq_some_iff.mp H
  obtain ⟨t383, A30, H⟩ := H
  replace H : ((cmp_isNaN_uint32.f a1).bind fun t384 => (if t383 = true then (if t384 = true then (some 0) else (some (-1))) else (if t384 = true then (some 1) else (if a0 < a1 then (some (-1)) else (if a0 > a1 then (some 1) else (some 0)))))) = some r := H
  have A3 := Aside0.mk A30
  clear A30
  replace H := Option.bind_eq_some_iff.mp H
  obtain ⟨t384, A40, H⟩ := H
  replace H : (if t383 = true then (if t384 = true then (some 0) else (some (-1))) else (if t384 = true then (some 1) else (if a0 < a1 then (some (-1)) else (if a0 > a1 then (some 1) else (some 0))))) = some r := H
  have A4 := Aside0.mk A40
  clear A40
  by_cases c5 : t383 = true
  · subst c5
    have H1 : (if t384 = true then (some 0) else (some (-1))) = some r := by rw [if_pos rfl] at H; exact H
    clear H
    have H := H1
    clear H1
    by_cases c6 : t384 = true
    · subst c6
      have H1 : (some 0) = some r := by rw [if_pos rfl] at H; exact H
      clear H
      have H := H1
      clear H1
      obtain rfl := Option.some.inj H
      go_enter Try.func40, Try.ntmps40
      go_wp2_with (first | ((with_reducible refine gate_callee (f := 44) rfl ?_); refine goesL_ (some 8) rfl rfl Try.func44 (by kernel_rfl) rfl #[.int .u32 a0] rfl (by (try simp only [List.map_toArray, List.map_cons, List.map_nil]); first | done | rfl | (simp only [List.length_drop, List.length_take]; rfl)) ?_; (with_reducible refine (cmp_isNaN_uint32.calls a0 true _ A3.out).mono ?_); rintro e w' ⟨rfl, ⟨nd, rfl⟩⟩; refine ⟨_, rfl, ?_⟩) | ((with_reducible refine gate_callee (f := 44) rfl ?_); refine goesL_ (some 10) rfl rfl Try.func44 (by kernel_rfl) rfl #[.int .u32 a1] rfl (by (try simp only [List.map_toArray, List.map_cons, List.map_nil]); first | done | rfl | (simp only [List.length_drop, List.length_take]; rfl)) ?_; (with_reducible refine (cmp_isNaN_uint32.calls a1 true _ A4.out).mono ?_); rintro e w' ⟨rfl, ⟨nd, rfl⟩⟩; refine ⟨_, rfl, ?_⟩))
      go_ret
      exact ⟨by first | rfl | (simp; done) | (simp [*]; done) | (simp [*, Fig.bne_nil]; done), by repeat (first | exact Drawn0.refl _ | apply Drawn0.step)⟩
    · replace c6 := Bool.eq_false_iff.mpr c6
      subst c6
      have H1 : (some (-1)) = some r := by rw [if_neg (show ¬ (false = true) by decide)] at H; exact H
      clear H
      have H := H1
      clear H1
      obtain rfl := Option.some.inj H
      go_enter Try.func40, Try.ntmps40
      go_wp2_with (first | ((with_reducible refine gate_callee (f := 44) rfl ?_); refine goesL_ (some 8) rfl rfl Try.func44 (by kernel_rfl) rfl #[.int .u32 a0] rfl (by (try simp only [List.map_toArray, List.map_cons, List.map_nil]); first | done | rfl | (simp only [List.length_drop, List.length_take]; rfl)) ?_; (with_reducible refine (cmp_isNaN_uint32.calls a0 true _ A3.out).mono ?_); rintro e w' ⟨rfl, ⟨nd, rfl⟩⟩; refine ⟨_, rfl, ?_⟩) | ((with_reducible refine gate_callee (f := 44) rfl ?_); refine goesL_ (some 10) rfl rfl Try.func44 (by kernel_rfl) rfl #[.int .u32 a1] rfl (by (try simp only [List.map_toArray, List.map_cons, List.map_nil]); first | done | rfl | (simp only [List.length_drop, List.length_take]; rfl)) ?_; (with_reducible refine (cmp_isNaN_uint32.calls a1 false _ A4.out).mono ?_); rintro e w' ⟨rfl, ⟨nd, rfl⟩⟩; refine ⟨_, rfl, ?_⟩))
      go_ret
      exact ⟨by first | rfl | (simp; done) | (simp [*]; done) | (simp [*, Fig.bne_nil]; done), by repeat (first | exact Drawn0.refl _ | apply Drawn0.step)⟩
  · replace c5 := Bool.eq_false_iff.mpr c5
    subst c5
    have H1 : (if t384 = true then (some 1) else (if a0 < a1 then (some (-1)) else (if a0 > a1 then (some 1) else (some 0)))) = some r := by rw [if_neg (show ¬ (false = true) by decide)] at H; exact H
    clear H
    have H := H1
    clear H1
    by_cases c7 : t384 = true
    · subst c7
      have H1 : (some 1) = some r := by rw [if_pos rfl] at H; exact H
      clear H
      have H := H1
      clear H1
      obtain rfl := Option.some.inj H
      go_enter Try.func40, Try.ntmps40
      go_wp2_with (first | ((with_reducible refine gate_callee (f := 44) rfl ?_); refine goesL_ (some 8) rfl rfl Try.func44 (by kernel_rfl) rfl #[.int .u32 a0] rfl (by (try simp only [List.map_toArray, List.map_cons, List.map_nil]); first | done | rfl | (simp only [List.length_drop, List.length_take]; rfl)) ?_; (with_reducible refine (cmp_isNaN_uint32.calls a0 false _ A3.out).mono ?_); rintro e w' ⟨rfl, ⟨nd, rfl⟩⟩; refine ⟨_, rfl, ?_⟩) | ((with_reducible refine gate_callee (f := 44) rfl ?_); refine goesL_ (some 10) rfl rfl Try.func44 (by kernel_rfl) rfl #[.int .u32 a1] rfl (by (try simp only [List.map_toArray, List.map_cons, List.map_nil]); first | done | rfl | (simp only [List.length_drop, List.length_take]; rfl)) ?_; (with_reducible refine (cmp_isNaN_uint32.calls a1 true _ A4.out).mono ?_); rintro e w' ⟨rfl, ⟨nd, rfl⟩⟩; refine ⟨_, rfl, ?_⟩))
      go_ret
      exact ⟨by first | rfl | (simp; done) | (simp [*]; done) | (simp [*, Fig.bne_nil]; done), by repeat (first | exact Drawn0.refl _ | apply Drawn0.step)⟩
    · replace c7 := Bool.eq_false_iff.mpr c7
      subst c7
      have H1 : (if a0 < a1 then (some (-1)) else (if a0 > a1 then (some 1) else (some 0))) = some r := by rw [if_neg (show ¬ (false = true) by decide)] at H; exact H
      clear H
      have H := H1
      clear H1
      by_cases c8 : a0 < a1
      · rw [if_pos c8] at H
        have c8b0 : decide (a0 < a1) = true := decide_eq_true c8
        clear c8
        obtain rfl := Option.some.inj H
        go_enter Try.func40, Try.ntmps40
        go_wp2_with (first | ((with_reducible refine gate_callee (f := 44) rfl ?_); refine goesL_ (some 8) rfl rfl Try.func44 (by kernel_rfl) rfl #[.int .u32 a0] rfl (by (try simp only [List.map_toArray, List.map_cons, List.map_nil]); first | done | rfl | (simp only [List.length_drop, List.length_take]; rfl)) ?_; (with_reducible refine (cmp_isNaN_uint32.calls a0 false _ A3.out).mono ?_); rintro e w' ⟨rfl, ⟨nd, rfl⟩⟩; refine ⟨_, rfl, ?_⟩) | ((with_reducible refine gate_callee (f := 44) rfl ?_); refine goesL_ (some 10) rfl rfl Try.func44 (by kernel_rfl) rfl #[.int .u32 a1] rfl (by (try simp only [List.map_toArray, List.map_cons, List.map_nil]); first | done | rfl | (simp only [List.length_drop, List.length_take]; rfl)) ?_; (with_reducible refine (cmp_isNaN_uint32.calls a1 false _ A4.out).mono ?_); rintro e w' ⟨rfl, ⟨nd, rfl⟩⟩; refine ⟨_, rfl, ?_⟩))
        go_ret
        exact ⟨by first | rfl | (simp; done) | (simp [*]; done) | (simp [*, Fig.bne_nil]; done), by repeat (first | exact Drawn0.refl _ | apply Drawn0.step)⟩
      · rw [if_neg c8] at H
        have c8b0 : decide (a0 < a1) = false := decide_eq_false c8
        clear c8
        by_cases c9 : a0 > a1
        · rw [if_pos c9] at H
          have c9b0 : decide (a1 < a0) = true := decide_eq_true c9
          clear c9
          obtain rfl := Option.some.inj H
          go_enter Try.func40, Try.ntmps40
          go_wp2_with (first | ((with_reducible refine gate_callee (f := 44) rfl ?_); refine goesL_ (some 8) rfl rfl Try.func44 (by kernel_rfl) rfl #[.int .u32 a0] rfl (by (try simp only [List.map_toArray, List.map_cons, List.map_nil]); first | done | rfl | (simp only [List.length_drop, List.length_take]; rfl)) ?_; (with_reducible refine (cmp_isNaN_uint32.calls a0 false _ A3.out).mono ?_); rintro e w' ⟨rfl, ⟨nd, rfl⟩⟩; refine ⟨_, rfl, ?_⟩) | ((with_reducible refine gate_callee (f := 44) rfl ?_); refine goesL_ (some 10) rfl rfl Try.func44 (by kernel_rfl) rfl #[.int .u32 a1] rfl (by (try simp only [List.map_toArray, List.map_cons, List.map_nil]); first | done | rfl | (simp only [List.length_drop, List.length_take]; rfl)) ?_; (with_reducible refine (cmp_isNaN_uint32.calls a1 false _ A4.out).mono ?_); rintro e w' ⟨rfl, ⟨nd, rfl⟩⟩; refine ⟨_, rfl, ?_⟩))
          go_ret
          exact ⟨by first | rfl | (simp; done) | (simp [*]; done) | (simp [*, Fig.bne_nil]; done), by repeat (first | exact Drawn0.refl _ | apply Drawn0.step)⟩
        · rw [if_neg c9] at H
          have c9b0 : decide (a1 < a0) = false := decide_eq_false c9
          clear c9
          obtain rfl := Option.some.inj H
          go_enter Try.func40, Try.ntmps40
          go_wp2_with (first | ((with_reducible refine gate_callee (f := 44) rfl ?_); refine goesL_ (some 8) rfl rfl Try.func44 (by kernel_rfl) rfl #[.int .u32 a0] rfl (by (try simp only [List.map_toArray, List.map_cons, List.map_nil]); first | done | rfl | (simp only [List.length_drop, List.length_take]; rfl)) ?_; (with_reducible refine (cmp_isNaN_uint32.calls a0 false _ A3.out).mono ?_); rintro e w' ⟨rfl, ⟨nd, rfl⟩⟩; refine ⟨_, rfl, ?_⟩) | ((with_reducible refine gate_callee (f := 44) rfl ?_); refine goesL_ (some 10) rfl rfl Try.func44 (by kernel_rfl) rfl #[.int .u32 a1] rfl (by (try simp only [List.map_toArray, List.map_cons, List.map_nil]); first | done | rfl | (simp only [List.length_drop, List.length_take]; rfl)) ?_; (with_reducible refine (cmp_isNaN_uint32.calls a1 false _ A4.out).mono ?_); rintro e w' ⟨rfl, ⟨nd, rfl⟩⟩; refine ⟨_, rfl, ?_⟩))
          go_ret
          exact ⟨by first | rfl | (simp; done) | (simp [*]; done) | (simp [*, Fig.bne_nil]; done), by repeat (first | exact Drawn0.refl _ | apply Drawn0.step)⟩

end Go.Proofs.Ytkhmdpplpecgcaa.Px

namespace Go.Proofs.Ytkhmdpplpecgcaa.Px
open Fig Go.RowKit Go.Proofs.YtkhmdpplpecgcaaW.PrintWords Go.Proofs.YtkhmdpplpecgcaaW.PrintLast Go.Proofs.YtkhmdpplpecgcaaW.PrintMore
attribute [local go_sem] max2_int min2_int max_two min_two max_three min_three max_four min_four   -- for this text's walks alone

/-! ### nat_Cmp: function 27 -/
theorem ret_num {k : IntKind} {a b : Int} (h : a = b) : Ending.returned (.int k a) = .returned (.int k b) := by rw [h]
theorem cmpi_eq (m n : Nat) : cmp_Compare_int.f (m : Int) (n : Int) = some (cmpN m n) := by
  unfold cmp_Compare_int.f cmp_isNaN_int.f cmpN
  simp only [Option.bind_some, bne_self_eq_false]
  repeat' split
  all_goals first | rfl | omega | simp_all
theorem cmpu_eq (m n : Nat) : cmp_Compare_uint32.f (m : Int) (n : Int) = some (cmpN m n) := by
  unfold cmp_Compare_uint32.f cmp_isNaN_uint32.f cmpN
  simp only [Option.bind_some, bne_self_eq_false]
  repeat' split
  all_goals first | rfl | omega | simp_all
def nat_Cmp.f (l0 : List Int) (l1 : List Int) : Option Int := cmpF l0 l1
set_option maxHeartbeats 1000000 in
theorem nat_Cmp.calls (A0 : Option Addr) (c0 : Nat) (l0 : List Int) (A1 : Option Addr) (c1 : Nat) (l1 : List Int) (r : Int) (w : World) (hr0 : Kd.C (Kd.int .u32) w A0 l0.length l0) (hc0 : l0.length ≤ c0) (hr1 : Kd.C (Kd.int .u32) w A1 l1.length l1) (hc1 : l1.length ≤ c1) (h : nat_Cmp.f l0 l1 = some r) :
    Calls Try.prog 27 #[.slice A0 l0.length c0, .slice A1 l1.length c1] w fun e w' => e = .returned (.int .i64 r) ∧ Drawn0 w w' := by
  unfold nat_Cmp.f cmpF at h
  by_cases hg : goodL l0 = true ∧ goodL l1 = true ∧ l0.length ≤ 1000000000000 ∧ l1.length ≤ 1000000000000
  · rw [if_pos hg] at h
    obtain rfl := Option.some.inj h
    obtain ⟨g0, g1, z0, z1⟩ := hg
    obtain ⟨k0, hk0⟩ := top_at (l := l0) (by omega)
    obtain ⟨k1, hk1⟩ := top_at (l := l1) (by omega)
    have ht0 := trimL_len l0
    have ht1 := trimL_len l1
    have hv0 := trimL_val l0
    have hv1 := trimL_val l1
    have hq0 := Fig.take_trim l0
    have hq1 := Fig.take_trim l1
    have hcl : (trimL l0).length ≠ (trimL l1).length → cmpN (valL l0) (valL l1) = cmpN (trimL l0).length (trimL l1).length := fun hne => by
      rw [← hv0, ← hv1]; exact cmp_len (trimL_good g0) (trimL_good g1) (trimL_canon l0) (trimL_canon l1) hne
    have hst : cmpN (valL l0) (valL l1) = cmpN (valL (l0.take (trimL l0).length)) (valL (l1.take (trimL l1).length)) := by rw [hq0, hq1, hv0, hv1]
    obtain ⟨n, hn⟩ : ∃ n, n = (trimL l0).length := ⟨_, rfl⟩
    obtain ⟨m, hm⟩ : ∃ m, m = (trimL l1).length := ⟨_, rfl⟩
    rw [← hn] at hk0 ht0 hcl hst
    rw [← hm] at hk1 ht1 hcl hst
    clear hn hm hq0 hq1 hv0 hv1 h
    obtain ⟨i0, hi0, _, hsz, _⟩ := info_parts info30
    obtain ⟨hcutA, _, hcA⟩ := print_take_of (P := Try.prog) (Value.int .u32) 0 22 30 .i64 Try.underlying22 hi0 hsz A0 c0 l0 (n : Int) (by omega) (by omega) hc0
    obtain ⟨hcutB, _, hcB⟩ := print_take_of (P := Try.prog) (Value.int .u32) 0 22 30 .i64 Try.underlying22 hi0 hsz A1 c1 l1 (m : Int) (by omega) (by omega) hc1
    rw [Int.toNat_natCast] at hcutA hcutB
    have Hk0 := Aside0.mk hk0
    have Hk1 := Aside0.mk hk1
    have HR0 := Aside0.mk hr0
    have HR1 := Aside0.mk hr1
    have HC0 := Aside0.mk hc0
    have HC1 := Aside0.mk hc1
    have Hcl := Aside0.mk hcl
    have Hst := Aside0.mk hst
    have G0 := Aside0.mk g0
    have G1 := Aside0.mk g1
    clear hk0 hk1 hr0 hr1 hc0 hc1 hcl hst g0 g1 hi0 hsz hcA hcB
    by_cases hnm : n = m
    · have e1 : ((n : Int) == (m : Int)) = true := by simp [hnm]
      have e2 : ((n : Int) != (m : Int)) = false := by simp [hnm]
      have e3 : (n == m) = true := by simp [hnm]
      have e4 : (n != m) = false := by simp [hnm]
      have Hnm := Aside0.mk hnm
      clear hnm
      go_enter Try.func27, Try.ntmps27
      go_wp2
      go_quiet (first | (go_at_call 38; (with_reducible refine (nat_top.calls k0 _ _ l0 (n : Int) _ ?side1 ?side2 Hk0.out).mono ?_); (case side1 => repeat (first | exact HR0.out | (with_reducible refine Kd.C_drewN ?_ _) | (with_reducible refine Kd.C_drew ?_))); (case side2 => exact HC0.out); rintro e w' ⟨rfl, ⟨nd, rfl⟩⟩; (first | exact ⟨rfl, _, World.drewN_drewN _ _ _⟩ | exact ⟨rfl, _, rfl⟩ | exact ⟨rfl, _, Eq.trans (World.drewN_drewN _ _ _) (congrArg (World.drewN _) (Nat.add_assoc _ _ _))⟩)) | (go_at_call 38; (with_reducible refine (nat_top.calls k1 _ _ l1 (m : Int) _ ?side1 ?side2 Hk1.out).mono ?_); (case side1 => repeat (first | exact HR1.out | (with_reducible refine Kd.C_drewN ?_ _) | (with_reducible refine Kd.C_drew ?_))); (case side2 => exact HC1.out); rintro e w' ⟨rfl, ⟨nd, rfl⟩⟩; (first | exact ⟨rfl, _, World.drewN_drewN _ _ _⟩ | exact ⟨rfl, _, rfl⟩ | exact ⟨rfl, _, Eq.trans (World.drewN_drewN _ _ _) (congrArg (World.drewN _) (Nat.add_assoc _ _ _))⟩)))
      go_wp2
      go_loopg [5] n (fun j v5 w' => ∃ x : Int, v5 = .int .i64 x ∧ Aside0 (x = (j : Int) - 1) ∧ Aside0 (j ≤ n) ∧ Aside0 (cmpN (valL l0) (valL l1) = cmpN (valL (l0.take j)) (valL (l1.take j))) ∧ Drawn0 w w')
      case atStart => exact ⟨(n : Int) - 1, rfl, ⟨rfl⟩, ⟨Nat.le_refl _⟩, ⟨by rw [Hst.out, ← Hnm.out]⟩, by repeat (first | exact Drawn0.refl _ | apply Drawn0.step)⟩
      case round =>
        obtain ⟨x, rfl, HX, HJ, HV, ⟨mm, rfl⟩⟩ := hrel
        cases gk with
        | zero =>
          have hx0 := HX.out
          have dx : decide (0 ≤ x) = false := decide_eq_false (by omega)
          clear hx0
          go_wp2
          go_ret
          exact ⟨ret_num (by rw [HV.out]; simp [valL, cmpN]), by repeat (first | exact Drawn0.refl _ | apply Drawn0.step)⟩
        | succ j =>
          have hx1 : 0 ≤ x := by have := HX.out; omega
          have hx2 : x < (n : Int) := by have := HX.out; have := HJ.out; omega
          have hx3 : x < (m : Int) := by have := Hnm.out; omega
          obtain ⟨ad0, ea0, hc0⟩ := Kd.at_int HR0.out x hx1 (by omega)
          obtain ⟨ad1, ea1, hc1⟩ := Kd.at_int HR1.out x hx1 (by omega)
          cases ea0
          cases ea1
          have dx : decide (0 ≤ x) = true := decide_eq_true hx1
          have xj : x = (j : Int) := by have := HX.out; omega
          have XJ := Aside0.mk xj
          have hj0 : j < l0.length := by omega
          have hj1 : j < l1.length := by omega
          have ht0 : rd l0 x = l0[j]'hj0 := by rw [xj]; exact rd_get hj0
          have ht1 : rd l1 x = l1[j]'hj1 := by rw [xj]; exact rd_get hj1
          have HT0 := Aside0.mk ht0
          have HT1 := Aside0.mk ht1
          have p0 := goodL_iff.1 G0.out _ (List.getElem_mem (l := l0) (n := j) hj0)
          have p1 := goodL_iff.1 G1.out _ (List.getElem_mem (l := l1) (n := j) hj1)
          have HP := Aside0.mk (And.intro p0 p1)
          have s0 := Fig.valL_take_succ (l := l0) (n := j) hj0
          have s1 := Fig.valL_take_succ (l := l1) (n := j) hj1
          have HS := Aside0.mk (And.intro s0 s1)
          clear xj ht0 ht1 p0 p1 s0 s1
          have px := eq_true hx1
          have q0 := eq_true hx2
          have q1 := eq_true hx3
          by_cases he : rd l0 x = rd l1 x
          · have b0 : (rd l0 x == rd l1 x) = true := by simpa using he
            have b1 : (rd l0 x != rd l1 x) = false := by simpa using he
            have HE := Aside0.mk he
            clear he
            go_wp2
            repeat (go_quiet (fail); go_wp2)
            go_roundg j
            case measure => omega
            case rel => exact ⟨x - 1, by first | rfl | simp | (simp [wrap64]; omega), ⟨by have := XJ.out; omega⟩, ⟨by have := HJ.out; omega⟩, ⟨by rw [HV.out, HS.out.1, HS.out.2]; have h1 := HT0.out; have h2 := HT1.out; have h3 := HE.out; rw [h1, h2] at h3; rw [h3]; exact (cmp_low _ _ _).symm⟩, by repeat (first | exact Drawn0.refl _ | apply Drawn0.step)⟩
          · have b0 : (rd l0 x == rd l1 x) = false := by simpa using he
            have b1 : (rd l0 x != rd l1 x) = true := by simpa using he
            have HV2 := Aside0.mk (show cmpN (rd l0 x).toNat (rd l1 x).toNat = cmpN (valL l0) (valL l1) by
              have h1 := HT0.out
              have h2 := HT1.out
              have h3 := HP.out
              rw [HV.out, HS.out.1, HS.out.2, h1, h2]
              rw [h1, h2] at he
              exact cmp_top _ _ _ _ _ (valL_take_lt G0.out j) (valL_take_lt G1.out j) (by omega))
            have HC2 := Aside0.mk (show cmp_Compare_uint32.f (rd l0 x) (rd l1 x) = some (cmpN (valL l0) (valL l1)) by
              have h1 := HT0.out
              have h2 := HT1.out
              have h3 := HP.out
              rw [← HV2.out]
              have := cmpu_eq (rd l0 x).toNat (rd l1 x).toNat
              rwa [Int.toNat_of_nonneg (by rw [h1]; exact h3.1.1), Int.toNat_of_nonneg (by rw [h2]; exact h3.2.1)] at this)
            clear he
            go_wp2
            repeat (go_quiet (first | (go_at_call 40; (with_reducible refine (cmp_Compare_uint32.calls (rd l0 x) (rd l1 x) _ _ HC2.out).mono ?_); rintro e w' ⟨rfl, ⟨nd, rfl⟩⟩; (first | exact ⟨rfl, _, World.drewN_drewN _ _ _⟩ | exact ⟨rfl, _, rfl⟩ | exact ⟨rfl, _, Eq.trans (World.drewN_drewN _ _ _) (congrArg (World.drewN _) (Nat.add_assoc _ _ _))⟩))); go_wp2)
            go_ret
            exact ⟨rfl, by repeat (first | exact Drawn0.refl _ | apply Drawn0.step)⟩
    · have e1 : ((n : Int) == (m : Int)) = false := by simp; omega
      have e2 : ((n : Int) != (m : Int)) = true := by simp; omega
      have e3 : (n == m) = false := by simpa using hnm
      have e4 : (n != m) = true := by simpa using hnm
      have HC2 := Aside0.mk (show cmp_Compare_int.f (n : Int) (m : Int) = some (cmpN (valL l0) (valL l1)) by rw [Hcl.out hnm]; exact cmpi_eq n m)
      clear hnm
      go_enter Try.func27, Try.ntmps27
      go_wp2
      go_quiet (first | (go_at_call 38; (with_reducible refine (nat_top.calls k0 _ _ l0 (n : Int) _ ?side1 ?side2 Hk0.out).mono ?_); (case side1 => repeat (first | exact HR0.out | (with_reducible refine Kd.C_drewN ?_ _) | (with_reducible refine Kd.C_drew ?_))); (case side2 => exact HC0.out); rintro e w' ⟨rfl, ⟨nd, rfl⟩⟩; (first | exact ⟨rfl, _, World.drewN_drewN _ _ _⟩ | exact ⟨rfl, _, rfl⟩ | exact ⟨rfl, _, Eq.trans (World.drewN_drewN _ _ _) (congrArg (World.drewN _) (Nat.add_assoc _ _ _))⟩)) | (go_at_call 38; (with_reducible refine (nat_top.calls k1 _ _ l1 (m : Int) _ ?side1 ?side2 Hk1.out).mono ?_); (case side1 => repeat (first | exact HR1.out | (with_reducible refine Kd.C_drewN ?_ _) | (with_reducible refine Kd.C_drew ?_))); (case side2 => exact HC1.out); rintro e w' ⟨rfl, ⟨nd, rfl⟩⟩; (first | exact ⟨rfl, _, World.drewN_drewN _ _ _⟩ | exact ⟨rfl, _, rfl⟩ | exact ⟨rfl, _, Eq.trans (World.drewN_drewN _ _ _) (congrArg (World.drewN _) (Nat.add_assoc _ _ _))⟩)))
      go_wp2_with (go_at_call 39; (with_reducible refine (cmp_Compare_int.calls (n : Int) (m : Int) _ _ HC2.out).mono ?_); rintro e w' ⟨rfl, ⟨nd, rfl⟩⟩)
      go_ret
      exact ⟨rfl, by repeat (first | exact Drawn0.refl _ | apply Drawn0.step)⟩
  · rw [if_neg hg] at h; cases h

end Go.Proofs.Ytkhmdpplpecgcaa.Px

namespace Go.Proofs.Ytkhmdpplpecgcaa.Px
open Fig Go.RowKit Go.Proofs.YtkhmdpplpecgcaaW.PrintWords Go.Proofs.YtkhmdpplpecgcaaW.PrintLast Go.Proofs.YtkhmdpplpecgcaaW.PrintMore
attribute [local go_sem] max2_int min2_int max_two min_two max_three min_three max_four min_four   -- for this text's walks alone

/-! ### nat_Add: function 28 -/
theorem add_digit (v a b P p cy q : Nat) (h : v + P * cy = a + b) : v + P * ((p + cy + q) % 1000000000) + P * 1000000000 * ((p + cy + q) / 1000000000) = a + P * p + (b + P * q) := by
  have e := congrArg (P * ·) (Nat.div_add_mod (p + cy + q) 1000000000)
  simp only [Nat.mul_add] at e
  rw [Nat.mul_assoc]; omega
theorem add_digit0 (v a b P p cy : Nat) (h : v + P * cy = a + b) : v + P * ((p + cy) % 1000000000) + P * 1000000000 * ((p + cy) / 1000000000) = a + P * p + b := by
  have := add_digit v a b P p cy 0 h
  simpa using this
def nat_Add.f (l0 : List Int) (l1 : List Int) : Option (List Int) := addF l0 l1
set_option maxHeartbeats 1000000 in
theorem nat_Add.calls (A0 : Option Addr) (c0 : Nat) (l0 : List Int) (A1 : Option Addr) (c1 : Nat) (l1 : List Int) (r : List Int) (w : World) (hr0 : Kd.C (Kd.int .u32) w A0 l0.length l0) (hc0 : l0.length ≤ c0) (hr1 : Kd.C (Kd.int .u32) w A1 l1.length l1) (hc1 : l1.length ≤ c1) (h : nat_Add.f l0 l1 = some r) :
    Calls Try.prog 28 #[.slice A0 l0.length c0, .slice A1 l1.length c1] w fun e w' => ∃ v0_ : Value, e = .returned (v0_) ∧ Kd.R (Kd.int .u32) 30 w' w.heap.size (fun _ => True) v0_ r ∧ Below w.heap.size w w' := by
  unfold nat_Add.f addF at h
  by_cases hg : goodL l0 = true ∧ goodL l1 = true ∧ l0.length ≤ 1000000000000 ∧ l1.length ≤ 1000000000000
  · rw [if_pos hg] at h
    obtain rfl := Option.some.inj h
    obtain ⟨g0, g1, z0, z1⟩ := hg
    have G0 := Aside0.mk g0
    have G1 := Aside0.mk g1
    have HR0 := Aside0.mk hr0
    have HR1 := Aside0.mk hr1
    have HC0 := Aside0.mk hc0
    have HC1 := Aside0.mk hc1
    clear g0 g1 hr0 hr1 hc0 hc1 h
    by_cases hsw : l0.length < l1.length
    · have ds : decide (l0.length < l1.length) = true := decide_eq_true hsw
      have HZ := Aside0.mk (show l0.length ≤ 1000000000000 ∧ l1.length ≤ 1000000000000 ∧ l0.length ≤ l1.length by omega)
      clear hsw
      go_enter Try.func28, Try.ntmps28
      go_wp2_with (first | ((with_reducible refine gate_dst (N := 20) rfl ?_); refine R_make_cap (k := .u32) w.heap.size 30 rfl 22 _ _ rfl (l1.length + 1) rfl (by first | rfl | simp) Try.underlying22 (.int .u32 0) 4 info30 (fun _ => True) trivial (by omega) (by omega) (w0 := w) (by first | exact Below.refl _ _ | exact pw_below_drewN (Below.refl _ _) _) (by first | exact Nat.le_refl _ | simp) ?_; intro v20 w20 ho20 hb20; have HO := Aside0.mk ho20; have HB := Aside0.mk hb20; clear ho20 hb20))
      go_loopg [5, 6, 23] l1.length (fun j v5 v6 v23 w' => ∃ (n cy : Nat) (o : List Int), v23 = .int .i64 (n : Int) ∧ v6 = .int .u32 (cy : Int) ∧ Aside0 (n + j = l1.length) ∧ Aside0 (cy ≤ 1 ∧ goodL o = true ∧ o.length = n ∧ valL o + 1000000000 ^ n * cy = valL (l1.take n) + valL (l0.take n)) ∧ Aside0 (Kd.R (Kd.int .u32) 30 w' w.heap.size (fun _ => True) v5 o) ∧ Aside0 (Below w.heap.size w w'))
      case atStart => exact ⟨0, 0, [], rfl, rfl, ⟨by omega⟩, ⟨by omega, rfl, rfl, by simp [valL]⟩, HO, HB⟩
      case round =>
        clear HO HB
        obtain ⟨n, cy, o, rfl, rfl, HN, HI, HO, HB⟩ := hrel
        cases gk with
        | zero =>
          have hn := HN.out
          have hd : decide (n < l1.length) = false := decide_eq_false (by omega)
          have HV := Aside0.mk (show goodL (o ++ [(cy : Int)]) = true ∧ (o ++ [(cy : Int)]).length ≤ 20000000000000 ∧ valL (o ++ [(cy : Int)]) = valL l0 + valL l1 by
            obtain ⟨i1, i2, i3, i4⟩ := HI.out
            have hz := HZ.out
            refine ⟨goodL_append.2 ⟨i2, goodL_cons.2 ⟨by omega, rfl⟩⟩, by simp; omega, ?_⟩
            rw [valL_snoc, Int.toNat_natCast, i3, i4, List.take_of_length_le (by omega), List.take_of_length_le (by omega)]; exact Nat.add_comm _ _)
          have HL := Aside0.mk (show (o.length + 1) * 4 ≤ 140737488355328 by
            have := HI.out
            have hz := HZ.out
            omega)
          obtain ⟨y, hy⟩ : ∃ y, y = o ++ [(cy : Int)] := ⟨_, rfl⟩
          rw [← hy] at HV
          have NY := Aside0.mk hy
          clear hn hy
          go_wp2_with (first
            | ((with_reducible refine gate_builtin (b := .append) (xs := #[.tmp 49, .tmp 51]) rfl ?_); at_builtin; refine Kd.R_append (Kd.int .u32) (w0 := w) w.heap.size rfl (.tmp 49) (.tmp 51) 22 30 (.int .u32 0) 4 rfl Try.underlying22 info30 rfl (by decide) (by omega) _ o (cy : Int) [.int .u32 (cy : Int)] (fun _ => True) (fun _ => False) rfl rfl ?aP (fun _ hk => hk.elim) ?aF ?aO ?aB ?aS ?aL ?_; (case aP => exact rfl); (case aB => exact (by repeat (first | (with_reducible first | exact HB.out | apply below_alloc | apply pw_below_drewN | apply below_drew1) | exact HB.out))); (case aF => exact (fun _ _ => trivial)); (case aO => exact (by (with_reducible repeat (first | apply Kd.R_alloc | apply Kd.R_drewN | apply Kd.R_drew)); exact HO.out)); (case aS => exact (below_size (by repeat (first | (with_reducible first | exact HB.out | apply below_alloc | apply pw_below_drewN | apply below_drew1) | exact HB.out)))); (case aL => exact HL.out); intro v49 w11 ho hb hg hat; rw [← NY.out] at ho; have n0_ := Aside0.mk hb; have n1_ := Aside0.mk ho; clear HB; clear HO; have HB := n0_; have HO := n1_; clear n0_ n1_; clear ho hb hg hat; obtain ⟨A9, c9, rfl⟩ := Kd.R_slice HO.out)
            | (go_at_call 31; (with_reducible refine (nat_Trim.calls A9 c9 y (limbs (valL l0 + valL l1)) _ ?side1 ?side2 ?side3).mono ?_); (case side1 => exact (Kd.R_reads' HO.out).2.2); (case side2 => exact (Kd.R_reads' HO.out).2.1); (case side3 => rw [← HV.out.2.2]; exact trimF_eq HV.out.1 HV.out.2.1); rintro e w12 ⟨v0, rfl, ho, hb⟩; have n0_ := Aside0.mk (Kd.R_lower ho (below_size (by repeat (first | (with_reducible first | exact HB.out | apply below_alloc | apply pw_below_drewN | apply below_drew1) | exact HB.out)))); have n1_ := Aside0.mk (below_step (by repeat (first | (with_reducible first | exact HB.out | apply below_alloc | apply pw_below_drewN | apply below_drew1) | exact HB.out)) hb); clear ho hb HB HO; have HB := n1_; have HO := n0_; clear n0_ n1_))
          go_ret
          exact ⟨_, rfl, HO.out, HB.out⟩
        | succ j =>
          have hn := HN.out
          have hnl : n < l1.length := by omega
          have hd : decide (n < l1.length) = true := decide_eq_true hnl
          obtain ⟨ad, ea, hc⟩ := Kd.at_int HR1.out (n : Int) (by omega) (by omega)
          cases ea
          rw [Int.toNat_natCast] at hc
          replace hc := (HB.out.cell (World.block_lt_of_cell? w _ hc)).trans hc
          obtain ⟨p, hp⟩ : ∃ p : Nat, rd l1 (n : Int) = (p : Int) := ⟨(rd l1 (n : Int)).toNat, by have := goodL_iff.1 G1.out _ (List.getElem_mem hnl); rw [rd_get hnl]; omega⟩
          have hp9 : p < 1000000000 := by have := goodL_iff.1 G1.out _ (List.getElem_mem hnl); rw [rd_get hnl] at hp; omega
          rw [hp] at hc
          have HNL := Aside0.mk hnl
          have HP := Aside0.mk (show (l1[n]'HNL.out).toNat = p by rw [rd_get hnl] at hp; rw [hp]; rfl)
          have HS := Aside0.mk (Fig.valL_take_succ HNL.out)
          have hcy : cy ≤ 1 := HI.out.1
          have HL := Aside0.mk (show (o.length + 1) * 4 ≤ 140737488355328 by
            have := HI.out
            have hz := HZ.out
            omega)
          have qn := eq_true hnl
          clear hp hn hnl
          by_cases hm : n < l0.length
          · have hdm : decide (n < l0.length) = true := decide_eq_true hm
            obtain ⟨ad2, ea2, hc2⟩ := Kd.at_int HR0.out (n : Int) (by omega) (by omega)
            cases ea2
            rw [Int.toNat_natCast] at hc2
            replace hc2 := (HB.out.cell (World.block_lt_of_cell? w _ hc2)).trans hc2
            obtain ⟨q, hq⟩ : ∃ q : Nat, rd l0 (n : Int) = (q : Int) := ⟨(rd l0 (n : Int)).toNat, by have := goodL_iff.1 G0.out _ (List.getElem_mem hm); rw [rd_get hm]; omega⟩
            have hq9 : q < 1000000000 := by have := goodL_iff.1 G0.out _ (List.getElem_mem hm); rw [rd_get hm] at hq; omega
            rw [hq] at hc2
            have HM := Aside0.mk hm
            have HQ := Aside0.mk (show (l0[n]'HM.out).toNat = q by rw [rd_get hm] at hq; rw [hq]; rfl)
            have HS2 := Aside0.mk (Fig.valL_take_succ HM.out)
            have qm := eq_true hm
            clear hq hm
            go_wp2_with (first
              | ((with_reducible refine gate_builtin (b := .append) (xs := #[.tmp 43, .tmp 46]) rfl ?_); at_builtin; refine Kd.R_append (Kd.int .u32) (w0 := w) w.heap.size rfl (.tmp 43) (.tmp 46) 22 30 (.int .u32 0) 4 rfl Try.underlying22 info30 rfl (by decide) (by omega) _ o (((p + cy + q) % 1000000000 : Nat) : Int) [.int .u32 (((p + cy + q) % 1000000000 : Nat) : Int)] (fun _ => True) (fun _ => False) rfl rfl ?aP (fun _ hk => hk.elim) ?aF ?aO ?aB ?aS ?aL ?_; (case aP => exact rfl); (case aB => exact (by repeat (first | (with_reducible first | exact HB.out | apply below_alloc | apply pw_below_drewN | apply below_drew1) | exact HB.out))); (case aF => exact (fun _ _ => trivial)); (case aO => exact (by (with_reducible repeat (first | apply Kd.R_alloc | apply Kd.R_drewN | apply Kd.R_drew)); exact HO.out)); (case aS => exact (below_size (by repeat (first | (with_reducible first | exact HB.out | apply below_alloc | apply pw_below_drewN | apply below_drew1) | exact HB.out)))); (case aL => exact HL.out); intro v49 w11 ho hb hg hat; have n0_ := Aside0.mk hb; have n1_ := Aside0.mk ho; clear HB; clear HO; have HB := n0_; have HO := n1_; clear n0_ n1_; clear ho hb hg hat))
            go_roundg j
            case measure => omega
            case rel =>
              exact ⟨n + 1, (p + cy + q) / 1000000000, _, by rw [succ64 n (by have := HN.out; have := HZ.out; omega)], by first | rfl | go_num, ⟨by have := HN.out; omega⟩, ⟨by
                obtain ⟨i1, i2, i3, i4⟩ := HI.out
                refine ⟨by omega, goodL_append.2 ⟨i2, goodL_cons.2 ⟨by omega, rfl⟩⟩, by simp [i3], ?_⟩
                rw [valL_snoc, Int.toNat_natCast, i3, Nat.pow_succ, HS.out, HS2.out, HP.out, HQ.out]
                exact add_digit _ _ _ _ _ _ _ i4⟩, HO, HB⟩
          · have hdm : decide (n < l0.length) = false := decide_eq_false hm
            have HM := Aside0.mk hm
            clear hm
            go_wp2_with (first
              | ((with_reducible refine gate_builtin (b := .append) (xs := #[.tmp 43, .tmp 46]) rfl ?_); at_builtin; refine Kd.R_append (Kd.int .u32) (w0 := w) w.heap.size rfl (.tmp 43) (.tmp 46) 22 30 (.int .u32 0) 4 rfl Try.underlying22 info30 rfl (by decide) (by omega) _ o (((p + cy) % 1000000000 : Nat) : Int) [.int .u32 (((p + cy) % 1000000000 : Nat) : Int)] (fun _ => True) (fun _ => False) rfl rfl ?aP (fun _ hk => hk.elim) ?aF ?aO ?aB ?aS ?aL ?_; (case aP => exact rfl); (case aB => exact (by repeat (first | (with_reducible first | exact HB.out | apply below_alloc | apply pw_below_drewN | apply below_drew1) | exact HB.out))); (case aF => exact (fun _ _ => trivial)); (case aO => exact (by (with_reducible repeat (first | apply Kd.R_alloc | apply Kd.R_drewN | apply Kd.R_drew)); exact HO.out)); (case aS => exact (below_size (by repeat (first | (with_reducible first | exact HB.out | apply below_alloc | apply pw_below_drewN | apply below_drew1) | exact HB.out)))); (case aL => exact HL.out); intro v49 w11 ho hb hg hat; have n0_ := Aside0.mk hb; have n1_ := Aside0.mk ho; clear HB; clear HO; have HB := n0_; have HO := n1_; clear n0_ n1_; clear ho hb hg hat))
            go_roundg j
            case measure => omega
            case rel =>
              exact ⟨n + 1, (p + cy) / 1000000000, _, by rw [succ64 n (by have := HN.out; have := HZ.out; omega)], by first | rfl | go_num, ⟨by have := HN.out; omega⟩, ⟨by
                obtain ⟨i1, i2, i3, i4⟩ := HI.out
                refine ⟨by omega, goodL_append.2 ⟨i2, goodL_cons.2 ⟨by omega, rfl⟩⟩, by simp [i3], ?_⟩
                have hm := HM.out
                have e1 : l0.take (n + 1) = l0.take n := by rw [List.take_of_length_le (by omega), List.take_of_length_le (by omega)]
                rw [valL_snoc, Int.toNat_natCast, i3, Nat.pow_succ, HS.out, HP.out, e1]
                exact add_digit0 _ _ _ _ _ _ i4⟩, HO, HB⟩

    · have ds : decide (l0.length < l1.length) = false := decide_eq_false hsw
      have HZ := Aside0.mk (show l0.length ≤ 1000000000000 ∧ l1.length ≤ 1000000000000 ∧ l1.length ≤ l0.length by omega)
      clear hsw
      go_enter Try.func28, Try.ntmps28
      go_wp2_with (first | ((with_reducible refine gate_dst (N := 20) rfl ?_); refine R_make_cap (k := .u32) w.heap.size 30 rfl 22 _ _ rfl (l0.length + 1) rfl (by first | rfl | simp) Try.underlying22 (.int .u32 0) 4 info30 (fun _ => True) trivial (by omega) (by omega) (w0 := w) (by first | exact Below.refl _ _ | exact pw_below_drewN (Below.refl _ _) _) (by first | exact Nat.le_refl _ | simp) ?_; intro v20 w20 ho20 hb20; have HO := Aside0.mk ho20; have HB := Aside0.mk hb20; clear ho20 hb20))
      go_loopg [5, 6, 23] l0.length (fun j v5 v6 v23 w' => ∃ (n cy : Nat) (o : List Int), v23 = .int .i64 (n : Int) ∧ v6 = .int .u32 (cy : Int) ∧ Aside0 (n + j = l0.length) ∧ Aside0 (cy ≤ 1 ∧ goodL o = true ∧ o.length = n ∧ valL o + 1000000000 ^ n * cy = valL (l0.take n) + valL (l1.take n)) ∧ Aside0 (Kd.R (Kd.int .u32) 30 w' w.heap.size (fun _ => True) v5 o) ∧ Aside0 (Below w.heap.size w w'))
      case atStart => exact ⟨0, 0, [], rfl, rfl, ⟨by omega⟩, ⟨by omega, rfl, rfl, by simp [valL]⟩, HO, HB⟩
      case round =>
        clear HO HB
        obtain ⟨n, cy, o, rfl, rfl, HN, HI, HO, HB⟩ := hrel
        cases gk with
        | zero =>
          have hn := HN.out
          have hd : decide (n < l0.length) = false := decide_eq_false (by omega)
          have HV := Aside0.mk (show goodL (o ++ [(cy : Int)]) = true ∧ (o ++ [(cy : Int)]).length ≤ 20000000000000 ∧ valL (o ++ [(cy : Int)]) = valL l0 + valL l1 by
            obtain ⟨i1, i2, i3, i4⟩ := HI.out
            have hz := HZ.out
            refine ⟨goodL_append.2 ⟨i2, goodL_cons.2 ⟨by omega, rfl⟩⟩, by simp; omega, ?_⟩
            rw [valL_snoc, Int.toNat_natCast, i3, i4, List.take_of_length_le (by omega), List.take_of_length_le (by omega)])
          have HL := Aside0.mk (show (o.length + 1) * 4 ≤ 140737488355328 by
            have := HI.out
            have hz := HZ.out
            omega)
          obtain ⟨y, hy⟩ : ∃ y, y = o ++ [(cy : Int)] := ⟨_, rfl⟩
          rw [← hy] at HV
          have NY := Aside0.mk hy
          clear hn hy
          go_wp2_with (first
            | ((with_reducible refine gate_builtin (b := .append) (xs := #[.tmp 49, .tmp 51]) rfl ?_); at_builtin; refine Kd.R_append (Kd.int .u32) (w0 := w) w.heap.size rfl (.tmp 49) (.tmp 51) 22 30 (.int .u32 0) 4 rfl Try.underlying22 info30 rfl (by decide) (by omega) _ o (cy : Int) [.int .u32 (cy : Int)] (fun _ => True) (fun _ => False) rfl rfl ?aP (fun _ hk => hk.elim) ?aF ?aO ?aB ?aS ?aL ?_; (case aP => exact rfl); (case aB => exact (by repeat (first | (with_reducible first | exact HB.out | apply below_alloc | apply pw_below_drewN | apply below_drew1) | exact HB.out))); (case aF => exact (fun _ _ => trivial)); (case aO => exact (by (with_reducible repeat (first | apply Kd.R_alloc | apply Kd.R_drewN | apply Kd.R_drew)); exact HO.out)); (case aS => exact (below_size (by repeat (first | (with_reducible first | exact HB.out | apply below_alloc | apply pw_below_drewN | apply below_drew1) | exact HB.out)))); (case aL => exact HL.out); intro v49 w11 ho hb hg hat; rw [← NY.out] at ho; have n0_ := Aside0.mk hb; have n1_ := Aside0.mk ho; clear HB; clear HO; have HB := n0_; have HO := n1_; clear n0_ n1_; clear ho hb hg hat; obtain ⟨A9, c9, rfl⟩ := Kd.R_slice HO.out)
            | (go_at_call 31; (with_reducible refine (nat_Trim.calls A9 c9 y (limbs (valL l0 + valL l1)) _ ?side1 ?side2 ?side3).mono ?_); (case side1 => exact (Kd.R_reads' HO.out).2.2); (case side2 => exact (Kd.R_reads' HO.out).2.1); (case side3 => rw [← HV.out.2.2]; exact trimF_eq HV.out.1 HV.out.2.1); rintro e w12 ⟨v0, rfl, ho, hb⟩; have n0_ := Aside0.mk (Kd.R_lower ho (below_size (by repeat (first | (with_reducible first | exact HB.out | apply below_alloc | apply pw_below_drewN | apply below_drew1) | exact HB.out)))); have n1_ := Aside0.mk (below_step (by repeat (first | (with_reducible first | exact HB.out | apply below_alloc | apply pw_below_drewN | apply below_drew1) | exact HB.out)) hb); clear ho hb HB HO; have HB := n1_; have HO := n0_; clear n0_ n1_))
          go_ret
          exact ⟨_, rfl, HO.out, HB.out⟩
        | succ j =>
          have hn := HN.out
          have hnl : n < l0.length := by omega
          have hd : decide (n < l0.length) = true := decide_eq_true hnl
          obtain ⟨ad, ea, hc⟩ := Kd.at_int HR0.out (n : Int) (by omega) (by omega)
          cases ea
          rw [Int.toNat_natCast] at hc
          replace hc := (HB.out.cell (World.block_lt_of_cell? w _ hc)).trans hc
          obtain ⟨p, hp⟩ : ∃ p : Nat, rd l0 (n : Int) = (p : Int) := ⟨(rd l0 (n : Int)).toNat, by have := goodL_iff.1 G0.out _ (List.getElem_mem hnl); rw [rd_get hnl]; omega⟩
          have hp9 : p < 1000000000 := by have := goodL_iff.1 G0.out _ (List.getElem_mem hnl); rw [rd_get hnl] at hp; omega
          rw [hp] at hc
          have HNL := Aside0.mk hnl
          have HP := Aside0.mk (show (l0[n]'HNL.out).toNat = p by rw [rd_get hnl] at hp; rw [hp]; rfl)
          have HS := Aside0.mk (Fig.valL_take_succ HNL.out)
          have hcy : cy ≤ 1 := HI.out.1
          have HL := Aside0.mk (show (o.length + 1) * 4 ≤ 140737488355328 by
            have := HI.out
            have hz := HZ.out
            omega)
          have qn := eq_true hnl
          clear hp hn hnl
          by_cases hm : n < l1.length
          · have hdm : decide (n < l1.length) = true := decide_eq_true hm
            obtain ⟨ad2, ea2, hc2⟩ := Kd.at_int HR1.out (n : Int) (by omega) (by omega)
            cases ea2
            rw [Int.toNat_natCast] at hc2
            replace hc2 := (HB.out.cell (World.block_lt_of_cell? w _ hc2)).trans hc2
            obtain ⟨q, hq⟩ : ∃ q : Nat, rd l1 (n : Int) = (q : Int) := ⟨(rd l1 (n : Int)).toNat, by have := goodL_iff.1 G1.out _ (List.getElem_mem hm); rw [rd_get hm]; omega⟩
            have hq9 : q < 1000000000 := by have := goodL_iff.1 G1.out _ (List.getElem_mem hm); rw [rd_get hm] at hq; omega
            rw [hq] at hc2
            have HM := Aside0.mk hm
            have HQ := Aside0.mk (show (l1[n]'HM.out).toNat = q by rw [rd_get hm] at hq; rw [hq]; rfl)
            have HS2 := Aside0.mk (Fig.valL_take_succ HM.out)
            have qm := eq_true hm
            clear hq hm
            go_wp2_with (first
              | ((with_reducible refine gate_builtin (b := .append) (xs := #[.tmp 43, .tmp 46]) rfl ?_); at_builtin; refine Kd.R_append (Kd.int .u32) (w0 := w) w.heap.size rfl (.tmp 43) (.tmp 46) 22 30 (.int .u32 0) 4 rfl Try.underlying22 info30 rfl (by decide) (by omega) _ o (((p + cy + q) % 1000000000 : Nat) : Int) [.int .u32 (((p + cy + q) % 1000000000 : Nat) : Int)] (fun _ => True) (fun _ => False) rfl rfl ?aP (fun _ hk => hk.elim) ?aF ?aO ?aB ?aS ?aL ?_; (case aP => exact rfl); (case aB => exact (by repeat (first | (with_reducible first | exact HB.out | apply below_alloc | apply pw_below_drewN | apply below_drew1) | exact HB.out))); (case aF => exact (fun _ _ => trivial)); (case aO => exact (by (with_reducible repeat (first | apply Kd.R_alloc | apply Kd.R_drewN | apply Kd.R_drew)); exact HO.out)); (case aS => exact (below_size (by repeat (first | (with_reducible first | exact HB.out | apply below_alloc | apply pw_below_drewN | apply below_drew1) | exact HB.out)))); (case aL => exact HL.out); intro v49 w11 ho hb hg hat; have n0_ := Aside0.mk hb; have n1_ := Aside0.mk ho; clear HB; clear HO; have HB := n0_; have HO := n1_; clear n0_ n1_; clear ho hb hg hat))
            go_roundg j
            case measure => omega
            case rel =>
              exact ⟨n + 1, (p + cy + q) / 1000000000, _, by rw [succ64 n (by have := HN.out; have := HZ.out; omega)], by first | rfl | go_num, ⟨by have := HN.out; omega⟩, ⟨by
                obtain ⟨i1, i2, i3, i4⟩ := HI.out
                refine ⟨by omega, goodL_append.2 ⟨i2, goodL_cons.2 ⟨by omega, rfl⟩⟩, by simp [i3], ?_⟩
                rw [valL_snoc, Int.toNat_natCast, i3, Nat.pow_succ, HS.out, HS2.out, HP.out, HQ.out]
                exact add_digit _ _ _ _ _ _ _ i4⟩, HO, HB⟩
          · have hdm : decide (n < l1.length) = false := decide_eq_false hm
            have HM := Aside0.mk hm
            clear hm
            go_wp2_with (first
              | ((with_reducible refine gate_builtin (b := .append) (xs := #[.tmp 43, .tmp 46]) rfl ?_); at_builtin; refine Kd.R_append (Kd.int .u32) (w0 := w) w.heap.size rfl (.tmp 43) (.tmp 46) 22 30 (.int .u32 0) 4 rfl Try.underlying22 info30 rfl (by decide) (by omega) _ o (((p + cy) % 1000000000 : Nat) : Int) [.int .u32 (((p + cy) % 1000000000 : Nat) : Int)] (fun _ => True) (fun _ => False) rfl rfl ?aP (fun _ hk => hk.elim) ?aF ?aO ?aB ?aS ?aL ?_; (case aP => exact rfl); (case aB => exact (by repeat (first | (with_reducible first | exact HB.out | apply below_alloc | apply pw_below_drewN | apply below_drew1) | exact HB.out))); (case aF => exact (fun _ _ => trivial)); (case aO => exact (by (with_reducible repeat (first | apply Kd.R_alloc | apply Kd.R_drewN | apply Kd.R_drew)); exact HO.out)); (case aS => exact (below_size (by repeat (first | (with_reducible first | exact HB.out | apply below_alloc | apply pw_below_drewN | apply below_drew1) | exact HB.out)))); (case aL => exact HL.out); intro v49 w11 ho hb hg hat; have n0_ := Aside0.mk hb; have n1_ := Aside0.mk ho; clear HB; clear HO; have HB := n0_; have HO := n1_; clear n0_ n1_; clear ho hb hg hat))
            go_roundg j
            case measure => omega
            case rel =>
              exact ⟨n + 1, (p + cy) / 1000000000, _, by rw [succ64 n (by have := HN.out; have := HZ.out; omega)], by first | rfl | go_num, ⟨by have := HN.out; omega⟩, ⟨by
                obtain ⟨i1, i2, i3, i4⟩ := HI.out
                refine ⟨by omega, goodL_append.2 ⟨i2, goodL_cons.2 ⟨by omega, rfl⟩⟩, by simp [i3], ?_⟩
                have hm := HM.out
                have e1 : l1.take (n + 1) = l1.take n := by rw [List.take_of_length_le (by omega), List.take_of_length_le (by omega)]
                rw [valL_snoc, Int.toNat_natCast, i3, Nat.pow_succ, HS.out, HP.out, e1]
                exact add_digit0 _ _ _ _ _ _ i4⟩, HO, HB⟩

  · rw [if_neg hg] at h; cases h

end Go.Proofs.Ytkhmdpplpecgcaa.Px

namespace Go.Proofs.Ytkhmdpplpecgcaa.Px
open Fig Go.RowKit Go.Proofs.YtkhmdpplpecgcaaW.PrintWords Go.Proofs.YtkhmdpplpecgcaaW.PrintLast Go.Proofs.YtkhmdpplpecgcaaW.PrintMore
attribute [local go_sem] max2_int min2_int max_two min_two max_three min_three max_four min_four   -- for this text's walks alone

/-! ### nat_Sub: function 29 -/
theorem sub_digit1 (v a b P p bw q : Nat) (hp : p < bw + q) (hb : bw ≤ 1) (hq : q < 1000000000) (h : a + P * bw = v + b) : a + P * p + P * 1000000000 * 1 = v + P * (p + 1000000000 - (bw + q)) + (b + P * q) := by
  have e : P * p + P * 1000000000 + P * bw = P * (p + 1000000000 - (bw + q)) + P * bw + (P * q + P * bw) := by
    rw [← Nat.mul_add, ← Nat.mul_add, ← Nat.mul_add, ← Nat.mul_add, ← Nat.mul_add]; congr 1; omega
  rw [Nat.mul_one]; omega
theorem sub_digit0 (v a b P p bw q : Nat) (hp : ¬ p < bw + q) (h : a + P * bw = v + b) : a + P * p + P * 1000000000 * 0 = v + P * (p - (bw + q)) + (b + P * q) := by
  have e : P * p = P * (p - (bw + q)) + P * bw + P * q := by
    rw [← Nat.mul_add, ← Nat.mul_add]; congr 1; omega
  rw [Nat.mul_zero]; omega
def nat_Sub.f (l0 : List Int) (l1 : List Int) : Option (List Int × Bool) := subF l0 l1
set_option maxHeartbeats 1000000 in
theorem nat_Sub.calls (A0 : Option Addr) (c0 : Nat) (l0 : List Int) (A1 : Option Addr) (c1 : Nat) (l1 : List Int) (r1 : List Int) (r2 : Bool) (w : World) (hr0 : Kd.C (Kd.int .u32) w A0 l0.length l0) (hc0 : l0.length ≤ c0) (hr1 : Kd.C (Kd.int .u32) w A1 l1.length l1) (hc1 : l1.length ≤ c1) (h : nat_Sub.f l0 l1 = some (r1, r2)) :
    Calls Try.prog 29 #[.slice A0 l0.length c0, .slice A1 l1.length c1] w fun e w' => ∃ v0_ : Value, e = .returned (.tuple #[v0_, .bool r2]) ∧ Kd.R (Kd.int .u32) 30 w' w.heap.size (fun _ => True) v0_ r1 ∧ Below w.heap.size w w' := by
  unfold nat_Sub.f subF at h
  by_cases hg : goodL l0 = true ∧ goodL l1 = true ∧ l0.length ≤ 1000000000000 ∧ l1.length ≤ 1000000000000
  · rw [if_pos hg] at h
    obtain ⟨g0, g1, z0, z1⟩ := hg
    obtain ⟨cc, hcc⟩ : ∃ c, c = cmpN (valL l0) (valL l1) := ⟨_, rfl⟩
    have HCM := Aside0.mk (show nat_Cmp.f l0 l1 = some cc by rw [hcc]; exact cmpF_eq g0 g1 z0 z1)
    have G0 := Aside0.mk g0
    have G1 := Aside0.mk g1
    have HR0 := Aside0.mk hr0
    have HR1 := Aside0.mk hr1
    have HC0 := Aside0.mk hc0
    have HC1 := Aside0.mk hc1
    clear g0 g1 hr0 hr1 hc0 hc1
    by_cases hlt : valL l0 < valL l1
    · rw [if_pos hlt] at h
      simp only [Option.some.injEq, Prod.mk.injEq] at h
      obtain ⟨rfl, rfl⟩ := h
      have hneg : cc < 0 := by rw [hcc]; unfold cmpN; rw [if_pos hlt]; omega
      have dc : decide (cc < 0) = true := decide_eq_true hneg
      clear hcc hneg hlt
      go_enter Try.func29, Try.ntmps29
      go_wp2_with (go_at_call 27; (with_reducible refine (nat_Cmp.calls _ _ l0 _ _ l1 cc _ ?side1 ?side2 ?side3 ?side4 HCM.out).mono ?_); (case side1 => exact HR0.out); (case side2 => exact HC0.out); (case side3 => exact HR1.out); (case side4 => exact HC1.out); rintro e w' ⟨rfl, ⟨nd, rfl⟩⟩)
      go_ret2
      exact ⟨_, rfl, Kd.R_nil _ _ _ _ _, pw_below_drewN (Below.refl _ _) _⟩
    · rw [if_neg hlt] at h
      simp only [Option.some.injEq, Prod.mk.injEq] at h
      obtain ⟨rfl, rfl⟩ := h
      have hneg : ¬ cc < 0 := by rw [hcc]; unfold cmpN; rw [if_neg hlt]; split <;> omega
      have dc : decide (cc < 0) = false := decide_eq_false hneg
      have hle : valL l1 ≤ valL l0 := by omega
      obtain ⟨k1, hk1⟩ := top_at (l := l1) (by omega)
      have ht1 := trimL_len l1
      have hm1 : (trimL l1).length ≤ l0.length := by
        rcases Nat.lt_or_ge l0.length (trimL l1).length with h1 | h1
        · have := len_lt G0.out (trimL_good G1.out) (trimL_canon l1) h1
          rw [trimL_val] at this; omega
        · exact h1
      have hq1 := Fig.take_trim l1
      have hv1 := trimL_val l1
      obtain ⟨m, hm⟩ : ∃ m, m = (trimL l1).length := ⟨_, rfl⟩
      rw [← hm] at hk1 ht1 hm1 hq1
      obtain ⟨i0, hi0, _, hsz, _⟩ := info_parts info30
      obtain ⟨hcutB, _, hcB⟩ := print_take_of (P := Try.prog) (Value.int .u32) 0 22 30 .i64 Try.underlying22 hi0 hsz A1 c1 l1 (m : Int) (by omega) (by omega) HC1.out
      rw [Int.toNat_natCast] at hcutB
      have Hk1 := Aside0.mk hk1
      have HT := Aside0.mk (And.intro hq1 hv1)
      have HLE := Aside0.mk hle
      clear hcc hneg hlt hk1 hm hq1 hv1 hle hi0 hsz hcB
      go_enter Try.func29, Try.ntmps29
      go_wp2_with (first
        | (go_at_call 27; (with_reducible refine (nat_Cmp.calls _ _ l0 _ _ l1 cc _ ?side1 ?side2 ?side3 ?side4 HCM.out).mono ?_); (case side1 => exact HR0.out); (case side2 => exact HC0.out); (case side3 => exact HR1.out); (case side4 => exact HC1.out); rintro e w' ⟨rfl, ⟨nd, rfl⟩⟩)
        | (go_at_call 38; (with_reducible refine (nat_top.calls k1 _ _ l1 (m : Int) _ ?side1 ?side2 Hk1.out).mono ?_); (case side1 => repeat (first | exact HR1.out | (with_reducible refine Kd.C_drewN ?_ _) | (with_reducible refine Kd.C_drew ?_))); (case side2 => exact HC1.out); rintro e w' ⟨rfl, ⟨nd2, rfl⟩⟩)
        | ((with_reducible refine gate_dst (N := 21) rfl ?_); refine R_make_cap (k := .u32) w.heap.size 30 rfl 22 _ _ rfl l0.length rfl (by first | rfl | simp) Try.underlying22 (.int .u32 0) 4 info30 (fun _ => True) trivial (by omega) (by omega) (w0 := w) (by repeat (first | exact Below.refl _ _ | apply pw_below_drewN | apply below_drew1)) (by first | exact Nat.le_refl _ | simp) ?_; intro v20 w20 ho20 hb20; have HO := Aside0.mk ho20; have HB := Aside0.mk hb20; clear ho20 hb20))
      go_loopg [6, 7, 24] l0.length (fun j v6 v7 v24 w' => ∃ (n bw : Nat) (o : List Int), v24 = .int .i64 (n : Int) ∧ v7 = .int .u32 (bw : Int) ∧ Aside0 (n + j = l0.length) ∧ Aside0 (bw ≤ 1 ∧ goodL o = true ∧ o.length = n ∧ valL (l0.take n) + 1000000000 ^ n * bw = valL o + valL ((l1.take m).take n)) ∧ Aside0 (Kd.R (Kd.int .u32) 30 w' w.heap.size (fun _ => True) v6 o) ∧ Aside0 (Below w.heap.size w w'))
      case atStart => exact ⟨0, 0, [], rfl, rfl, ⟨by omega⟩, ⟨by omega, rfl, rfl, by simp [valL]⟩, HO, HB⟩
      case round =>
        clear HO HB
        obtain ⟨n, bw, o, rfl, rfl, HN, HI, HO, HB⟩ := hrel
        cases gk with
        | zero =>
          have hn := HN.out
          have hd : decide (n < l0.length) = false := decide_eq_false (by omega)
          have HV := Aside0.mk (show goodL o = true ∧ o.length ≤ 1000000000000 ∧ valL o = valL l0 - valL l1 by
            obtain ⟨i1, i2, i3, i4⟩ := HI.out
            refine ⟨i2, by omega, ?_⟩
            have ho := valL_lt i2
            have hle := HLE.out
            rw [List.take_of_length_le (by omega), List.take_of_length_le (by simp; omega), HT.out.1, HT.out.2] at i4
            rw [i3] at ho
            rcases Nat.eq_zero_or_pos bw with h0 | h0
            · subst h0; omega
            · have := Nat.mul_le_mul_left (1000000000 ^ n) h0
              omega)
          clear hn
          obtain ⟨A9, c9, rfl⟩ := Kd.R_slice HO.out
          go_wp2_with (first
            | (go_at_call 31; (with_reducible refine (nat_Trim.calls A9 c9 o (limbs (valL l0 - valL l1)) _ ?side1 ?side2 ?side3).mono ?_); (case side1 => exact (Kd.R_reads' HO.out).2.2); (case side2 => exact (Kd.R_reads' HO.out).2.1); (case side3 => rw [← HV.out.2.2]; exact trimF_eq HV.out.1 (by have := HV.out.2.1; omega)); rintro e w12 ⟨v0, rfl, ho, hb⟩; have n0_ := Aside0.mk (Kd.R_lower ho (below_size (by repeat (first | (with_reducible first | exact HB.out | apply below_alloc | apply pw_below_drewN | apply below_drew1) | exact HB.out)))); have n1_ := Aside0.mk (below_step (by repeat (first | (with_reducible first | exact HB.out | apply below_alloc | apply pw_below_drewN | apply below_drew1) | exact HB.out)) hb); clear ho hb HB HO; have HB := n1_; have HO := n0_; clear n0_ n1_))
          go_ret2
          exact ⟨_, rfl, HO.out, HB.out⟩
        | succ j =>
          have hn := HN.out
          have hnl : n < l0.length := by omega
          have hd : decide (n < l0.length) = true := decide_eq_true hnl
          obtain ⟨ad, ea, hc⟩ := Kd.at_int HR0.out (n : Int) (by omega) (by omega)
          cases ea
          rw [Int.toNat_natCast] at hc
          replace hc := (HB.out.cell (World.block_lt_of_cell? w _ hc)).trans hc
          obtain ⟨p, hp⟩ : ∃ p : Nat, rd l0 (n : Int) = (p : Int) := ⟨(rd l0 (n : Int)).toNat, by have := goodL_iff.1 G0.out _ (List.getElem_mem hnl); rw [rd_get hnl]; omega⟩
          have hp9 : p < 1000000000 := by have := goodL_iff.1 G0.out _ (List.getElem_mem hnl); rw [rd_get hnl] at hp; omega
          rw [hp] at hc
          have HNL := Aside0.mk hnl
          have HP := Aside0.mk (show (l0[n]'HNL.out).toNat = p by rw [rd_get hnl] at hp; rw [hp]; rfl)
          have HS := Aside0.mk (Fig.valL_take_succ HNL.out)
          have hbw : bw ≤ 1 := HI.out.1
          have HL := Aside0.mk (show (o.length + 1) * 4 ≤ 140737488355328 by
            have := HI.out
            omega)
          have qn := eq_true hnl
          clear hp hn hnl
          by_cases hm : n < m
          · have hdm : decide (n < m) = true := decide_eq_true hm
            have hm' : n < l1.length := by omega
            obtain ⟨ad2, ea2, hc2⟩ := Kd.at_int HR1.out (n : Int) (by omega) (by omega)
            cases ea2
            rw [Int.toNat_natCast] at hc2
            replace hc2 := (HB.out.cell (World.block_lt_of_cell? w _ hc2)).trans hc2
            obtain ⟨q, hq⟩ : ∃ q : Nat, rd l1 (n : Int) = (q : Int) := ⟨(rd l1 (n : Int)).toNat, by have := goodL_iff.1 G1.out _ (List.getElem_mem hm'); rw [rd_get hm']; omega⟩
            have hq9 : q < 1000000000 := by have := goodL_iff.1 G1.out _ (List.getElem_mem hm'); rw [rd_get hm'] at hq; omega
            rw [hq] at hc2
            have HM := Aside0.mk hm'
            have HQ := Aside0.mk (show (l1[n]'HM.out).toNat = q by rw [rd_get hm'] at hq; rw [hq]; rfl)
            have HS2 := Aside0.mk (Fig.valL_take_succ HM.out)
            have HM2 := Aside0.mk hm
            have qm := eq_true hm
            clear hq hm hm'
            by_cases hv : p < bw + q
            · have dv : decide (p < bw + q) = true := decide_eq_true hv
              have dv2 : decide ((p : Int) < (bw : Int) + (q : Int)) = true := decide_eq_true (by omega)
              go_wp2_with (first | ((with_reducible refine gate_builtin (b := .append) (xs := #[.tmp 45, .tmp 49]) rfl ?_); at_builtin; refine Kd.R_append (Kd.int .u32) (w0 := w) w.heap.size rfl (.tmp 45) (.tmp 49) 22 30 (.int .u32 0) 4 rfl Try.underlying22 info30 rfl (by decide) (by omega) _ o ((p : Int) + 1000000000 - ((bw : Int) + (q : Int))) [.int .u32 ((p : Int) + 1000000000 - ((bw : Int) + (q : Int)))] (fun _ => True) (fun _ => False) rfl rfl ?aP (fun _ hk => hk.elim) ?aF ?aO ?aB ?aS ?aL ?_; (case aP => exact rfl); (case aB => exact (by repeat (first | (with_reducible first | exact HB.out | apply below_alloc | apply pw_below_drewN | apply below_drew1) | exact HB.out))); (case aF => exact (fun _ _ => trivial)); (case aO => exact (by (with_reducible repeat (first | apply Kd.R_alloc | apply Kd.R_drewN | apply Kd.R_drew)); exact HO.out)); (case aS => exact (below_size (by repeat (first | (with_reducible first | exact HB.out | apply below_alloc | apply pw_below_drewN | apply below_drew1) | exact HB.out)))); (case aL => exact HL.out); intro v49 w11 ho hb hg hat; have n0_ := Aside0.mk hb; have n1_ := Aside0.mk ho; clear HB; clear HO; have HB := n0_; have HO := n1_; clear n0_ n1_; clear ho hb hg hat))
              go_roundg j
              case measure => omega
              case rel =>
                exact ⟨n + 1, 1, _, by rw [succ64 n (by have := HN.out; omega)], by first | rfl | go_num, ⟨by have := HN.out; omega⟩, ⟨by
                  obtain ⟨i1, i2, i3, i4⟩ := HI.out
                  rw [show ((p : Int) + 1000000000 - ((bw : Int) + (q : Int))) = ((p + 1000000000 - (bw + q) : Nat) : Int) by omega]
                  refine ⟨by omega, goodL_append.2 ⟨i2, goodL_cons.2 ⟨by omega, rfl⟩⟩, by simp [i3], ?_⟩
                  have hm := HM2.out
                  have e1 : (l1.take m).take (n + 1) = l1.take (n + 1) := by rw [List.take_take, Nat.min_eq_left (by omega)]
                  have e2 : (l1.take m).take n = l1.take n := by rw [List.take_take, Nat.min_eq_left (by omega)]
                  rw [e2] at i4
                  rw [valL_snoc, Int.toNat_natCast, i3, Nat.pow_succ, HS.out, HP.out, e1, HS2.out, HQ.out]
                  exact sub_digit1 _ _ _ _ _ _ q (by omega) (by omega) (by omega) i4⟩, HO, HB⟩
            · have dv : decide (p < bw + q) = false := decide_eq_false hv
              have dv2 : decide ((p : Int) < (bw : Int) + (q : Int)) = false := decide_eq_false (by omega)
              go_wp2_with (first | ((with_reducible refine gate_builtin (b := .append) (xs := #[.tmp 45, .tmp 49]) rfl ?_); at_builtin; refine Kd.R_append (Kd.int .u32) (w0 := w) w.heap.size rfl (.tmp 45) (.tmp 49) 22 30 (.int .u32 0) 4 rfl Try.underlying22 info30 rfl (by decide) (by omega) _ o ((p : Int) - ((bw : Int) + (q : Int))) [.int .u32 ((p : Int) - ((bw : Int) + (q : Int)))] (fun _ => True) (fun _ => False) rfl rfl ?aP (fun _ hk => hk.elim) ?aF ?aO ?aB ?aS ?aL ?_; (case aP => exact rfl); (case aB => exact (by repeat (first | (with_reducible first | exact HB.out | apply below_alloc | apply pw_below_drewN | apply below_drew1) | exact HB.out))); (case aF => exact (fun _ _ => trivial)); (case aO => exact (by (with_reducible repeat (first | apply Kd.R_alloc | apply Kd.R_drewN | apply Kd.R_drew)); exact HO.out)); (case aS => exact (below_size (by repeat (first | (with_reducible first | exact HB.out | apply below_alloc | apply pw_below_drewN | apply below_drew1) | exact HB.out)))); (case aL => exact HL.out); intro v49 w11 ho hb hg hat; have n0_ := Aside0.mk hb; have n1_ := Aside0.mk ho; clear HB; clear HO; have HB := n0_; have HO := n1_; clear n0_ n1_; clear ho hb hg hat))
              go_roundg j
              case measure => omega
              case rel =>
                exact ⟨n + 1, 0, _, by rw [succ64 n (by have := HN.out; omega)], by first | rfl | go_num, ⟨by have := HN.out; omega⟩, ⟨by
                  obtain ⟨i1, i2, i3, i4⟩ := HI.out
                  rw [show ((p : Int) - ((bw : Int) + (q : Int))) = ((p - (bw + q) : Nat) : Int) by omega]
                  refine ⟨by omega, goodL_append.2 ⟨i2, goodL_cons.2 ⟨by omega, rfl⟩⟩, by simp [i3], ?_⟩
                  have hm := HM2.out
                  have e1 : (l1.take m).take (n + 1) = l1.take (n + 1) := by rw [List.take_take, Nat.min_eq_left (by omega)]
                  have e2 : (l1.take m).take n = l1.take n := by rw [List.take_take, Nat.min_eq_left (by omega)]
                  rw [e2] at i4
                  rw [valL_snoc, Int.toNat_natCast, i3, Nat.pow_succ, HS.out, HP.out, e1, HS2.out, HQ.out]
                  exact sub_digit0 _ _ _ _ _ _ q (by omega) i4⟩, HO, HB⟩

          · have hdm : decide (n < m) = false := decide_eq_false hm
            have HM := Aside0.mk hm
            clear hm
            by_cases hv : p < bw
            · have dv : decide (p < bw) = true := decide_eq_true hv
              have dv2 : decide ((p : Int) < (bw : Int)) = true := decide_eq_true (by omega)
              go_wp2_with (first | ((with_reducible refine gate_builtin (b := .append) (xs := #[.tmp 45, .tmp 49]) rfl ?_); at_builtin; refine Kd.R_append (Kd.int .u32) (w0 := w) w.heap.size rfl (.tmp 45) (.tmp 49) 22 30 (.int .u32 0) 4 rfl Try.underlying22 info30 rfl (by decide) (by omega) _ o ((p : Int) + 1000000000 - (bw : Int)) [.int .u32 ((p : Int) + 1000000000 - (bw : Int))] (fun _ => True) (fun _ => False) rfl rfl ?aP (fun _ hk => hk.elim) ?aF ?aO ?aB ?aS ?aL ?_; (case aP => exact rfl); (case aB => exact (by repeat (first | (with_reducible first | exact HB.out | apply below_alloc | apply pw_below_drewN | apply below_drew1) | exact HB.out))); (case aF => exact (fun _ _ => trivial)); (case aO => exact (by (with_reducible repeat (first | apply Kd.R_alloc | apply Kd.R_drewN | apply Kd.R_drew)); exact HO.out)); (case aS => exact (below_size (by repeat (first | (with_reducible first | exact HB.out | apply below_alloc | apply pw_below_drewN | apply below_drew1) | exact HB.out)))); (case aL => exact HL.out); intro v49 w11 ho hb hg hat; have n0_ := Aside0.mk hb; have n1_ := Aside0.mk ho; clear HB; clear HO; have HB := n0_; have HO := n1_; clear n0_ n1_; clear ho hb hg hat))
              go_roundg j
              case measure => omega
              case rel =>
                exact ⟨n + 1, 1, _, by rw [succ64 n (by have := HN.out; omega)], by first | rfl | go_num, ⟨by have := HN.out; omega⟩, ⟨by
                  obtain ⟨i1, i2, i3, i4⟩ := HI.out
                  rw [show ((p : Int) + 1000000000 - (bw : Int)) = ((p + 1000000000 - (bw) : Nat) : Int) by omega]
                  refine ⟨by omega, goodL_append.2 ⟨i2, goodL_cons.2 ⟨by omega, rfl⟩⟩, by simp [i3], ?_⟩
                  have hm := HM.out
                  have e1 : (l1.take m).take (n + 1) = (l1.take m).take n := by rw [List.take_take, List.take_take, Nat.min_eq_right (by omega), Nat.min_eq_right (by omega)]
                  rw [valL_snoc, Int.toNat_natCast, i3, Nat.pow_succ, HS.out, HP.out, e1]
                  exact sub_digit1 _ _ _ _ _ _ 0 (by omega) (by omega) (by omega) i4⟩, HO, HB⟩
            · have dv : decide (p < bw) = false := decide_eq_false hv
              have dv2 : decide ((p : Int) < (bw : Int)) = false := decide_eq_false (by omega)
              go_wp2_with (first | ((with_reducible refine gate_builtin (b := .append) (xs := #[.tmp 45, .tmp 49]) rfl ?_); at_builtin; refine Kd.R_append (Kd.int .u32) (w0 := w) w.heap.size rfl (.tmp 45) (.tmp 49) 22 30 (.int .u32 0) 4 rfl Try.underlying22 info30 rfl (by decide) (by omega) _ o ((p : Int) - (bw : Int)) [.int .u32 ((p : Int) - (bw : Int))] (fun _ => True) (fun _ => False) rfl rfl ?aP (fun _ hk => hk.elim) ?aF ?aO ?aB ?aS ?aL ?_; (case aP => exact rfl); (case aB => exact (by repeat (first | (with_reducible first | exact HB.out | apply below_alloc | apply pw_below_drewN | apply below_drew1) | exact HB.out))); (case aF => exact (fun _ _ => trivial)); (case aO => exact (by (with_reducible repeat (first | apply Kd.R_alloc | apply Kd.R_drewN | apply Kd.R_drew)); exact HO.out)); (case aS => exact (below_size (by repeat (first | (with_reducible first | exact HB.out | apply below_alloc | apply pw_below_drewN | apply below_drew1) | exact HB.out)))); (case aL => exact HL.out); intro v49 w11 ho hb hg hat; have n0_ := Aside0.mk hb; have n1_ := Aside0.mk ho; clear HB; clear HO; have HB := n0_; have HO := n1_; clear n0_ n1_; clear ho hb hg hat))
              go_roundg j
              case measure => omega
              case rel =>
                exact ⟨n + 1, 0, _, by rw [succ64 n (by have := HN.out; omega)], by first | rfl | go_num, ⟨by have := HN.out; omega⟩, ⟨by
                  obtain ⟨i1, i2, i3, i4⟩ := HI.out
                  rw [show ((p : Int) - (bw : Int)) = ((p - (bw) : Nat) : Int) by omega]
                  refine ⟨by omega, goodL_append.2 ⟨i2, goodL_cons.2 ⟨by omega, rfl⟩⟩, by simp [i3], ?_⟩
                  have hm := HM.out
                  have e1 : (l1.take m).take (n + 1) = (l1.take m).take n := by rw [List.take_take, List.take_take, Nat.min_eq_right (by omega), Nat.min_eq_right (by omega)]
                  rw [valL_snoc, Int.toNat_natCast, i3, Nat.pow_succ, HS.out, HP.out, e1]
                  exact sub_digit0 _ _ _ _ _ _ 0 (by omega) i4⟩, HO, HB⟩

  · rw [if_neg hg] at h; cases h

end Go.Proofs.Ytkhmdpplpecgcaa.Px

namespace Go.Proofs.Ytkhmdpplpecgcaa.Px
open Fig Go.RowKit Go.Proofs.YtkhmdpplpecgcaaW.PrintWords Go.Proofs.YtkhmdpplpecgcaaW.PrintLast Go.Proofs.YtkhmdpplpecgcaaW.PrintMore
attribute [local go_sem] max2_int min2_int max_two min_two max_three min_three max_four min_four   -- for this text's walks alone

/-! ### figureheadlaw01_answers: function 25 -/
def figureheadlaw01_answers.f  : Option (Bool) := (nat_Add.f (([999999999] : List Int)) (([1] : List Int))).bind fun t391 => ((nat_Sub.f t391 (([1] : List Int))).bind fun bt397 => (if (t391.length : Int) = 2 then (if 0 < (t391.length : Int) then (if (rd t391 0) = 0 then (if 1 < (t391.length : Int) then (if (rd t391 1) = 1 then (if bt397.2 = true then (if (bt397.1.length : Int) = 1 then (if 0 < (bt397.1.length : Int) then (if (rd bt397.1 0) = 999999999 then ((nat_Cmp.f t391 bt397.1).bind fun t404 => (some (t404 == 1))) else (some false)) else (none)) else (some false)) else (some false)) else (some false)) else (none)) else (some false)) else (none)) else (some false)))
set_option maxHeartbeats 8000000 in
set_option maxRecDepth 100000 in
theorem figureheadlaw01_answers.calls  (r : Bool) (w : World) (HT : Aside0 (r = true)) (h : figureheadlaw01_answers.f  = some r) :
    Calls Try.prog 25 #[] w fun e w' => e = .returned (.bool r) ∧ Below w.heap.size w w' := by
  have HB := Aside0.mk (Below.refl w.heap.size w)
  have H : ((nat_Add.f (([999999999] : List Int)) (([1] : List Int))).bind fun t391 => ((nat_Sub.f t391 (([1] : List Int))).bind fun bt397 => (if (t391.length : Int) = 2 then (if 0 < (t391.length : Int) then (if (rd t391 0) = 0 then (if 1 < (t391.length : Int) then (if (rd t391 1) = 1 then (if bt397.2 = true then (if (bt397.1.length : Int) = 1 then (if 0 < (bt397.1.length : Int) then (if (rd bt397.1 0) = 999999999 then ((nat_Cmp.f t391 bt397.1).bind fun t404 => (some (t404 == 1))) else (some false)) else (none)) else (some false)) else (some false)) else (some false)) else (none)) else (some false)) else (none)) else (some false)))) = some r := h
  clear h
  obtain ⟨y385, hy385⟩ : ∃ y_ : List Int, y_ = (([999999999] : List Int)) := ⟨_, rfl⟩
  replace H : ((nat_Add.f y385 (([1] : List Int))).bind fun t391 => ((nat_Sub.f t391 (([1] : List Int))).bind fun bt397 => (if (t391.length : Int) = 2 then (if 0 < (t391.length : Int) then (if (rd t391 0) = 0 then (if 1 < (t391.length : Int) then (if (rd t391 1) = 1 then (if bt397.2 = true then (if (bt397.1.length : Int) = 1 then (if 0 < (bt397.1.length : Int) then (if (rd bt397.1 0) = 999999999 then ((nat_Cmp.f t391 bt397.1).bind fun t404 => (some (t404 == 1))) else (some false)) else (none)) else (some false)) else (some false)) else (some false)) else (none)) else (some false)) else (none)) else (some false)))) = some r := by first | (rw [hy385]; with_reducible exact H) | (have H2_ := (Option.bind_some _ _).symm.trans H; rw [hy385]; with_reducible exact H2_) | (have H2_ := (Option.bind_some _ _).symm.trans H; with_reducible exact H2_) | with_reducible exact H | (rw [hy385]; exact H) | exact H
  have Ny385 := Aside0.mk hy385
  clear hy385
  obtain ⟨y388, hy388⟩ : ∃ y_ : List Int, y_ = (([1] : List Int)) := ⟨_, rfl⟩
  replace H : ((nat_Add.f y385 y388).bind fun t391 => ((nat_Sub.f t391 (([1] : List Int))).bind fun bt397 => (if (t391.length : Int) = 2 then (if 0 < (t391.length : Int) then (if (rd t391 0) = 0 then (if 1 < (t391.length : Int) then (if (rd t391 1) = 1 then (if bt397.2 = true then (if (bt397.1.length : Int) = 1 then (if 0 < (bt397.1.length : Int) then (if (rd bt397.1 0) = 999999999 then ((nat_Cmp.f t391 bt397.1).bind fun t404 => (some (t404 == 1))) else (some false)) else (none)) else (some false)) else (some false)) else (some false)) else (none)) else (some false)) else (none)) else (some false)))) = some r := by first | (rw [hy388]; with_reducible exact H) | (have H2_ := (Option.bind_some _ _).symm.trans H; rw [hy388]; with_reducible exact H2_) | (have H2_ := (Option.bind_some _ _).symm.trans H; with_reducible exact H2_) | with_reducible exact H | (rw [hy388]; exact H) | exact H
  have Ny388 := Aside0.mk hy388
  clear hy388
  replace H := Option.bind_eq_some_iff.mp H
  obtain ⟨t391, A10, H⟩ := H
  replace H : ((nat_Sub.f t391 (([1] : List Int))).bind fun bt397 => (if (t391.length : Int) = 2 then (if 0 < (t391.length : Int) then (if (rd t391 0) = 0 then (if 1 < (t391.length : Int) then (if (rd t391 1) = 1 then (if bt397.2 = true then (if (bt397.1.length : Int) = 1 then (if 0 < (bt397.1.length : Int) then (if (rd bt397.1 0) = 999999999 then ((nat_Cmp.f t391 bt397.1).bind fun t404 => (some (t404 == 1))) else (some false)) else (none)) else (some false)) else (some false)) else (some false)) else (none)) else (some false)) else (none)) else (some false))) = some r := H
  have A1 := Aside0.mk A10
  clear A10
  obtain ⟨y394, hy394⟩ : ∃ y_ : List Int, y_ = (([1] : List Int)) := ⟨_, rfl⟩
  replace H : ((nat_Sub.f t391 y394).bind fun bt397 => (if (t391.length : Int) = 2 then (if 0 < (t391.length : Int) then (if (rd t391 0) = 0 then (if 1 < (t391.length : Int) then (if (rd t391 1) = 1 then (if bt397.2 = true then (if (bt397.1.length : Int) = 1 then (if 0 < (bt397.1.length : Int) then (if (rd bt397.1 0) = 999999999 then ((nat_Cmp.f t391 bt397.1).bind fun t404 => (some (t404 == 1))) else (some false)) else (none)) else (some false)) else (some false)) else (some false)) else (none)) else (some false)) else (none)) else (some false))) = some r := by first | (rw [hy394]; with_reducible exact H) | (have H2_ := (Option.bind_some _ _).symm.trans H; rw [hy394]; with_reducible exact H2_) | (have H2_ := (Option.bind_some _ _).symm.trans H; with_reducible exact H2_) | with_reducible exact H | (rw [hy394]; exact H) | exact H
  have Ny394 := Aside0.mk hy394
  clear hy394
  replace H := Option.bind_eq_some_iff.mp H
  obtain ⟨⟨t397, t398⟩, A20, H⟩ := H
  replace H : (if (t391.length : Int) = 2 then (if 0 < (t391.length : Int) then (if (rd t391 0) = 0 then (if 1 < (t391.length : Int) then (if (rd t391 1) = 1 then (if t398 = true then (if (t397.length : Int) = 1 then (if 0 < (t397.length : Int) then (if (rd t397 0) = 999999999 then ((nat_Cmp.f t391 t397).bind fun t404 => (some (t404 == 1))) else (some false)) else (none)) else (some false)) else (some false)) else (some false)) else (none)) else (some false)) else (none)) else (some false)) = some r := H
  have A2 := Aside0.mk A20
  clear A20
  by_cases c3 : (t391.length : Int) = 2
  · rw [if_pos c3] at H
    have c3b0 : ((t391.length : Int) == 2) = true := beq_iff_eq.mpr c3
    have c3b1 : ((t391.length : Int) != 2) = false := bne_eq_false_iff_eq.mpr c3
    clear c3
    by_cases c4 : 0 < (t391.length : Int)
    · rw [if_pos c4] at H
      have c4b0 : decide (0 < (t391.length : Int)) = true := decide_eq_true c4
      have c4b1 : decide (0 < t391.length) = true := decide_eq_true (by omega)
      clear c4
      by_cases c5 : (rd t391 0) = 0
      · rw [if_pos c5] at H
        have c5b0 : ((rd t391 0) == 0) = true := beq_iff_eq.mpr c5
        have c5b1 : ((rd t391 0) != 0) = false := bne_eq_false_iff_eq.mpr c5
        clear c5
        by_cases c6 : 1 < (t391.length : Int)
        · rw [if_pos c6] at H
          have c6b0 : decide (1 < (t391.length : Int)) = true := decide_eq_true c6
          have c6b1 : decide (1 < t391.length) = true := decide_eq_true (by omega)
          clear c6
          by_cases c7 : (rd t391 1) = 1
          · rw [if_pos c7] at H
            have c7b0 : ((rd t391 1) == 1) = true := beq_iff_eq.mpr c7
            have c7b1 : ((rd t391 1) != 1) = false := bne_eq_false_iff_eq.mpr c7
            clear c7
            by_cases c8 : t398 = true
            · subst c8
              have H1 : (if (t397.length : Int) = 1 then (if 0 < (t397.length : Int) then (if (rd t397 0) = 999999999 then ((nat_Cmp.f t391 t397).bind fun t404 => (some (t404 == 1))) else (some false)) else (none)) else (some false)) = some r := by rw [if_pos rfl] at H; exact H
              clear H
              have H := H1
              clear H1
              by_cases c9 : (t397.length : Int) = 1
              · rw [if_pos c9] at H
                have c9b0 : ((t397.length : Int) == 1) = true := beq_iff_eq.mpr c9
                have c9b1 : ((t397.length : Int) != 1) = false := bne_eq_false_iff_eq.mpr c9
                clear c9
                by_cases c10 : 0 < (t397.length : Int)
                · rw [if_pos c10] at H
                  have c10b0 : decide (0 < (t397.length : Int)) = true := decide_eq_true c10
                  have c10b1 : decide (0 < t397.length) = true := decide_eq_true (by omega)
                  clear c10
                  by_cases c11 : (rd t397 0) = 999999999
                  · rw [if_pos c11] at H
                    have c11b0 : ((rd t397 0) == 999999999) = true := beq_iff_eq.mpr c11
                    have c11b1 : ((rd t397 0) != 999999999) = false := bne_eq_false_iff_eq.mpr c11
                    clear c11
                    replace H := Option.bind_eq_some_iff.mp H
                    obtain ⟨t404, A120, H⟩ := H
                    replace H : (some (t404 == 1)) = some r := H
                    have A12 := Aside0.mk A120
                    clear A120
                    obtain rfl := Option.some.inj H
                    go_enter Try.func25, Try.ntmps25
                    go_wp2_with (first | ((with_reducible refine gate_dst (N := 4) rfl ?_); (try (refine gate_guard (by rfl) ?_; dsimp only)); refine Kd.R_lit (Kd.int .u32) _ 30 ?hg (N := 4) ?hd (xs := ([999999999] : List Int)) (inner := [.int .u32 999999999]) (ok := fun _ => True) (okp := fun _ => True) ?hr ?hp (fun _ hk => hk) trivial (Below.refl _ _) (Nat.le_refl _) (by simp) ?_; (case hd => rfl); (case hg => rfl); (case hr => first | (go_simp; done) | (go_simp; rfl)); (case hp => exact (Reps.one (show Kd.M (Kd.int .u32) _ _ _ 999999999 [.int .u32 999999999] from rfl) (Reps.none _ _))); intro v386 w13 ho14 hb hg_ hnew_; clear hg_ hnew_; (first | rw [← Ny385.out] at ho14 | (simp only [Int.reduceToNat] at ho14; rw [← Ny385.out] at ho14)); have n0_ := Aside0.mk (Kd.R_lower ho14 (below_size (by repeat (first | (with_reducible first | exact HB.out | apply below_alloc | apply pw_below_drewN | apply below_drew1) | exact HB.out)))); have n1_ := Aside0.mk (below_step (by repeat (first | (with_reducible first | exact HB.out | apply below_alloc | apply pw_below_drewN | apply below_drew1) | exact HB.out)) hb); clear HB; have HO387 := n0_; have HB := n1_; clear n0_ n1_; clear hb ho14) | ((with_reducible refine gate_dst (N := 5) rfl ?_); (try (refine gate_guard (by rfl) ?_; dsimp only)); refine Kd.R_lit (Kd.int .u32) _ 30 ?hg (N := 5) ?hd (xs := ([1] : List Int)) (inner := [.int .u32 1]) (ok := fun _ => True) (okp := fun _ => True) ?hr ?hp (fun _ hk => hk) trivial (Below.refl _ _) (Nat.le_refl _) (by simp) ?_; (case hd => rfl); (case hg => rfl); (case hr => first | (go_simp; done) | (go_simp; rfl)); (case hp => exact (Reps.one (show Kd.M (Kd.int .u32) _ _ _ 1 [.int .u32 1] from rfl) (Reps.none _ _))); intro v389 w15 ho16 hb hg_ hnew_; clear hg_ hnew_; (first | rw [← Ny388.out] at ho16 | (simp only [Int.reduceToNat] at ho16; rw [← Ny388.out] at ho16)); have n0_ := Aside0.mk (Kd.R_elder' (by (with_reducible repeat (first | apply Kd.R_alloc | apply Kd.R_drewN | apply Kd.R_drew)); exact HO387.out) (Kd.R_base ho16) hb); have n1_ := Aside0.mk (Kd.R_lower (Kd.R_new' ho16 (Kd.R_lt (by (with_reducible repeat (first | apply Kd.R_alloc | apply Kd.R_drewN | apply Kd.R_drew)); exact HO387.out))) (below_size (by repeat (first | (with_reducible first | exact HB.out | apply below_alloc | apply pw_below_drewN | apply below_drew1) | exact HB.out)))); have n2_ := Aside0.mk (below_step (by repeat (first | (with_reducible first | exact HB.out | apply below_alloc | apply pw_below_drewN | apply below_drew1) | exact HB.out)) hb); clear HO387; clear HB; have HO387 := n0_; have HO390 := n1_; have HB := n2_; clear n0_ n1_ n2_; clear hb ho16; obtain ⟨Ao17, co17, eo17⟩ := Kd.R_slice HO387.out; subst eo17; obtain ⟨Ao18, co18, eo18⟩ := Kd.R_slice HO390.out; subst eo18) | ((with_reducible refine gate_callee (f := 28) rfl ?_); refine goesL_ (some 6) rfl rfl Try.func28 (by kernel_rfl) rfl #[.slice Ao17 y385.length co17, .slice Ao18 y388.length co18] rfl (by (try simp only [List.map_toArray, List.map_cons, List.map_nil]); first | done | rfl | (simp only [List.length_drop, List.length_take]; rfl)) ?_; (with_reducible refine (nat_Add.calls _ _ y385 _ _ y388 t391 _ ?side1 ?side2 ?side3 ?side4 A1.out).mono ?_); (case side1 => repeat (first | exact (Kd.R_reads' HO387.out).2.2 | (with_reducible refine Kd.C_alloc ?_ _) | (with_reducible refine Kd.C_drewN ?_ _) | (with_reducible refine Kd.C_drew ?_))); (case side2 => exact (Kd.R_reads' HO387.out).2.1); (case side3 => repeat (first | exact (Kd.R_reads' HO390.out).2.2 | (with_reducible refine Kd.C_alloc ?_ _) | (with_reducible refine Kd.C_drewN ?_ _) | (with_reducible refine Kd.C_drew ?_))); (case side4 => exact (Kd.R_reads' HO390.out).2.1); rintro e w19 ⟨v392, rfl, ho0, hb⟩; refine ⟨_, rfl, ?_⟩; have n0_ := Aside0.mk (Kd.R_elder' (by (with_reducible repeat (first | apply Kd.R_alloc | apply Kd.R_drewN | apply Kd.R_drew)); exact HO387.out) (Kd.R_base ho0) hb); have n1_ := Aside0.mk (Kd.R_elder' (by (with_reducible repeat (first | apply Kd.R_alloc | apply Kd.R_drewN | apply Kd.R_drew)); exact HO390.out) (Kd.R_base ho0) hb); have n2_ := Aside0.mk (Kd.R_lower (Kd.R_new' (Kd.R_new' ho0 (Kd.R_lt (by (with_reducible repeat (first | apply Kd.R_alloc | apply Kd.R_drewN | apply Kd.R_drew)); exact HO387.out))) (Kd.R_lt (by (with_reducible repeat (first | apply Kd.R_alloc | apply Kd.R_drewN | apply Kd.R_drew)); exact HO390.out))) (below_size (by repeat (first | (with_reducible first | exact HB.out | apply below_alloc | apply pw_below_drewN | apply below_drew1) | exact HB.out)))); have n3_ := Aside0.mk (below_step (by repeat (first | (with_reducible first | exact HB.out | apply below_alloc | apply pw_below_drewN | apply below_drew1) | exact HB.out)) hb); clear HO387; clear HO390; clear HB; have HO387 := n0_; have HO390 := n1_; have HO393 := n2_; have HB := n3_; clear n0_ n1_ n2_ n3_; (try clear hb); (try clear hb2); (try clear hk); (try clear hi); (try clear ho0)) | ((with_reducible refine gate_dst (N := 9) rfl ?_); (try (refine gate_guard (by rfl) ?_; dsimp only)); refine Kd.R_lit (Kd.int .u32) _ 30 ?hg (N := 9) ?hd (xs := ([1] : List Int)) (inner := [.int .u32 1]) (ok := fun _ => True) (okp := fun _ => True) ?hr ?hp (fun _ hk => hk) trivial (Below.refl _ _) (Nat.le_refl _) (by simp) ?_; (case hd => rfl); (case hg => rfl); (case hr => first | (go_simp; done) | (go_simp; rfl)); (case hp => exact (Reps.one (show Kd.M (Kd.int .u32) _ _ _ 1 [.int .u32 1] from rfl) (Reps.none _ _))); intro v395 w20 ho21 hb hg_ hnew_; clear hg_ hnew_; (first | rw [← Ny394.out] at ho21 | (simp only [Int.reduceToNat] at ho21; rw [← Ny394.out] at ho21)); have n0_ := Aside0.mk (Kd.R_elder' (by (with_reducible repeat (first | apply Kd.R_alloc | apply Kd.R_drewN | apply Kd.R_drew)); exact HO387.out) (Kd.R_base ho21) hb); have n1_ := Aside0.mk (Kd.R_elder' (by (with_reducible repeat (first | apply Kd.R_alloc | apply Kd.R_drewN | apply Kd.R_drew)); exact HO390.out) (Kd.R_base ho21) hb); have n2_ := Aside0.mk (Kd.R_elder' (by (with_reducible repeat (first | apply Kd.R_alloc | apply Kd.R_drewN | apply Kd.R_drew)); exact HO393.out) (Kd.R_base ho21) hb); have n3_ := Aside0.mk (Kd.R_lower (Kd.R_new' (Kd.R_new' (Kd.R_new' ho21 (Kd.R_lt (by (with_reducible repeat (first | apply Kd.R_alloc | apply Kd.R_drewN | apply Kd.R_drew)); exact HO387.out))) (Kd.R_lt (by (with_reducible repeat (first | apply Kd.R_alloc | apply Kd.R_drewN | apply Kd.R_drew)); exact HO390.out))) (Kd.R_lt (by (with_reducible repeat (first | apply Kd.R_alloc | apply Kd.R_drewN | apply Kd.R_drew)); exact HO393.out))) (below_size (by repeat (first | (with_reducible first | exact HB.out | apply below_alloc | apply pw_below_drewN | apply below_drew1) | exact HB.out)))); have n4_ := Aside0.mk (below_step (by repeat (first | (with_reducible first | exact HB.out | apply below_alloc | apply pw_below_drewN | apply below_drew1) | exact HB.out)) hb); clear HO387; clear HO390; clear HO393; clear HB; have HO387 := n0_; have HO390 := n1_; have HO393 := n2_; have HO396 := n3_; have HB := n4_; clear n0_ n1_ n2_ n3_ n4_; clear hb ho21; obtain ⟨Ao22, co22, eo22⟩ := Kd.R_slice HO393.out; subst eo22; obtain ⟨Ao23, co23, eo23⟩ := Kd.R_slice HO396.out; subst eo23) | ((with_reducible refine gate_callee (f := 29) rfl ?_); refine goesL_ (some 10) rfl rfl Try.func29 (by kernel_rfl) rfl #[.slice Ao22 t391.length co22, .slice Ao23 y394.length co23] rfl (by (try simp only [List.map_toArray, List.map_cons, List.map_nil]); first | done | rfl | (simp only [List.length_drop, List.length_take]; rfl)) ?_; (with_reducible refine (nat_Sub.calls _ _ t391 _ _ y394 t397 true _ ?side1 ?side2 ?side3 ?side4 A2.out).mono ?_); (case side1 => repeat (first | exact (Kd.R_reads' HO393.out).2.2 | (with_reducible refine Kd.C_alloc ?_ _) | (with_reducible refine Kd.C_drewN ?_ _) | (with_reducible refine Kd.C_drew ?_))); (case side2 => exact (Kd.R_reads' HO393.out).2.1); (case side3 => repeat (first | exact (Kd.R_reads' HO396.out).2.2 | (with_reducible refine Kd.C_alloc ?_ _) | (with_reducible refine Kd.C_drewN ?_ _) | (with_reducible refine Kd.C_drew ?_))); (case side4 => exact (Kd.R_reads' HO396.out).2.1); rintro e w24 ⟨v399, rfl, ho0, hb⟩; refine ⟨_, rfl, ?_⟩; have n0_ := Aside0.mk (Kd.R_elder' (by (with_reducible repeat (first | apply Kd.R_alloc | apply Kd.R_drewN | apply Kd.R_drew)); exact HO387.out) (Kd.R_base ho0) hb); have n1_ := Aside0.mk (Kd.R_elder' (by (with_reducible repeat (first | apply Kd.R_alloc | apply Kd.R_drewN | apply Kd.R_drew)); exact HO390.out) (Kd.R_base ho0) hb); have n2_ := Aside0.mk (Kd.R_elder' (by (with_reducible repeat (first | apply Kd.R_alloc | apply Kd.R_drewN | apply Kd.R_drew)); exact HO393.out) (Kd.R_base ho0) hb); have n3_ := Aside0.mk (Kd.R_elder' (by (with_reducible repeat (first | apply Kd.R_alloc | apply Kd.R_drewN | apply Kd.R_drew)); exact HO396.out) (Kd.R_base ho0) hb); have n4_ := Aside0.mk (Kd.R_lower (Kd.R_new' (Kd.R_new' (Kd.R_new' (Kd.R_new' ho0 (Kd.R_lt (by (with_reducible repeat (first | apply Kd.R_alloc | apply Kd.R_drewN | apply Kd.R_drew)); exact HO387.out))) (Kd.R_lt (by (with_reducible repeat (first | apply Kd.R_alloc | apply Kd.R_drewN | apply Kd.R_drew)); exact HO390.out))) (Kd.R_lt (by (with_reducible repeat (first | apply Kd.R_alloc | apply Kd.R_drewN | apply Kd.R_drew)); exact HO393.out))) (Kd.R_lt (by (with_reducible repeat (first | apply Kd.R_alloc | apply Kd.R_drewN | apply Kd.R_drew)); exact HO396.out))) (below_size (by repeat (first | (with_reducible first | exact HB.out | apply below_alloc | apply pw_below_drewN | apply below_drew1) | exact HB.out)))); have n5_ := Aside0.mk (below_step (by repeat (first | (with_reducible first | exact HB.out | apply below_alloc | apply pw_below_drewN | apply below_drew1) | exact HB.out)) hb); clear HO387; clear HO390; clear HO393; clear HO396; clear HB; have HO387 := n0_; have HO390 := n1_; have HO393 := n2_; have HO396 := n3_; have HO400 := n4_; have HB := n5_; clear n0_ n1_ n2_ n3_ n4_ n5_; (try clear hb); (try clear hb2); (try clear hk); (try clear hi); (try clear ho0); have p401 : 0 ≤ (0 : Int) := (by omega); have q401 : 0 < (t391.length : Int) := of_decide_eq_true (by first | (with_reducible assumption) | assumption); obtain ⟨ad401, e401, hx401_0⟩ := Kd.at_int (Kd.R_reads' HO393.out).2.2 0 p401 q401; cases e401; have qi401 : (0 < t391.length) = True := eq_true (by omega); (try rw [show ((0 : Int)).toNat = 0 from rfl] at hx401_0); (try rw [Addr.add_zero'] at hx401_0); replace p401 := eq_true p401; replace q401 := eq_true q401; have p402 : 0 ≤ (1 : Int) := (by omega); have q402 : 1 < (t391.length : Int) := of_decide_eq_true (by first | (with_reducible assumption) | assumption); obtain ⟨ad402, e402, hx402_0⟩ := Kd.at_int (Kd.R_reads' HO393.out).2.2 1 p402 q402; obtain rfl : ad401 = ad402 := (by injection e402); (try simp only [show (1 : Int).toNat = 1 from rfl, Nat.reduceMul, Nat.reduceEqDiff, Go.Addr.add, ↓reduceIte] at hx402_0); have qi402 : (1 < t391.length) = True := eq_true (by omega); (try rw [show ((1 : Int)).toNat = 1 from rfl] at hx402_0); replace p402 := eq_true p402; replace q402 := eq_true q402; obtain ⟨Ao25, co25, eo25⟩ := Kd.R_slice HO400.out; subst eo25; have p403 : 0 ≤ (0 : Int) := (by omega); have q403 : 0 < (t397.length : Int) := of_decide_eq_true (by first | (with_reducible assumption) | assumption); obtain ⟨ad403, e403, hx403_0⟩ := Kd.at_int (Kd.R_reads' HO400.out).2.2 0 p403 q403; cases e403; have qi403 : (0 < t397.length) = True := eq_true (by omega); (try rw [show ((0 : Int)).toNat = 0 from rfl] at hx403_0); (try rw [Addr.add_zero'] at hx403_0); replace p403 := eq_true p403; replace q403 := eq_true q403) | ((with_reducible refine gate_dst (N := 45) rfl ?_); (try (refine gate_guard (by rfl) ?_; dsimp only)); (refine gate_guard (by rfl) ?_; dsimp only); (with_reducible refine gate_callee (f := 27) rfl ?_); refine goesL_ (some 45) rfl rfl Try.func27 (by kernel_rfl) rfl #[.slice (some ad401) t391.length co22, .slice (some ad403) t397.length co25] rfl (by (try simp only [List.map_toArray, List.map_cons, List.map_nil]); first | done | rfl | (simp only [List.length_drop, List.length_take]; rfl)) ?_; (with_reducible refine (nat_Cmp.calls _ _ t391 _ _ t397 t404 _ ?side1 ?side2 ?side3 ?side4 A12.out).mono ?_); (case side1 => repeat (first | exact (Kd.R_reads' HO393.out).2.2 | (with_reducible refine Kd.C_alloc ?_ _) | (with_reducible refine Kd.C_drewN ?_ _) | (with_reducible refine Kd.C_drew ?_))); (case side2 => exact (Kd.R_reads' HO393.out).2.1); (case side3 => repeat (first | exact (Kd.R_reads' HO400.out).2.2 | (with_reducible refine Kd.C_alloc ?_ _) | (with_reducible refine Kd.C_drewN ?_ _) | (with_reducible refine Kd.C_drew ?_))); (case side4 => exact (Kd.R_reads' HO400.out).2.1); rintro e w' ⟨rfl, ⟨nd, rfl⟩⟩; refine ⟨_, rfl, ?_⟩))
                    go_ret
                    exact ⟨by first | rfl | (simp [errW_none, errW_some] <;> rfl) | (simp [*, errW_none, errW_some] <;> rfl), by repeat (first | (with_reducible first | exact HB.out | apply below_alloc | apply pw_below_drewN | apply below_drew1) | exact HB.out)⟩
                  · rw [if_neg c11] at H
                    have c11b0 : ((rd t397 0) == 999999999) = false := beq_eq_false_iff_ne.mpr c11
                    have c11b1 : ((rd t397 0) != 999999999) = true := bne_iff_ne.mpr c11
                    exact absurd ((Option.some.inj H).trans HT.out) (by decide)
                · rw [if_neg c10] at H
                  exact absurd H (by simp)
              · rw [if_neg c9] at H
                have c9b0 : ((t397.length : Int) == 1) = false := beq_eq_false_iff_ne.mpr c9
                have c9b1 : ((t397.length : Int) != 1) = true := bne_iff_ne.mpr c9
                exact absurd ((Option.some.inj H).trans HT.out) (by decide)
            · replace c8 := Bool.eq_false_iff.mpr c8
              subst c8
              have H1 : (some false) = some r := by rw [if_neg (show ¬ (false = true) by decide)] at H; exact H
              clear H
              have H := H1
              clear H1
              exact absurd ((Option.some.inj H).trans HT.out) (by decide)
          · rw [if_neg c7] at H
            have c7b0 : ((rd t391 1) == 1) = false := beq_eq_false_iff_ne.mpr c7
            have c7b1 : ((rd t391 1) != 1) = true := bne_iff_ne.mpr c7
            exact absurd ((Option.some.inj H).trans HT.out) (by decide)
        · rw [if_neg c6] at H
          exact absurd H (by simp)
      · rw [if_neg c5] at H
        have c5b0 : ((rd t391 0) == 0) = false := beq_eq_false_iff_ne.mpr c5
        have c5b1 : ((rd t391 0) != 0) = true := bne_iff_ne.mpr c5
        exact absurd ((Option.some.inj H).trans HT.out) (by decide)
    · rw [if_neg c4] at H
      exact absurd H (by simp)
  · rw [if_neg c3] at H
    have c3b0 : ((t391.length : Int) == 2) = false := beq_eq_false_iff_ne.mpr c3
    have c3b1 : ((t391.length : Int) != 2) = true := bne_iff_ne.mpr c3
    exact absurd ((Option.some.inj H).trans HT.out) (by decide)

end Go.Proofs.Ytkhmdpplpecgcaa.Px

namespace Go.Proofs.Ytkhmdpplpecgcaa.Px
open Fig Go.RowKit Go.Proofs.YtkhmdpplpecgcaaW.PrintWords Go.Proofs.YtkhmdpplpecgcaaW.PrintLast Go.Proofs.YtkhmdpplpecgcaaW.PrintMore
attribute [local go_sem] max2_int min2_int max_two min_two max_three min_three max_four min_four   -- for this text's walks alone

/-! ### figureheadlaw01_NatGrows: function 13 -/
def figureheadlaw01_NatGrows.j0 : Nat → List Int → List Int → List Int → Option (Bool)
  | 0, _, _, _ => none
  | k + 1, x0, x1, x5 => (nat_Sub.f x0 x1).bind fun bt585 => ((figureheadlaw01_answers.f).bind fun t589 => (if t589 = true then ((nat_Cmp.f x5 x0).bind fun t590 => ((figureheadref01_Text.f k x1).bind fun t591 => (if ((t590 == 0) == (t591.toList == ([] : List UInt8))) = true then ((nat_Cmp.f x5 x0).bind fun t592 => (if t592 ≥ 0 then (if bt585.2 = true then ((nat_Add.f bt585.1 x1).bind fun t593 => ((nat_Trim.f x0).bind fun t596 => ((figureheadref01_Same.f k t593 t596).bind fun t599 => (some t599)))) else (some false)) else (some false))) else (some false)))) else (some false)))
def figureheadlaw01_NatGrows.f (k : Nat) (l0 : List Int) (l1 : List Int) : Option (Bool) := (figureheadlaw01_good.f k (([l0, l1] : List (List Int)))).bind fun t579 => (if t579 = true then ((nat_Add.f l0 l1).bind fun t581 => ((nat_Cmp.f l0 l1).bind fun t584 => (if t584 < 0 then (figureheadlaw01_NatGrows.j0 k l1 l0 t581) else (figureheadlaw01_NatGrows.j0 k l0 l1 t581)))) else ((figureheadlaw01_answers.f).bind fun t580 => (some t580)))
theorem figureheadlaw01_NatGrows.mono_l : ∀ k, (∀ y0 y1 y2, LeO (figureheadlaw01_NatGrows.j0 k y0 y1 y2) (figureheadlaw01_NatGrows.j0 (k + 1) y0 y1 y2))
  | 0 => fun _ _ _ r h => by simp [figureheadlaw01_NatGrows.j0] at h
  | k + 1 => by
    have ih0 := figureheadlaw01_NatGrows.mono_l k
    · intro y0 y1 y2
      unfold figureheadlaw01_NatGrows.j0
      repeat' first
      | (with_reducible exact ih0 _ _ _)
      | (with_reducible exact figureheadlaw01_good.mono _ _)
      | (with_reducible exact figureheadref01_Same.mono _ _ _)
      | (with_reducible exact figureheadref01_Text.mono _ _)
      | (with_reducible exact LeO.refl _)
      | (with_reducible exact LeO.none _)
      | (with_reducible refine LeO.ite ?_ ?_)
      | (with_reducible refine LeO.bind ?_ (fun _ => ?_))
      | exact ih0 _ _ _
      | exact figureheadlaw01_good.mono _ _
      | exact figureheadref01_Same.mono _ _ _
      | exact figureheadref01_Text.mono _ _
      | exact LeO.none _
      | refine LeO.ite ?_ ?_
      | refine LeO.bind ?_ (fun _ => ?_)
theorem figureheadlaw01_NatGrows.mono : ∀ a0 a1 k, LeO (figureheadlaw01_NatGrows.f k a0 a1) (figureheadlaw01_NatGrows.f (k + 1) a0 a1) := by
  intro a0 a1 k
  have ih0 := figureheadlaw01_NatGrows.mono_l k
  unfold figureheadlaw01_NatGrows.f
  repeat' first
      | (with_reducible exact ih0 _ _ _)
      | (with_reducible exact figureheadlaw01_good.mono _ _)
      | (with_reducible exact figureheadref01_Same.mono _ _ _)
      | (with_reducible exact figureheadref01_Text.mono _ _)
      | (with_reducible exact LeO.refl _)
      | (with_reducible exact LeO.none _)
      | (with_reducible refine LeO.ite ?_ ?_)
      | (with_reducible refine LeO.bind ?_ (fun _ => ?_))
      | exact ih0 _ _ _
      | exact figureheadlaw01_good.mono _ _
      | exact figureheadref01_Same.mono _ _ _
      | exact figureheadref01_Text.mono _ _
      | exact LeO.none _
      | refine LeO.ite ?_ ?_
      | refine LeO.bind ?_ (fun _ => ?_)
set_option maxHeartbeats 8000000 in
set_option maxRecDepth 100000 in
theorem figureheadlaw01_NatGrows.calls (k : Nat) (P0_ : Nat → Prop) (A0 : Option Addr) (c0 : Nat) (l0 : List Int) (P1_ : Nat → Prop) (A1 : Option Addr) (c1 : Nat) (l1 : List Int) (r : Bool) (w : World) (HT : Aside0 (r = true)) (hs0 : Kd.V (Kd.int .u32) 30 w w.heap.size (fun k_ => P0_ k_) (.slice A0 l0.length c0) l0) (hs1 : Kd.V (Kd.int .u32) 30 w w.heap.size (fun k_ => P1_ k_) (.slice A1 l1.length c1) l1) (h : figureheadlaw01_NatGrows.f k l0 l1 = some r) :
    Calls Try.prog 13 #[.slice A0 l0.length c0, .slice A1 l1.length c1] w fun e w' => e = .returned (.bool r) ∧ Below w.heap.size w w' := by
  have HO0 := Aside0.mk (show Kd.V (Kd.int .u32) 30 w w.heap.size (fun k_ => ((P0_ k_ ∨ P1_ k_) ∨ w.heap.size ≤ k_)) (.slice A0 l0.length c0) l0 from Kd.V_mono hs0 (fun k_ hk => .inl (.inl hk)))
  have HO1 := Aside0.mk (show Kd.V (Kd.int .u32) 30 w w.heap.size (fun k_ => ((P0_ k_ ∨ P1_ k_) ∨ w.heap.size ≤ k_)) (.slice A1 l1.length c1) l1 from Kd.V_mono hs1 (fun k_ hk => .inl (.inr hk)))
  have HB := Aside0.mk (Below.refl w.heap.size w)
  have H : ((figureheadlaw01_good.f k (([l0, l1] : List (List Int)))).bind fun t579 => (if t579 = true then ((nat_Add.f l0 l1).bind fun t581 => ((nat_Cmp.f l0 l1).bind fun t584 => (if t584 < 0 then (figureheadlaw01_NatGrows.j0 k l1 l0 t581) else (figureheadlaw01_NatGrows.j0 k l0 l1 t581)))) else ((figureheadlaw01_answers.f).bind fun t580 => (some t580)))) = some r := h
  clear h
  obtain ⟨y576, hy576⟩ : ∃ y_ : List (List Int), y_ = (([l0, l1] : List (List Int))) := ⟨_, rfl⟩
  replace H : ((figureheadlaw01_good.f k y576).bind fun t579 => (if t579 = true then ((nat_Add.f l0 l1).bind fun t581 => ((nat_Cmp.f l0 l1).bind fun t584 => (if t584 < 0 then (figureheadlaw01_NatGrows.j0 k l1 l0 t581) else (figureheadlaw01_NatGrows.j0 k l0 l1 t581)))) else ((figureheadlaw01_answers.f).bind fun t580 => (some t580)))) = some r := by first | (rw [hy576]; with_reducible exact H) | (have H2_ := (Option.bind_some _ _).symm.trans H; rw [hy576]; with_reducible exact H2_) | (have H2_ := (Option.bind_some _ _).symm.trans H; with_reducible exact H2_) | with_reducible exact H | (rw [hy576]; exact H) | exact H
  have Ny576 := Aside0.mk hy576
  clear hy576
  replace H := Option.bind_eq_some_iff.mp H
  obtain ⟨t579, A30, H⟩ := H
  replace H : (if t579 = true then ((nat_Add.f l0 l1).bind fun t581 => ((nat_Cmp.f l0 l1).bind fun t584 => (if t584 < 0 then (figureheadlaw01_NatGrows.j0 k l1 l0 t581) else (figureheadlaw01_NatGrows.j0 k l0 l1 t581)))) else ((figureheadlaw01_answers.f).bind fun t580 => (some t580))) = some r := H
  have A3 := Aside0.mk A30
  clear A30
  by_cases c4 : t579 = true
  · subst c4
    have H1 : ((nat_Add.f l0 l1).bind fun t581 => ((nat_Cmp.f l0 l1).bind fun t584 => (if t584 < 0 then (figureheadlaw01_NatGrows.j0 k l1 l0 t581) else (figureheadlaw01_NatGrows.j0 k l0 l1 t581)))) = some r := by rw [if_pos rfl] at H; exact H
    clear H
    have H := H1
    clear H1
    replace H := Option.bind_eq_some_iff.mp H
    obtain ⟨t581, A50, H⟩ := H
    replace H : ((nat_Cmp.f l0 l1).bind fun t584 => (if t584 < 0 then (figureheadlaw01_NatGrows.j0 k l1 l0 t581) else (figureheadlaw01_NatGrows.j0 k l0 l1 t581))) = some r := H
    have A5 := Aside0.mk A50
    clear A50
    replace H := Option.bind_eq_some_iff.mp H
    obtain ⟨t584, A60, H⟩ := H
    replace H : (if t584 < 0 then (figureheadlaw01_NatGrows.j0 k l1 l0 t581) else (figureheadlaw01_NatGrows.j0 k l0 l1 t581)) = some r := H
    have A6 := Aside0.mk A60
    clear A60
    have HC7 := Aside0.mk H
    clear H
    go_enter Try.func13, Try.ntmps13
    go_upto_if 20 with (first | ((with_reducible refine gate_dst (N := 10) rfl ?_); refine Kd.N_lit (Kd.slice 30 (Kd.int .u32)) _ 22 ?hg (N' := 10) ?hd (xs := ([l0, l1] : List (List Int))) (inner := [.slice A0 l0.length c0, .slice A1 l1.length c1]) (ok := (fun k_ => ((P0_ k_ ∨ P1_ k_) ∨ w.heap.size ≤ k_))) (okp := (fun k_ => ((P0_ k_ ∨ P1_ k_) ∨ w.heap.size ≤ k_))) ?hr ?hp (fun _ hk => hk) ((show ∀ k_, w.heap.size ≤ k_ → (fun k_ => ((P0_ k_ ∨ P1_ k_) ∨ w.heap.size ≤ k_)) k_ from fun k_ hk => (.inr (Nat.le_trans (below_size (by repeat (first | (with_reducible first | exact HB.out | apply below_alloc | apply pw_below_drewN | apply below_drew1) | exact HB.out))) hk))) _ (Nat.le_refl _)) (Below.refl _ _) (Nat.le_refl _) (by simp) ?_; (case hd => rfl); (case hg => rfl); (case hr => first | (go_simp; done) | (go_simp; rfl)); (case hp => exact (Reps.one (show Kd.FK (Kd.slice 30 (Kd.int .u32)) _ _ l0 [.slice A0 l0.length c0] from (Kd.FK_slice_mk (Kd.V_reads' (Kd.V_mono (ok' := (fun k_ => ((P0_ k_ ∨ P1_ k_) ∨ w.heap.size ≤ k_))) (HO0.out) (fun k_ hk => hk))).2.1 (Kd.V_F (Kd.V_mono (ok' := (fun k_ => ((P0_ k_ ∨ P1_ k_) ∨ w.heap.size ≤ k_))) (HO0.out) (fun k_ hk => hk))))) (Reps.one (show Kd.FK (Kd.slice 30 (Kd.int .u32)) _ _ l1 [.slice A1 l1.length c1] from (Kd.FK_slice_mk (Kd.V_reads' (Kd.V_mono (ok' := (fun k_ => ((P0_ k_ ∨ P1_ k_) ∨ w.heap.size ≤ k_))) (HO1.out) (fun k_ hk => hk))).2.1 (Kd.V_F (Kd.V_mono (ok' := (fun k_ => ((P0_ k_ ∨ P1_ k_) ∨ w.heap.size ≤ k_))) (HO1.out) (fun k_ hk => hk))))) (Reps.none _ _)))); intro v577 w8 ho9 hb hg_ hnew_; clear hg_ hnew_; (first | rw [← Ny576.out] at ho9 | (simp only [Int.reduceToNat] at ho9; rw [← Ny576.out] at ho9)); have n0_ := Aside0.mk (Kd.V_elder' (by (with_reducible repeat (first | apply Kd.V_alloc | apply Kd.V_drewN | apply Kd.V_drew)); exact HO0.out) (Kd.N_base ho9) hb); have n1_ := Aside0.mk (Kd.V_elder' (by (with_reducible repeat (first | apply Kd.V_alloc | apply Kd.V_drewN | apply Kd.V_drew)); exact HO1.out) (Kd.N_base ho9) hb); have n2_ := Aside0.mk (Kd.N_lower ho9 (below_size (by repeat (first | (with_reducible first | exact HB.out | apply below_alloc | apply pw_below_drewN | apply below_drew1) | exact HB.out)))); have n3_ := Aside0.mk (below_step (by repeat (first | (with_reducible first | exact HB.out | apply below_alloc | apply pw_below_drewN | apply below_drew1) | exact HB.out)) hb); clear HO0; clear HO1; clear HB; have HO0 := n0_; have HO1 := n1_; have HO578 := n2_; have HB := n3_; clear n0_ n1_ n2_ n3_; clear hb ho9; obtain ⟨Ao10, co10, eo10⟩ := Kd.N_slice HO578.out; subst eo10) | ((with_reducible refine gate_callee (f := 24) rfl ?_); refine goesL_ (some 11) rfl rfl Try.func24 (by kernel_rfl) rfl #[.slice Ao10 y576.length co10] rfl (by (try simp only [List.map_toArray, List.map_cons, List.map_nil]); first | done | rfl | (simp only [List.length_drop, List.length_take]; rfl)) ?_; (with_reducible refine (figureheadlaw01_good.calls k _ _ y576 true _ ?side1 ?side2 A3.out).mono ?_); (case side1 => repeat (first | exact (Kd.N_reads' HO578.out).2.2 | (with_reducible refine Kd.C_alloc ?_ _) | (with_reducible refine Kd.C_drewN ?_ _) | (with_reducible refine Kd.C_drew ?_))); (case side2 => exact (Kd.N_reads' HO578.out).2.1); rintro e w' ⟨rfl, ⟨nd, rfl⟩⟩; refine ⟨_, rfl, ?_⟩) | ((with_reducible refine gate_callee (f := 28) rfl ?_); refine goesL_ (some 16) rfl rfl Try.func28 (by kernel_rfl) rfl #[.slice A0 l0.length c0, .slice A1 l1.length c1] rfl (by (try simp only [List.map_toArray, List.map_cons, List.map_nil]); first | done | rfl | (simp only [List.length_drop, List.length_take]; rfl)) ?_; (with_reducible refine (nat_Add.calls _ _ l0 _ _ l1 t581 _ ?side1 ?side2 ?side3 ?side4 A5.out).mono ?_); (case side1 => repeat (first | exact (Kd.V_reads' HO0.out).2.2 | (with_reducible refine Kd.C_alloc ?_ _) | (with_reducible refine Kd.C_drewN ?_ _) | (with_reducible refine Kd.C_drew ?_))); (case side2 => exact (Kd.V_reads' HO0.out).2.1); (case side3 => repeat (first | exact (Kd.V_reads' HO1.out).2.2 | (with_reducible refine Kd.C_alloc ?_ _) | (with_reducible refine Kd.C_drewN ?_ _) | (with_reducible refine Kd.C_drew ?_))); (case side4 => exact (Kd.V_reads' HO1.out).2.1); rintro e w11 ⟨v582, rfl, ho0, hb⟩; refine ⟨_, rfl, ?_⟩; have n0_ := Aside0.mk (Kd.V_elder' (by (with_reducible repeat (first | apply Kd.V_alloc | apply Kd.V_drewN | apply Kd.V_drew)); exact HO0.out) (Kd.R_base ho0) hb); have n1_ := Aside0.mk (Kd.V_elder' (by (with_reducible repeat (first | apply Kd.V_alloc | apply Kd.V_drewN | apply Kd.V_drew)); exact HO1.out) (Kd.R_base ho0) hb); have n2_ := Aside0.mk (Kd.N_elder' (by (with_reducible repeat (first | apply Kd.N_alloc | apply Kd.N_drewN | apply Kd.N_drew)); exact HO578.out) (Kd.R_base ho0) hb); have n3_ := Aside0.mk (Kd.R_lower (Kd.R_newM (M := fun k_ => (w.heap.size ≤ k_)) ho0 (below_size (by repeat (first | (with_reducible first | exact HB.out | apply below_alloc | apply pw_below_drewN | apply below_drew1) | exact HB.out))) (fun k_ h_ => h_)) (below_size (by repeat (first | (with_reducible first | exact HB.out | apply below_alloc | apply pw_below_drewN | apply below_drew1) | exact HB.out)))); have n4_ := Aside0.mk (below_step (by repeat (first | (with_reducible first | exact HB.out | apply below_alloc | apply pw_below_drewN | apply below_drew1) | exact HB.out)) hb); clear HO0; clear HO1; clear HO578; clear HB; have HO0 := n0_; have HO1 := n1_; have HO578 := n2_; have HO583 := n3_; have HB := n4_; clear n0_ n1_ n2_ n3_ n4_; (try clear hb); (try clear hb2); (try clear hk); (try clear hi); (try clear ho0)) | ((with_reducible refine gate_callee (f := 27) rfl ?_); refine goesL_ (some 19) rfl rfl Try.func27 (by kernel_rfl) rfl #[.slice A0 l0.length c0, .slice A1 l1.length c1] rfl (by (try simp only [List.map_toArray, List.map_cons, List.map_nil]); first | done | rfl | (simp only [List.length_drop, List.length_take]; rfl)) ?_; (with_reducible refine (nat_Cmp.calls _ _ l0 _ _ l1 t584 _ ?side1 ?side2 ?side3 ?side4 A6.out).mono ?_); (case side1 => repeat (first | exact (Kd.V_reads' HO0.out).2.2 | (with_reducible refine Kd.C_alloc ?_ _) | (with_reducible refine Kd.C_drewN ?_ _) | (with_reducible refine Kd.C_drew ?_))); (case side2 => exact (Kd.V_reads' HO0.out).2.1); (case side3 => repeat (first | exact (Kd.V_reads' HO1.out).2.2 | (with_reducible refine Kd.C_alloc ?_ _) | (with_reducible refine Kd.C_drewN ?_ _) | (with_reducible refine Kd.C_drew ?_))); (case side4 => exact (Kd.V_reads' HO1.out).2.1); rintro e w' ⟨rfl, ⟨nd, rfl⟩⟩; refine ⟨_, rfl, ?_⟩))
    (try simp only [Act.put, List.setIfInBounds_toArray, List.set_cons_zero, List.set_cons_succ])
    go_cut [0, 1] (fun v0 v1 wc => ∃ (kq : Nat) (x0_6 : List Int) (x1_6 : List Int), Aside0 (figureheadlaw01_NatGrows.j0 kq x0_6 x1_6 t581 = some r) ∧ Aside0 (kq ≤ k) ∧ Aside0 (Kd.V (Kd.int .u32) 30 wc w.heap.size (fun k_ => ((P0_ k_ ∨ P1_ k_) ∨ w.heap.size ≤ k_) ∧ some k_ ≠ (v582 : Value).ownBlock) v0 x0_6) ∧ Aside0 (Kd.V (Kd.int .u32) 30 wc w.heap.size (fun k_ => ((P0_ k_ ∨ P1_ k_) ∨ w.heap.size ≤ k_) ∧ some k_ ≠ (v582 : Value).ownBlock) v1 x1_6) ∧ Aside0 (Kd.R (Kd.int .u32) 30 wc w.heap.size (fun k_ => (w.heap.size ≤ k_)) v582 t581) ∧ Aside0 (Below w.heap.size w wc))
    case first =>
      have H := HC7.out
      clear HC7
      by_cases c12 : t584 < 0
      · rw [if_pos c12] at H
        have c12b0 : decide (t584 < 0) = true := decide_eq_true c12
        clear c12
        (first | rw [c12b0] | (simp only [i64_w, i32_w]; rw [c12b0]) | skip)
        have H' := Aside0.mk H
        clear H
        go_wp2
        go_meet
        case rel => exact ⟨_, (l1), (l0), H', ⟨by first | omega | exact Nat.le_refl _⟩, ⟨by (with_reducible repeat (first | apply Kd.V_alloc | apply Kd.V_drewN | apply Kd.V_drew)); exact Kd.V_mono HO1.out (fun _ hk => ⟨hk.1.1, hk.2⟩)⟩, ⟨by (with_reducible repeat (first | apply Kd.V_alloc | apply Kd.V_drewN | apply Kd.V_drew)); exact Kd.V_mono HO0.out (fun _ hk => ⟨hk.1.1, hk.2⟩)⟩, ⟨by (with_reducible repeat (first | apply Kd.R_alloc | apply Kd.R_drewN | apply Kd.R_drew)); exact Kd.R_mono HO583.out (fun _ hk => hk.1)⟩, ⟨by repeat (first | (with_reducible first | exact HB.out | apply below_alloc | apply pw_below_drewN | apply below_drew1) | exact HB.out)⟩⟩
      · rw [if_neg c12] at H
        have c12b0 : decide (t584 < 0) = false := decide_eq_false c12
        clear c12
        (first | rw [c12b0] | (simp only [i64_w, i32_w]; rw [c12b0]) | skip)
        have H' := Aside0.mk H
        clear H
        go_wp2
        go_meet
        case rel => exact ⟨_, (l0), (l1), H', ⟨by first | omega | exact Nat.le_refl _⟩, ⟨by (with_reducible repeat (first | apply Kd.V_alloc | apply Kd.V_drewN | apply Kd.V_drew)); exact Kd.V_mono HO0.out (fun _ hk => ⟨hk.1.1, hk.2⟩)⟩, ⟨by (with_reducible repeat (first | apply Kd.V_alloc | apply Kd.V_drewN | apply Kd.V_drew)); exact Kd.V_mono HO1.out (fun _ hk => ⟨hk.1.1, hk.2⟩)⟩, ⟨by (with_reducible repeat (first | apply Kd.R_alloc | apply Kd.R_drewN | apply Kd.R_drew)); exact Kd.R_mono HO583.out (fun _ hk => hk.1)⟩, ⟨by repeat (first | (with_reducible first | exact HB.out | apply below_alloc | apply pw_below_drewN | apply below_drew1) | exact HB.out)⟩⟩
    case rest =>
      clear HC7
      try clear c1
      try clear c2
      try clear p2
      try clear c4
      try clear c12
      try clear c12b0
      obtain ⟨kq, x0_6, x1_6, HA, HJ6, HO_0, HO_1, HO_5, HB⟩ := hcut
      cases kq with
      | zero => exact absurd HA.out (by simp [figureheadlaw01_NatGrows.j0])
      | succ kj6 =>
        have H := HA.out
        clear HA
        simp only [figureheadlaw01_NatGrows.j0] at H
        replace H := Option.bind_eq_some_iff.mp H
        obtain ⟨⟨t585, t586⟩, A130, H⟩ := H
        replace H : ((figureheadlaw01_answers.f).bind fun t589 => (if t589 = true then ((nat_Cmp.f t581 x0_6).bind fun t590 => ((figureheadref01_Text.f kj6 x1_6).bind fun t591 => (if ((t590 == 0) == (t591.toList == ([] : List UInt8))) = true then ((nat_Cmp.f t581 x0_6).bind fun t592 => (if t592 ≥ 0 then (if t586 = true then ((nat_Add.f t585 x1_6).bind fun t593 => ((nat_Trim.f x0_6).bind fun t596 => ((figureheadref01_Same.f kj6 t593 t596).bind fun t599 => (some t599)))) else (some false)) else (some false))) else (some false)))) else (some false))) = some r := H
        have A13 := Aside0.mk A130
        clear A130
        replace H := Option.bind_eq_some_iff.mp H
        obtain ⟨t589, A140, H⟩ := H
        replace H : (if t589 = true then ((nat_Cmp.f t581 x0_6).bind fun t590 => ((figureheadref01_Text.f kj6 x1_6).bind fun t591 => (if ((t590 == 0) == (t591.toList == ([] : List UInt8))) = true then ((nat_Cmp.f t581 x0_6).bind fun t592 => (if t592 ≥ 0 then (if t586 = true then ((nat_Add.f t585 x1_6).bind fun t593 => ((nat_Trim.f x0_6).bind fun t596 => ((figureheadref01_Same.f kj6 t593 t596).bind fun t599 => (some t599)))) else (some false)) else (some false))) else (some false)))) else (some false)) = some r := H
        have A14 := Aside0.mk A140
        clear A140
        by_cases c15 : t589 = true
        · subst c15
          have H1 : ((nat_Cmp.f t581 x0_6).bind fun t590 => ((figureheadref01_Text.f kj6 x1_6).bind fun t591 => (if ((t590 == 0) == (t591.toList == ([] : List UInt8))) = true then ((nat_Cmp.f t581 x0_6).bind fun t592 => (if t592 ≥ 0 then (if t586 = true then ((nat_Add.f t585 x1_6).bind fun t593 => ((nat_Trim.f x0_6).bind fun t596 => ((figureheadref01_Same.f kj6 t593 t596).bind fun t599 => (some t599)))) else (some false)) else (some false))) else (some false)))) = some r := by rw [if_pos rfl] at H; exact H
          clear H
          have H := H1
          clear H1
          replace H := Option.bind_eq_some_iff.mp H
          obtain ⟨t590, A160, H⟩ := H
          replace H : ((figureheadref01_Text.f kj6 x1_6).bind fun t591 => (if ((t590 == 0) == (t591.toList == ([] : List UInt8))) = true then ((nat_Cmp.f t581 x0_6).bind fun t592 => (if t592 ≥ 0 then (if t586 = true then ((nat_Add.f t585 x1_6).bind fun t593 => ((nat_Trim.f x0_6).bind fun t596 => ((figureheadref01_Same.f kj6 t593 t596).bind fun t599 => (some t599)))) else (some false)) else (some false))) else (some false))) = some r := H
          have A16 := Aside0.mk A160
          clear A160
          replace H := Option.bind_eq_some_iff.mp H
          obtain ⟨t591, A170, H⟩ := H
          replace H : (if ((t590 == 0) == (t591.toList == ([] : List UInt8))) = true then ((nat_Cmp.f t581 x0_6).bind fun t592 => (if t592 ≥ 0 then (if t586 = true then ((nat_Add.f t585 x1_6).bind fun t593 => ((nat_Trim.f x0_6).bind fun t596 => ((figureheadref01_Same.f kj6 t593 t596).bind fun t599 => (some t599)))) else (some false)) else (some false))) else (some false)) = some r := H
          have A17 := Aside0.mk A170
          clear A170
          by_cases c18 : ((t590 == 0) == (t591.toList == ([] : List UInt8))) = true
          · rw [if_pos c18] at H
            have c18b0 : ((t590 == 0) == (t591.toList == ([] : List UInt8))) = true := c18
            (try (have c18b1 : decide ((t590 == 0) = (t591.toList == ([] : List UInt8))) = true := by simpa using c18))
            (try (have c18b2 : ((t590 == 0) == (t591.toList == ([] : List UInt8))) = true := by simpa using c18))
            (try (have c18b3 : ((t590 == 0) == (t591.toList.isEmpty)) = true := by simpa [show ∀ l : List UInt8, (l == []) = l.isEmpty from fun l => by cases l <;> rfl] using c18))
            clear c18
            replace H := Option.bind_eq_some_iff.mp H
            obtain ⟨t592, A190, H⟩ := H
            replace H : (if t592 ≥ 0 then (if t586 = true then ((nat_Add.f t585 x1_6).bind fun t593 => ((nat_Trim.f x0_6).bind fun t596 => ((figureheadref01_Same.f kj6 t593 t596).bind fun t599 => (some t599)))) else (some false)) else (some false)) = some r := H
            have A19 := Aside0.mk A190
            clear A190
            by_cases c20 : t592 ≥ 0
            · rw [if_pos c20] at H
              have c20b0 : decide (0 ≤ t592) = true := decide_eq_true c20
              clear c20
              by_cases c21 : t586 = true
              · subst c21
                have H1 : ((nat_Add.f t585 x1_6).bind fun t593 => ((nat_Trim.f x0_6).bind fun t596 => ((figureheadref01_Same.f kj6 t593 t596).bind fun t599 => (some t599)))) = some r := by rw [if_pos rfl] at H; exact H
                clear H
                have H := H1
                clear H1
                replace H := Option.bind_eq_some_iff.mp H
                obtain ⟨t593, A220, H⟩ := H
                replace H : ((nat_Trim.f x0_6).bind fun t596 => ((figureheadref01_Same.f kj6 t593 t596).bind fun t599 => (some t599))) = some r := H
                have A22 := Aside0.mk A220
                clear A220
                replace H := Option.bind_eq_some_iff.mp H
                obtain ⟨t596, A230, H⟩ := H
                replace H : ((figureheadref01_Same.f kj6 t593 t596).bind fun t599 => (some t599)) = some r := H
                have A23 := Aside0.mk A230
                clear A230
                replace H := Option.bind_eq_some_iff.mp H
                obtain ⟨t599, A240, H⟩ := H
                replace H : (some t599) = some r := H
                have A24 := Aside0.mk A240
                clear A240
                obtain rfl := Option.some.inj H
                obtain ⟨Ao25, co25, eo25⟩ := Kd.V_slice HO_0.out
                subst eo25
                obtain ⟨Ao26, co26, eo26⟩ := Kd.V_slice HO_1.out
                subst eo26
                go_wp2_with (first | ((with_reducible refine gate_callee (f := 29) rfl ?_); refine goesL_ (some 26) rfl rfl Try.func29 (by kernel_rfl) rfl #[.slice Ao25 x0_6.length co25, .slice Ao26 x1_6.length co26] rfl (by (try simp only [List.map_toArray, List.map_cons, List.map_nil]); first | done | rfl | (simp only [List.length_drop, List.length_take]; rfl)) ?_; (with_reducible refine (nat_Sub.calls _ _ x0_6 _ _ x1_6 t585 true _ ?side1 ?side2 ?side3 ?side4 A13.out).mono ?_); (case side1 => repeat (first | exact (Kd.V_reads' HO_0.out).2.2 | (with_reducible refine Kd.C_alloc ?_ _) | (with_reducible refine Kd.C_drewN ?_ _) | (with_reducible refine Kd.C_drew ?_))); (case side2 => exact (Kd.V_reads' HO_0.out).2.1); (case side3 => repeat (first | exact (Kd.V_reads' HO_1.out).2.2 | (with_reducible refine Kd.C_alloc ?_ _) | (with_reducible refine Kd.C_drewN ?_ _) | (with_reducible refine Kd.C_drew ?_))); (case side4 => exact (Kd.V_reads' HO_1.out).2.1); rintro e w27 ⟨v587, rfl, ho0, hb⟩; refine ⟨_, rfl, ?_⟩; have n0_ := Aside0.mk (Kd.V_elder' (by (with_reducible repeat (first | apply Kd.V_alloc | apply Kd.V_drewN | apply Kd.V_drew)); exact HO_0.out) (Kd.R_base ho0) hb); have n1_ := Aside0.mk (Kd.V_elder' (by (with_reducible repeat (first | apply Kd.V_alloc | apply Kd.V_drewN | apply Kd.V_drew)); exact HO_1.out) (Kd.R_base ho0) hb); have n2_ := Aside0.mk (Kd.R_elder' (by (with_reducible repeat (first | apply Kd.R_alloc | apply Kd.R_drewN | apply Kd.R_drew)); exact HO_5.out) (Kd.R_base ho0) hb); have n3_ := Aside0.mk (Kd.R_lower (Kd.R_new' (Kd.R_newM (M := fun k_ => (w.heap.size ≤ k_)) ho0 (below_size (by repeat (first | (with_reducible first | exact HB.out | apply below_alloc | apply pw_below_drewN | apply below_drew1) | exact HB.out))) (fun k_ h_ => h_)) (Kd.R_lt (by (with_reducible repeat (first | apply Kd.R_alloc | apply Kd.R_drewN | apply Kd.R_drew)); exact HO_5.out))) (below_size (by repeat (first | (with_reducible first | exact HB.out | apply below_alloc | apply pw_below_drewN | apply below_drew1) | exact HB.out)))); have n4_ := Aside0.mk (below_step (by repeat (first | (with_reducible first | exact HB.out | apply below_alloc | apply pw_below_drewN | apply below_drew1) | exact HB.out)) hb); clear HO_0; clear HO_1; clear HO_5; clear HB; have HO_0 := n0_; have HO_1 := n1_; have HO_5 := n2_; have HO588 := n3_; have HB := n4_; clear n0_ n1_ n2_ n3_ n4_; (try clear hb); (try clear hb2); (try clear hk); (try clear hi); (try clear ho0)) | ((with_reducible refine gate_callee (f := 25) rfl ?_); refine goesL_ (some 29) rfl rfl Try.func25 (by kernel_rfl) rfl #[] rfl (by (try simp only [List.map_toArray, List.map_cons, List.map_nil]); first | done | rfl | (simp only [List.length_drop, List.length_take]; rfl)) ?_; (with_reducible refine (figureheadlaw01_answers.calls  true _ ?side1 A14.out).mono ?_); (case side1 => exact ⟨by first | rfl | exact HT.out⟩); rintro e w28 ⟨rfl, hb⟩; refine ⟨_, rfl, ?_⟩; have n0_ := Aside0.mk (Kd.V_below (by (with_reducible repeat (first | apply Kd.V_alloc | apply Kd.V_drewN | apply Kd.V_drew)); exact HO_0.out) hb); have n1_ := Aside0.mk (Kd.V_below (by (with_reducible repeat (first | apply Kd.V_alloc | apply Kd.V_drewN | apply Kd.V_drew)); exact HO_1.out) hb); have n2_ := Aside0.mk (Kd.R_below (by (with_reducible repeat (first | apply Kd.R_alloc | apply Kd.R_drewN | apply Kd.R_drew)); exact HO_5.out) hb); have n3_ := Aside0.mk (Kd.R_below (by (with_reducible repeat (first | apply Kd.R_alloc | apply Kd.R_drewN | apply Kd.R_drew)); exact HO588.out) hb); have n4_ := Aside0.mk (below_step (by repeat (first | (with_reducible first | exact HB.out | apply below_alloc | apply pw_below_drewN | apply below_drew1) | exact HB.out)) hb); clear HO_0; clear HO_1; clear HO_5; clear HO588; clear HB; have HO_0 := n0_; have HO_1 := n1_; have HO_5 := n2_; have HO588 := n3_; have HB := n4_; clear n0_ n1_ n2_ n3_ n4_; (try clear hb); (try clear hb2); (try clear hk); (try clear hi); obtain ⟨Ao29, co29, eo29⟩ := Kd.R_slice HO_5.out; subst eo29) | ((with_reducible refine gate_dst (N := 33) rfl ?_); (refine gate_guard (by rfl) ?_; dsimp only); (with_reducible refine gate_callee (f := 27) rfl ?_); refine goesL_ (some 33) rfl rfl Try.func27 (by kernel_rfl) rfl #[.slice Ao29 t581.length co29, .slice Ao25 x0_6.length co25] rfl (by (try simp only [List.map_toArray, List.map_cons, List.map_nil]); first | done | rfl | (simp only [List.length_drop, List.length_take]; rfl)) ?_; (with_reducible refine (nat_Cmp.calls _ _ t581 _ _ x0_6 t590 _ ?side1 ?side2 ?side3 ?side4 A16.out).mono ?_); (case side1 => repeat (first | exact (Kd.R_reads' HO_5.out).2.2 | (with_reducible refine Kd.C_alloc ?_ _) | (with_reducible refine Kd.C_drewN ?_ _) | (with_reducible refine Kd.C_drew ?_))); (case side2 => exact (Kd.R_reads' HO_5.out).2.1); (case side3 => repeat (first | exact (Kd.V_reads' HO_0.out).2.2 | (with_reducible refine Kd.C_alloc ?_ _) | (with_reducible refine Kd.C_drewN ?_ _) | (with_reducible refine Kd.C_drew ?_))); (case side4 => exact (Kd.V_reads' HO_0.out).2.1); rintro e w' ⟨rfl, ⟨nd, rfl⟩⟩; refine ⟨_, rfl, ?_⟩) | ((with_reducible refine gate_dst (N := 36) rfl ?_); (refine gate_guard (by rfl) ?_; dsimp only); (with_reducible refine gate_callee (f := 21) rfl ?_); refine goesL_ (some 36) rfl rfl Try.func21 (by kernel_rfl) rfl #[.slice Ao26 x1_6.length co26] rfl (by (try simp only [List.map_toArray, List.map_cons, List.map_nil]); first | done | rfl | (simp only [List.length_drop, List.length_take]; rfl)) ?_; (with_reducible refine (figureheadref01_Text.calls kj6 _ _ x1_6 t591 _ ?side1 ?side2 A17.out).mono ?_); (case side1 => repeat (first | exact (Kd.V_reads' HO_1.out).2.2 | (with_reducible refine Kd.C_alloc ?_ _) | (with_reducible refine Kd.C_drewN ?_ _) | (with_reducible refine Kd.C_drew ?_))); (case side2 => exact (Kd.V_reads' HO_1.out).2.1); rintro e w30 ⟨rfl, hb⟩; refine ⟨_, rfl, ?_⟩; have n0_ := Aside0.mk (Kd.V_below (by (with_reducible repeat (first | apply Kd.V_alloc | apply Kd.V_drewN | apply Kd.V_drew)); exact HO_0.out) hb); have n1_ := Aside0.mk (Kd.V_below (by (with_reducible repeat (first | apply Kd.V_alloc | apply Kd.V_drewN | apply Kd.V_drew)); exact HO_1.out) hb); have n2_ := Aside0.mk (Kd.R_below (by (with_reducible repeat (first | apply Kd.R_alloc | apply Kd.R_drewN | apply Kd.R_drew)); exact HO_5.out) hb); have n3_ := Aside0.mk (Kd.R_below (by (with_reducible repeat (first | apply Kd.R_alloc | apply Kd.R_drewN | apply Kd.R_drew)); exact HO588.out) hb); have n4_ := Aside0.mk (below_step (by repeat (first | (with_reducible first | exact HB.out | apply below_alloc | apply pw_below_drewN | apply below_drew1) | exact HB.out)) hb); clear HO_0; clear HO_1; clear HO_5; clear HO588; clear HB; have HO_0 := n0_; have HO_1 := n1_; have HO_5 := n2_; have HO588 := n3_; have HB := n4_; clear n0_ n1_ n2_ n3_ n4_; (try clear hb); (try clear hb2); (try clear hk); (try clear hi)) | ((with_reducible refine gate_dst (N := 43) rfl ?_); (refine gate_guard (by rfl) ?_; dsimp only); (with_reducible refine gate_callee (f := 27) rfl ?_); refine goesL_ (some 43) rfl rfl Try.func27 (by kernel_rfl) rfl #[.slice Ao29 t581.length co29, .slice Ao25 x0_6.length co25] rfl (by (try simp only [List.map_toArray, List.map_cons, List.map_nil]); first | done | rfl | (simp only [List.length_drop, List.length_take]; rfl)) ?_; (with_reducible refine (nat_Cmp.calls _ _ t581 _ _ x0_6 t592 _ ?side1 ?side2 ?side3 ?side4 A19.out).mono ?_); (case side1 => repeat (first | exact (Kd.R_reads' HO_5.out).2.2 | (with_reducible refine Kd.C_alloc ?_ _) | (with_reducible refine Kd.C_drewN ?_ _) | (with_reducible refine Kd.C_drew ?_))); (case side2 => exact (Kd.R_reads' HO_5.out).2.1); (case side3 => repeat (first | exact (Kd.V_reads' HO_0.out).2.2 | (with_reducible refine Kd.C_alloc ?_ _) | (with_reducible refine Kd.C_drewN ?_ _) | (with_reducible refine Kd.C_drew ?_))); (case side4 => exact (Kd.V_reads' HO_0.out).2.1); rintro e w' ⟨rfl, ⟨nd, rfl⟩⟩; refine ⟨_, rfl, ?_⟩; obtain ⟨Ao31, co31, eo31⟩ := Kd.R_slice HO588.out; subst eo31) | ((with_reducible refine gate_dst (N := 52) rfl ?_); (refine gate_guard (by rfl) ?_; dsimp only); (with_reducible refine gate_callee (f := 28) rfl ?_); refine goesL_ (some 52) rfl rfl Try.func28 (by kernel_rfl) rfl #[.slice Ao31 t585.length co31, .slice Ao26 x1_6.length co26] rfl (by (try simp only [List.map_toArray, List.map_cons, List.map_nil]); first | done | rfl | (simp only [List.length_drop, List.length_take]; rfl)) ?_; (with_reducible refine (nat_Add.calls _ _ t585 _ _ x1_6 t593 _ ?side1 ?side2 ?side3 ?side4 A22.out).mono ?_); (case side1 => repeat (first | exact (Kd.R_reads' HO588.out).2.2 | (with_reducible refine Kd.C_alloc ?_ _) | (with_reducible refine Kd.C_drewN ?_ _) | (with_reducible refine Kd.C_drew ?_))); (case side2 => exact (Kd.R_reads' HO588.out).2.1); (case side3 => repeat (first | exact (Kd.V_reads' HO_1.out).2.2 | (with_reducible refine Kd.C_alloc ?_ _) | (with_reducible refine Kd.C_drewN ?_ _) | (with_reducible refine Kd.C_drew ?_))); (case side4 => exact (Kd.V_reads' HO_1.out).2.1); rintro e w32 ⟨v594, rfl, ho0, hb⟩; refine ⟨_, rfl, ?_⟩; have n0_ := Aside0.mk (Kd.V_elder' (by (with_reducible repeat (first | apply Kd.V_alloc | apply Kd.V_drewN | apply Kd.V_drew)); exact HO_0.out) (Kd.R_base ho0) hb); have n1_ := Aside0.mk (Kd.V_elder' (by (with_reducible repeat (first | apply Kd.V_alloc | apply Kd.V_drewN | apply Kd.V_drew)); exact HO_1.out) (Kd.R_base ho0) hb); have n2_ := Aside0.mk (Kd.R_elder' (by (with_reducible repeat (first | apply Kd.R_alloc | apply Kd.R_drewN | apply Kd.R_drew)); exact HO_5.out) (Kd.R_base ho0) hb); have n3_ := Aside0.mk (Kd.R_elder' (by (with_reducible repeat (first | apply Kd.R_alloc | apply Kd.R_drewN | apply Kd.R_drew)); exact HO588.out) (Kd.R_base ho0) hb); have n4_ := Aside0.mk (Kd.R_lower (Kd.R_new' (Kd.R_new' (Kd.R_newM (M := fun k_ => (w.heap.size ≤ k_)) ho0 (below_size (by repeat (first | (with_reducible first | exact HB.out | apply below_alloc | apply pw_below_drewN | apply below_drew1) | exact HB.out))) (fun k_ h_ => h_)) (Kd.R_lt (by (with_reducible repeat (first | apply Kd.R_alloc | apply Kd.R_drewN | apply Kd.R_drew)); exact HO_5.out))) (Kd.R_lt (by (with_reducible repeat (first | apply Kd.R_alloc | apply Kd.R_drewN | apply Kd.R_drew)); exact HO588.out))) (below_size (by repeat (first | (with_reducible first | exact HB.out | apply below_alloc | apply pw_below_drewN | apply below_drew1) | exact HB.out)))); have n5_ := Aside0.mk (below_step (by repeat (first | (with_reducible first | exact HB.out | apply below_alloc | apply pw_below_drewN | apply below_drew1) | exact HB.out)) hb); clear HO_0; clear HO_1; clear HO_5; clear HO588; clear HB; have HO_0 := n0_; have HO_1 := n1_; have HO_5 := n2_; have HO588 := n3_; have HO595 := n4_; have HB := n5_; clear n0_ n1_ n2_ n3_ n4_ n5_; (try clear hb); (try clear hb2); (try clear hk); (try clear hi); (try clear ho0)) | ((with_reducible refine gate_dst (N := 54) rfl ?_); (refine gate_guard (by rfl) ?_; dsimp only); (with_reducible refine gate_callee (f := 31) rfl ?_); refine goesL_ (some 54) rfl rfl Try.func31 (by kernel_rfl) rfl #[.slice Ao25 x0_6.length co25] rfl (by (try simp only [List.map_toArray, List.map_cons, List.map_nil]); first | done | rfl | (simp only [List.length_drop, List.length_take]; rfl)) ?_; (with_reducible refine (nat_Trim.calls _ _ x0_6 t596 _ ?side1 ?side2 A23.out).mono ?_); (case side1 => repeat (first | exact (Kd.V_reads' HO_0.out).2.2 | (with_reducible refine Kd.C_alloc ?_ _) | (with_reducible refine Kd.C_drewN ?_ _) | (with_reducible refine Kd.C_drew ?_))); (case side2 => exact (Kd.V_reads' HO_0.out).2.1); rintro e w33 ⟨v597, rfl, ho0, hb⟩; refine ⟨_, rfl, ?_⟩; have n0_ := Aside0.mk (Kd.V_elder' (by (with_reducible repeat (first | apply Kd.V_alloc | apply Kd.V_drewN | apply Kd.V_drew)); exact HO_0.out) (Kd.R_base ho0) hb); have n1_ := Aside0.mk (Kd.V_elder' (by (with_reducible repeat (first | apply Kd.V_alloc | apply Kd.V_drewN | apply Kd.V_drew)); exact HO_1.out) (Kd.R_base ho0) hb); have n2_ := Aside0.mk (Kd.R_elder' (by (with_reducible repeat (first | apply Kd.R_alloc | apply Kd.R_drewN | apply Kd.R_drew)); exact HO_5.out) (Kd.R_base ho0) hb); have n3_ := Aside0.mk (Kd.R_elder' (by (with_reducible repeat (first | apply Kd.R_alloc | apply Kd.R_drewN | apply Kd.R_drew)); exact HO588.out) (Kd.R_base ho0) hb); have n4_ := Aside0.mk (Kd.R_elder' (by (with_reducible repeat (first | apply Kd.R_alloc | apply Kd.R_drewN | apply Kd.R_drew)); exact HO595.out) (Kd.R_base ho0) hb); have n5_ := Aside0.mk (Kd.R_lower (Kd.R_new' (Kd.R_new' (Kd.R_new' (Kd.R_newM (M := fun k_ => (w.heap.size ≤ k_)) ho0 (below_size (by repeat (first | (with_reducible first | exact HB.out | apply below_alloc | apply pw_below_drewN | apply below_drew1) | exact HB.out))) (fun k_ h_ => h_)) (Kd.R_lt (by (with_reducible repeat (first | apply Kd.R_alloc | apply Kd.R_drewN | apply Kd.R_drew)); exact HO_5.out))) (Kd.R_lt (by (with_reducible repeat (first | apply Kd.R_alloc | apply Kd.R_drewN | apply Kd.R_drew)); exact HO588.out))) (Kd.R_lt (by (with_reducible repeat (first | apply Kd.R_alloc | apply Kd.R_drewN | apply Kd.R_drew)); exact HO595.out))) (below_size (by repeat (first | (with_reducible first | exact HB.out | apply below_alloc | apply pw_below_drewN | apply below_drew1) | exact HB.out)))); have n6_ := Aside0.mk (below_step (by repeat (first | (with_reducible first | exact HB.out | apply below_alloc | apply pw_below_drewN | apply below_drew1) | exact HB.out)) hb); clear HO_0; clear HO_1; clear HO_5; clear HO588; clear HO595; clear HB; have HO_0 := n0_; have HO_1 := n1_; have HO_5 := n2_; have HO588 := n3_; have HO595 := n4_; have HO598 := n5_; have HB := n6_; clear n0_ n1_ n2_ n3_ n4_ n5_ n6_; (try clear hb); (try clear hb2); (try clear hk); (try clear hi); (try clear ho0); obtain ⟨Ao34, co34, eo34⟩ := Kd.R_slice HO595.out; subst eo34; obtain ⟨Ao35, co35, eo35⟩ := Kd.R_slice HO598.out; subst eo35) | ((with_reducible refine gate_dst (N := 55) rfl ?_); (refine gate_guard (by rfl) ?_; dsimp only); (with_reducible refine gate_callee (f := 17) rfl ?_); refine goesL_ (some 55) rfl rfl Try.func17 (by kernel_rfl) rfl #[.slice Ao34 t593.length co34, .slice Ao35 t596.length co35] rfl (by (try simp only [List.map_toArray, List.map_cons, List.map_nil]); first | done | rfl | (simp only [List.length_drop, List.length_take]; rfl)) ?_; (with_reducible refine (figureheadref01_Same.calls kj6 _ _ t593 _ _ t596 t599 _ ?side1 ?side2 ?side3 ?side4 A24.out).mono ?_); (case side1 => repeat (first | exact (Kd.R_reads' HO595.out).2.2 | (with_reducible refine Kd.C_alloc ?_ _) | (with_reducible refine Kd.C_drewN ?_ _) | (with_reducible refine Kd.C_drew ?_))); (case side2 => exact (Kd.R_reads' HO595.out).2.1); (case side3 => repeat (first | exact (Kd.R_reads' HO598.out).2.2 | (with_reducible refine Kd.C_alloc ?_ _) | (with_reducible refine Kd.C_drewN ?_ _) | (with_reducible refine Kd.C_drew ?_))); (case side4 => exact (Kd.R_reads' HO598.out).2.1); rintro e w' ⟨rfl, ⟨nd, rfl⟩⟩; refine ⟨_, rfl, ?_⟩))
                go_ret
                exact ⟨by first | rfl | (simp [errW_none, errW_some] <;> rfl) | (simp [*, errW_none, errW_some] <;> rfl), by repeat (first | (with_reducible first | exact HB.out | apply below_alloc | apply pw_below_drewN | apply below_drew1) | exact HB.out)⟩
              · replace c21 := Bool.eq_false_iff.mpr c21
                subst c21
                have H1 : (some false) = some r := by rw [if_neg (show ¬ (false = true) by decide)] at H; exact H
                clear H
                have H := H1
                clear H1
                exact absurd ((Option.some.inj H).trans HT.out) (by decide)
            · rw [if_neg c20] at H
              have c20b0 : decide (0 ≤ t592) = false := decide_eq_false c20
              clear c20
              exact absurd ((Option.some.inj H).trans HT.out) (by decide)
          · rw [if_neg c18] at H
            have c18b0 : ((t590 == 0) == (t591.toList == ([] : List UInt8))) = false := by simpa using c18
            (try (have c18b1 : decide ((t590 == 0) = (t591.toList == ([] : List UInt8))) = false := by simpa using c18))
            (try (have c18b2 : ((t590 == 0) == (t591.toList == ([] : List UInt8))) = false := by simpa using c18))
            (try (have c18b3 : ((t590 == 0) == (t591.toList.isEmpty)) = false := by simpa [show ∀ l : List UInt8, (l == []) = l.isEmpty from fun l => by cases l <;> rfl] using c18))
            (try (have c18b4 : ¬ ((t590 == 0) = (t591.toList == ([] : List UInt8))) := by simpa using c18))
            clear c18
            exact absurd ((Option.some.inj H).trans HT.out) (by decide)
        · replace c15 := Bool.eq_false_iff.mpr c15
          subst c15
          have H1 : (some false) = some r := by rw [if_neg (show ¬ (false = true) by decide)] at H; exact H
          clear H
          have H := H1
          clear H1
          exact absurd ((Option.some.inj H).trans HT.out) (by decide)
  · replace c4 := Bool.eq_false_iff.mpr c4
    subst c4
    have H1 : ((figureheadlaw01_answers.f).bind fun t580 => (some t580)) = some r := by rw [if_neg (show ¬ (false = true) by decide)] at H; exact H
    clear H
    have H := H1
    clear H1
    replace H := Option.bind_eq_some_iff.mp H
    obtain ⟨t580, A360, H⟩ := H
    replace H : (some t580) = some r := H
    have A36 := Aside0.mk A360
    clear A360
    obtain rfl := Option.some.inj H
    go_enter Try.func13, Try.ntmps13
    go_wp2_with (first | ((with_reducible refine gate_dst (N := 10) rfl ?_); refine Kd.N_lit (Kd.slice 30 (Kd.int .u32)) _ 22 ?hg (N' := 10) ?hd (xs := ([l0, l1] : List (List Int))) (inner := [.slice A0 l0.length c0, .slice A1 l1.length c1]) (ok := (fun k_ => ((P0_ k_ ∨ P1_ k_) ∨ w.heap.size ≤ k_))) (okp := (fun k_ => ((P0_ k_ ∨ P1_ k_) ∨ w.heap.size ≤ k_))) ?hr ?hp (fun _ hk => hk) ((show ∀ k_, w.heap.size ≤ k_ → (fun k_ => ((P0_ k_ ∨ P1_ k_) ∨ w.heap.size ≤ k_)) k_ from fun k_ hk => (.inr (Nat.le_trans (below_size (by repeat (first | (with_reducible first | exact HB.out | apply below_alloc | apply pw_below_drewN | apply below_drew1) | exact HB.out))) hk))) _ (Nat.le_refl _)) (Below.refl _ _) (Nat.le_refl _) (by simp) ?_; (case hd => rfl); (case hg => rfl); (case hr => first | (go_simp; done) | (go_simp; rfl)); (case hp => exact (Reps.one (show Kd.FK (Kd.slice 30 (Kd.int .u32)) _ _ l0 [.slice A0 l0.length c0] from (Kd.FK_slice_mk (Kd.V_reads' (Kd.V_mono (ok' := (fun k_ => ((P0_ k_ ∨ P1_ k_) ∨ w.heap.size ≤ k_))) (HO0.out) (fun k_ hk => hk))).2.1 (Kd.V_F (Kd.V_mono (ok' := (fun k_ => ((P0_ k_ ∨ P1_ k_) ∨ w.heap.size ≤ k_))) (HO0.out) (fun k_ hk => hk))))) (Reps.one (show Kd.FK (Kd.slice 30 (Kd.int .u32)) _ _ l1 [.slice A1 l1.length c1] from (Kd.FK_slice_mk (Kd.V_reads' (Kd.V_mono (ok' := (fun k_ => ((P0_ k_ ∨ P1_ k_) ∨ w.heap.size ≤ k_))) (HO1.out) (fun k_ hk => hk))).2.1 (Kd.V_F (Kd.V_mono (ok' := (fun k_ => ((P0_ k_ ∨ P1_ k_) ∨ w.heap.size ≤ k_))) (HO1.out) (fun k_ hk => hk))))) (Reps.none _ _)))); intro v577 w37 ho38 hb hg_ hnew_; clear hg_ hnew_; (first | rw [← Ny576.out] at ho38 | (simp only [Int.reduceToNat] at ho38; rw [← Ny576.out] at ho38)); have n0_ := Aside0.mk (Kd.V_elder' (by (with_reducible repeat (first | apply Kd.V_alloc | apply Kd.V_drewN | apply Kd.V_drew)); exact HO0.out) (Kd.N_base ho38) hb); have n1_ := Aside0.mk (Kd.V_elder' (by (with_reducible repeat (first | apply Kd.V_alloc | apply Kd.V_drewN | apply Kd.V_drew)); exact HO1.out) (Kd.N_base ho38) hb); have n2_ := Aside0.mk (Kd.N_lower ho38 (below_size (by repeat (first | (with_reducible first | exact HB.out | apply below_alloc | apply pw_below_drewN | apply below_drew1) | exact HB.out)))); have n3_ := Aside0.mk (below_step (by repeat (first | (with_reducible first | exact HB.out | apply below_alloc | apply pw_below_drewN | apply below_drew1) | exact HB.out)) hb); clear HO0; clear HO1; clear HB; have HO0 := n0_; have HO1 := n1_; have HO578 := n2_; have HB := n3_; clear n0_ n1_ n2_ n3_; clear hb ho38; obtain ⟨Ao39, co39, eo39⟩ := Kd.N_slice HO578.out; subst eo39) | ((with_reducible refine gate_callee (f := 24) rfl ?_); refine goesL_ (some 11) rfl rfl Try.func24 (by kernel_rfl) rfl #[.slice Ao39 y576.length co39] rfl (by (try simp only [List.map_toArray, List.map_cons, List.map_nil]); first | done | rfl | (simp only [List.length_drop, List.length_take]; rfl)) ?_; (with_reducible refine (figureheadlaw01_good.calls k _ _ y576 false _ ?side1 ?side2 A3.out).mono ?_); (case side1 => repeat (first | exact (Kd.N_reads' HO578.out).2.2 | (with_reducible refine Kd.C_alloc ?_ _) | (with_reducible refine Kd.C_drewN ?_ _) | (with_reducible refine Kd.C_drew ?_))); (case side2 => exact (Kd.N_reads' HO578.out).2.1); rintro e w' ⟨rfl, ⟨nd, rfl⟩⟩; refine ⟨_, rfl, ?_⟩) | ((with_reducible refine gate_callee (f := 25) rfl ?_); refine goesL_ (some 13) rfl rfl Try.func25 (by kernel_rfl) rfl #[] rfl (by (try simp only [List.map_toArray, List.map_cons, List.map_nil]); first | done | rfl | (simp only [List.length_drop, List.length_take]; rfl)) ?_; (with_reducible refine (figureheadlaw01_answers.calls  t580 _ ?side1 A36.out).mono ?_); (case side1 => exact ⟨by first | rfl | exact HT.out⟩); rintro e w40 ⟨rfl, hb⟩; refine ⟨_, rfl, ?_⟩; have n0_ := Aside0.mk (Kd.V_below (by (with_reducible repeat (first | apply Kd.V_alloc | apply Kd.V_drewN | apply Kd.V_drew)); exact HO0.out) hb); have n1_ := Aside0.mk (Kd.V_below (by (with_reducible repeat (first | apply Kd.V_alloc | apply Kd.V_drewN | apply Kd.V_drew)); exact HO1.out) hb); have n2_ := Aside0.mk (Kd.N_below (by (with_reducible repeat (first | apply Kd.N_alloc | apply Kd.N_drewN | apply Kd.N_drew)); exact HO578.out) hb); have n3_ := Aside0.mk (below_step (by repeat (first | (with_reducible first | exact HB.out | apply below_alloc | apply pw_below_drewN | apply below_drew1) | exact HB.out)) hb); clear HO0; clear HO1; clear HO578; clear HB; have HO0 := n0_; have HO1 := n1_; have HO578 := n2_; have HB := n3_; clear n0_ n1_ n2_ n3_; (try clear hb); (try clear hb2); (try clear hk); (try clear hi)))
    go_ret
    exact ⟨by first | rfl | (simp [errW_none, errW_some] <;> rfl) | (simp [*, errW_none, errW_some] <;> rfl), by repeat (first | (with_reducible first | exact HB.out | apply below_alloc | apply pw_below_drewN | apply below_drew1) | exact HB.out)⟩

end Go.Proofs.Ytkhmdpplpecgcaa.Px

namespace Go.Proofs.Ytkhmdpplpecgcaa.Px
open Fig Go.RowKit Go.Proofs.YtkhmdpplpecgcaaW.PrintWords Go.Proofs.YtkhmdpplpecgcaaW.PrintLast Go.Proofs.YtkhmdpplpecgcaaW.PrintMore
attribute [local go_sem] max2_int min2_int max_two min_two max_three min_three max_four min_four   -- for this text's walks alone

/-! plain facts: figureheadref01_Same -/
theorem Same_loop (a b : List Int) (hl : a.length ≤ 4611686018427387904) (he : a.length = b.length) : ∀ (d n : Nat), a.length - n = d → n ≤ a.length → Ev (fun k => figureheadref01_Same.l0 k a b (n : Int)) (decide (a.drop n = b.drop n))
  | 0, n, hd, hn => by
    refine evDone (r' := true) (fun k => ?_) ?_
    · simp only [figureheadref01_Same.l0]; rw [if_neg (by omega)]
    · rw [List.drop_of_length_le (by omega), List.drop_of_length_le (by omega)]; simp
  | d + 1, n, hd, hn => by
    have ha := rd_get (l := a) (n := n) (by omega)
    have hb := rd_get (l := b) (n := n) (by omega)
    have ca := List.drop_eq_getElem_cons (l := a) (i := n) (by omega)
    have cb := List.drop_eq_getElem_cons (l := b) (i := n) (by omega)
    by_cases h9 : rd a (n : Int) = rd b (n : Int)
    · refine Ev.step (f := fun k => figureheadref01_Same.l0 k a b ((n + 1 : Nat) : Int)) (fun k => ?_) ?_
      · simp only [figureheadref01_Same.l0]; rw [if_pos (by omega), if_pos (by omega), if_pos (by omega), if_pos h9, w64 (by omega) (by omega)]; rfl
      · have := Same_loop a b hl he d (n + 1) (by omega) (by omega)
        refine evIs this ?_
        rw [ca, cb, show a[n] = b[n] by rw [← ha, ← hb, h9]]
        simp only [List.cons.injEq, true_and]
    · refine evDone (r' := false) (fun k => ?_) ?_
      · simp only [figureheadref01_Same.l0]; rw [if_pos (by omega), if_pos (by omega), if_pos (by omega), if_neg h9]
      · rw [ca, cb]; symm; rw [decide_eq_false_iff_not]; intro e; injection e with e _
        rw [ha, hb] at h9; exact h9 e
theorem Same_ev {a b : List Int} (hl : a.length ≤ 4611686018427387904) : Ev (fun k => figureheadref01_Same.f k a b) (decide (a = b)) := by
  by_cases he : a.length = b.length
  · have := Same_loop a b hl he a.length 0 (by omega) (by omega)
    simp only [figureheadref01_Same.f, he, if_true]
    simpa using this
  · refine ⟨0, fun k _ => ?_⟩
    simp only [figureheadref01_Same.f]
    rw [if_neg (by omega)]; congr 1; symm; rw [decide_eq_false_iff_not]; rintro rfl; exact he rfl
theorem Same_self {a : List Int} (hl : a.length ≤ 4611686018427387904) : Ev (fun k => figureheadref01_Same.f k a a) true := by
  simpa using Same_ev (a := a) (b := a) hl
theorem Same_true {a b : List Int} (h : a = b) (hl : a.length ≤ 4611686018427387904) : Ev (fun k => figureheadref01_Same.f k a b) true := by subst h; exact Same_self hl

end Go.Proofs.Ytkhmdpplpecgcaa.Px

namespace Go.Proofs.Ytkhmdpplpecgcaa.Px
open Fig Go.RowKit Go.Proofs.YtkhmdpplpecgcaaW.PrintWords Go.Proofs.YtkhmdpplpecgcaaW.PrintLast Go.Proofs.YtkhmdpplpecgcaaW.PrintMore
attribute [local go_sem] max2_int min2_int max_two min_two max_three min_three max_four min_four   -- for this text's walks alone

/-! plain facts: figureheadref01_Strip -/
theorem Strip_loop (s : ByteArray) (hs : s.size ≤ 4611686018427387904) : ∀ (d n : Nat), s.size - n = d → n ≤ s.size → Ev (fun k => figureheadref01_Strip.l0 k s (n : Int)) (⟨(stripL (s.data.toList.drop n)).toArray⟩ : ByteArray)
  | 0, n, hd, hn => by
    refine evDone (r' := s.extract n s.size) (fun k => ?_) ?_
    · simp only [figureheadref01_Strip.l0]; rw [if_neg (by omega), if_pos (by omega), if_pos (by omega)]; simp
    · apply B_ext; rw [B_from]
      have : s.data.toList.drop n = [] := List.drop_of_length_le (by rw [← size_eq]; omega)
      rw [this]; rfl
  | d + 1, n, hd, hn => by
    have hlt : n < s.size := by omega
    have hb := bt_get hlt
    have hc := List.drop_eq_getElem_cons (l := s.data.toList) (i := n) (by rw [← size_eq]; exact hlt)
    by_cases h48 : bt s (n : Int) = 48
    · refine Ev.step (f := fun k => figureheadref01_Strip.l0 k s ((n + 1 : Nat) : Int)) (fun k => ?_) ?_
      · simp only [figureheadref01_Strip.l0]; rw [if_pos (by omega), if_pos (by omega), if_pos h48, w64 (by omega) (by omega)]; rfl
      · have := Strip_loop s hs d (n + 1) (by omega) (by omega)
        rw [hc]
        have h2 : s.data.toList[n]'(by rw [← size_eq]; exact hlt) = 48 := UInt8.toNat.inj (by rw [hb] at h48; show _ = 48; omega)
        rw [h2]
        simpa [stripL] using this
    · refine evDone (r' := s.extract n s.size) (fun k => ?_) ?_
      · simp only [figureheadref01_Strip.l0]; rw [if_pos (by omega), if_pos (by omega), if_neg h48, if_pos (by omega)]; simp
      · apply B_ext; rw [B_from]
        refine (stripL_of_head ?_).symm
        rw [hc, List.head?_cons]
        intro e
        injection e with e
        rw [hb, e] at h48; exact h48 rfl
theorem Strip_ev {s : ByteArray} (hs : s.size ≤ 4611686018427387904) : Ev (fun k => figureheadref01_Strip.f k s) (stripB s) := by
  have := Strip_loop s hs s.size 0 (by omega) (by omega)
  simpa [figureheadref01_Strip.f, stripB] using this
theorem StripD_ev {s : ByteArray} (hs : s.size ≤ 4611686018427387904) (h : dB s = true) : Ev (fun k => figureheadref01_Strip.f k s) (digB (vB s)) := by
  rw [← stripB_eq h]; exact Strip_ev hs

end Go.Proofs.Ytkhmdpplpecgcaa.Px

namespace Go.Proofs.Ytkhmdpplpecgcaa.Px
open Fig Go.RowKit Go.Proofs.YtkhmdpplpecgcaaW.PrintWords Go.Proofs.YtkhmdpplpecgcaaW.PrintLast Go.Proofs.YtkhmdpplpecgcaaW.PrintMore
attribute [local go_sem] max2_int min2_int max_two min_two max_three min_three max_four min_four   -- for this text's walks alone

/-! plain facts: figureheadref01_Text -/
theorem pow_split (n m : Nat) : 10 ^ (n + m) = 10 ^ n * 10 ^ m := Nat.pow_add 10 n m
theorem one_char {c : Nat} (h : c ≤ 9) : dB (strOfNums [((48 : Int) + (c : Int)) % 4294967296 % 256]) = true ∧ vB (strOfNums [((48 : Int) + (c : Int)) % 4294967296 % 256]) = c ∧ (strOfNums [((48 : Int) + (c : Int)) % 4294967296 % 256]).size = 1 := by
  have e : ((48 : Int) + (c : Int)) % 4294967296 % 256 = ((48 + c : Nat) : Int) := by omega
  have e2 : (UInt8.ofNat (48 + c)).toNat = 48 + c := by rw [UInt8.toNat_ofNat']; omega
  rw [e]
  refine ⟨?_, ?_, ?_⟩
  · unfold dB; rw [B_nums]; simp only [List.map_cons, List.map_nil, Int.toNat_natCast]; rw [digL_cons, isD_iff, e2]; exact ⟨by omega, rfl⟩
  · unfold vB; rw [B_nums]; simp only [List.map_cons, List.map_nil, Int.toNat_natCast, List.reverse_singleton, rv, e2]; omega
  · rw [strOfNums_size]; rfl
theorem Text_in (l : List Int) (i : Nat) (hi : i < 4611686018427387904) (r : ByteArray) : ∀ (m : Nat) (s : ByteArray) (v : Nat), m ≤ 9 → v < 4294967296 → dB s = true → s.size + m ≤ 4611686018427387904 →
    (∀ s', dB s' = true → vB s' = vB s + 10 ^ s.size * (v % 10 ^ m) → s'.size = s.size + m → Ev (fun k => figureheadref01_Text.l0 k l s' ((i + 1 : Nat) : Int)) r) →
    Ev (fun k => figureheadref01_Text.l1 k l s (i : Int) (v : Int) ((9 - m : Nat) : Int)) r
  | 0, s, v, hm, hv, hd, hs, h => by
    refine Ev.step (f := fun k => figureheadref01_Text.l0 k l s ((i + 1 : Nat) : Int)) (fun k => ?_) (h s hd (by simp [Nat.mod_one]) rfl)
    simp only [figureheadref01_Text.l1]; rw [if_neg (by omega), w64 (by omega) (by omega)]; rfl
  | m + 1, s, v, hm, hv, hd, hs, h => by
    obtain ⟨c1, c2, c3⟩ := one_char (c := v % 10) (by omega)
    have et : Int.tmod (v : Int) 10 = ((v % 10 : Nat) : Int) := by rw [Int.tmod_eq_emod_of_nonneg (by omega)]; omega
    have ed : (Int.tdiv (v : Int) 10) % 4294967296 = ((v / 10 : Nat) : Int) := by rw [Int.tdiv_eq_ediv_of_nonneg (by omega)]; omega
    refine Ev.step (f := fun k => figureheadref01_Text.l1 k l (strOfNums [((48 : Int) + ((v % 10 : Nat) : Int)) % 4294967296 % 256] ++ s) (i : Int) ((v / 10 : Nat) : Int) ((9 - m : Nat) : Int)) (fun k => ?_) (Text_in l i hi r m _ (v / 10) (by omega) (by omega) (dB_append.2 ⟨c1, hd⟩) (by rw [ByteArray.size_append]; omega) ?_)
    · simp only [figureheadref01_Text.l1, Option.bind_some]; rw [if_pos (by omega), et, ed, if_pos (by omega), w64 (by omega) (by omega)]
      congr 1; omega
    · intro s' d' v' z'
      rw [ByteArray.size_append, c3] at z' v'
      refine h s' d' ?_ (by omega)
      rw [v', vB_append, c2]
      have e3 : v % 10 ^ (m + 1) = v % 10 + 10 * (v / 10 % 10 ^ m) := by rw [Nat.pow_succ, Nat.mul_comm (10 ^ m) 10, Nat.mod_mul]
      rw [e3, Nat.mul_add, Nat.add_comm 1 s.size, Nat.pow_succ, Nat.mul_comm (v % 10), ← Nat.mul_assoc]; omega
theorem Text_loop (l : List Int) (hg : goodL l = true) (hl : l.length ≤ 1000000000000) : ∀ (d n : Nat) (s : ByteArray), l.length - n = d → n ≤ l.length → dB s = true → s.size = 9 * n →
    Ev (fun k => figureheadref01_Text.l0 k l s (n : Int)) (digB (vB s + 10 ^ s.size * valL (l.drop n)))
  | 0, n, s, hd, hn, hs, hz => by
    refine Ev.step (f := fun k => (figureheadref01_Strip.f k s).bind fun t => some t) (fun k => ?_) (Ev.bind (StripD_ev (by omega) hs) ?_)
    · simp only [figureheadref01_Text.l0]; rw [if_neg (by omega)]
    · rw [List.drop_of_length_le (by omega)]; simpa [valL] using Ev.now _
  | d + 1, n, s, hd, hn, hs, hz => by
    have hlt : n < l.length := by omega
    have hb := rd_get hlt
    have hc := List.drop_eq_getElem_cons hlt
    have hp := goodL_iff.1 hg _ (List.getElem_mem hlt)
    refine Ev.step (f := fun k => figureheadref01_Text.l1 k l s (n : Int) ((l[n].toNat : Nat) : Int) ((9 - 9 : Nat) : Int)) (fun k => ?_) (Text_in l n (by omega) _ 9 s l[n].toNat (by omega) (by omega) hs (by omega) ?_)
    · simp only [figureheadref01_Text.l0]; rw [if_pos (by omega), if_pos (by omega), hb, Int.toNat_of_nonneg hp.1]; rfl
    · intro s' d' v' z'
      refine evIs (Text_loop l hg hl d (n + 1) s' (by omega) (by omega) d' (by omega)) ?_
      rw [v', z', hc]
      simp only [valL]
      rw [Nat.mod_eq_of_lt (by omega), pow_split, Nat.mul_add, Nat.mul_assoc]
      congr 1; rw [show (10 : Nat) ^ 9 = 1000000000 from rfl]; omega
theorem Text_ev {l : List Int} (hg : goodL l = true) (hl : l.length ≤ 1000000000000) : Ev (fun k => figureheadref01_Text.f k l) (digB (valL l)) := by
  have := Text_loop l hg hl l.length 0 (⟨#[]⟩ : ByteArray) (by omega) (by omega) rfl rfl
  refine evIs this ?_
  congr 1
  show rv [] + 10 ^ 0 * valL l = valL l
  simp [rv]
theorem Text_any_loop (l : List Int) (h0 : ∀ x ∈ l, 0 ≤ x ∧ x < 4294967296) (hl : l.length ≤ 100000000000000000) : ∀ (d n : Nat) (s : ByteArray), l.length - n = d → n ≤ l.length → dB s = true → s.size = 9 * n → ∃ r, Ev (fun k => figureheadref01_Text.l0 k l s (n : Int)) r
  | 0, n, s, hd, hn, hs, hz => by
    refine ⟨_, Ev.step (f := fun k => (figureheadref01_Strip.f k s).bind fun t => some t) (fun k => ?_) (Ev.bind (StripD_ev (by omega) hs) (Ev.now _))⟩
    simp only [figureheadref01_Text.l0]; rw [if_neg (by omega)]
  | d + 1, n, s, hd, hn, hs, hz => by
    have hlt : n < l.length := by omega
    have hb := rd_get hlt
    have hp := h0 _ (List.getElem_mem hlt)
    have key : ∃ r, ∀ s', dB s' = true → vB s' = vB s + 10 ^ s.size * (l[n].toNat % 10 ^ 9) → s'.size = s.size + 9 → Ev (fun k => figureheadref01_Text.l0 k l s' ((n + 1 : Nat) : Int)) r := by
      rcases Classical.em (∃ s', dB s' = true ∧ vB s' = vB s + 10 ^ s.size * (l[n].toNat % 10 ^ 9) ∧ s'.size = s.size + 9) with ⟨s0, a1, a2, a3⟩ | hno
      · obtain ⟨r, hr⟩ := Text_any_loop l h0 hl d (n + 1) s0 (by omega) (by omega) a1 (by omega)
        refine ⟨r, fun s' b1 b2 b3 => ?_⟩
        have : s' = s0 := by
          apply B_ext
          have e := rv_inj (a := s'.data.toList.reverse) (b := s0.data.toList.reverse) (by rw [digL_reverse]; exact b1) (by rw [digL_reverse]; exact a1) (by rw [List.length_reverse, List.length_reverse, ← size_eq, ← size_eq, b3, a3]) (b2.trans a2.symm)
          have e2 := congrArg List.reverse e
          rwa [List.reverse_reverse, List.reverse_reverse] at e2
        rw [this]; exact hr
      · exact ⟨⟨#[]⟩, fun s' b1 b2 b3 => absurd ⟨s', b1, b2, b3⟩ hno⟩
    obtain ⟨r, hr⟩ := key
    refine ⟨r, Ev.step (f := fun k => figureheadref01_Text.l1 k l s (n : Int) ((l[n].toNat : Nat) : Int) ((9 - 9 : Nat) : Int)) (fun k => ?_) (Text_in l n (by omega) _ 9 s l[n].toNat (by omega) (by omega) hs (by omega) hr)⟩
    simp only [figureheadref01_Text.l0]; rw [if_pos (by omega), if_pos (by omega), hb, Int.toNat_of_nonneg hp.1]; rfl
theorem Text_any {l : List Int} (h0 : ∀ x ∈ l, 0 ≤ x ∧ x < 4294967296) (hl : l.length ≤ 100000000000000000) : ∃ r, Ev (fun k => figureheadref01_Text.f k l) r :=
  Text_any_loop l h0 hl l.length 0 (⟨#[]⟩ : ByteArray) (by omega) (by omega) rfl rfl

end Go.Proofs.Ytkhmdpplpecgcaa.Px

namespace Go.Proofs.Ytkhmdpplpecgcaa.Px
open Fig Go.RowKit Go.Proofs.YtkhmdpplpecgcaaW.PrintWords Go.Proofs.YtkhmdpplpecgcaaW.PrintLast Go.Proofs.YtkhmdpplpecgcaaW.PrintMore
attribute [local go_sem] max2_int min2_int max_two min_two max_three min_three max_four min_four   -- for this text's walks alone

/-! plain facts: figureheadref01_Good -/
theorem Good_loop (l : List Int) (hl : l.length ≤ 4611686018427387904) (h0 : ∀ x ∈ l, 0 ≤ x) : ∀ (d n : Nat), l.length - n = d → n ≤ l.length → Ev (fun k => figureheadref01_Good.l0 k l (n : Int)) (goodL (l.drop n))
  | 0, n, hd, hn => by
    refine evDone (r' := true) (fun k => ?_) ?_
    · simp only [figureheadref01_Good.l0]; rw [if_neg (by omega)]
    · rw [List.drop_of_length_le (by omega)]; rfl
  | d + 1, n, hd, hn => by
    have hlt : n < l.length := by omega
    have hb := rd_get hlt
    have hc := List.drop_eq_getElem_cons hlt
    have hp := h0 _ (List.getElem_mem hlt)
    by_cases h9 : rd l (n : Int) > 999999999
    · refine evDone (r' := false) (fun k => ?_) ?_
      · simp only [figureheadref01_Good.l0]; rw [if_pos (by omega), if_pos (by omega), if_pos h9]
      · rw [hc]; symm; rw [Bool.eq_false_iff]; intro e; have := (goodL_cons.1 e).1; omega
    · refine Ev.step (f := fun k => figureheadref01_Good.l0 k l ((n + 1 : Nat) : Int)) (fun k => ?_) ?_
      · simp only [figureheadref01_Good.l0]; rw [if_pos (by omega), if_pos (by omega), if_neg h9, w64 (by omega) (by omega)]; rfl
      · have := Good_loop l hl h0 d (n + 1) (by omega) (by omega)
        rw [hc]
        have e : goodL (l[n] :: l.drop (n + 1)) = goodL (l.drop (n + 1)) := by
          rw [Bool.eq_iff_iff, goodL_cons]
          exact ⟨fun h => h.2, fun h => ⟨⟨hp, by omega⟩, h⟩⟩
        rw [e]; exact this
theorem Good_ev {l : List Int} (hl : l.length ≤ 4611686018427387904) (h0 : ∀ x ∈ l, 0 ≤ x) : Ev (fun k => figureheadref01_Good.f k l) (goodL l) := by
  have := Good_loop l hl h0 l.length 0 (by omega) (by omega)
  simpa [figureheadref01_Good.f] using this

end Go.Proofs.Ytkhmdpplpecgcaa.Px

namespace Go.Proofs.Ytkhmdpplpecgcaa.Px
open Fig Go.RowKit Go.Proofs.YtkhmdpplpecgcaaW.PrintWords Go.Proofs.YtkhmdpplpecgcaaW.PrintLast Go.Proofs.YtkhmdpplpecgcaaW.PrintMore
attribute [local go_sem] max2_int min2_int max_two min_two max_three min_three max_four min_four   -- for this text's walks alone

/-! plain facts: figureheadlaw01_good -/
theorem good01_loop (ls : List (List Int)) (hl : ls.length ≤ 1000) (hb : ∀ l ∈ ls, l.length ≤ 4611686018427387904) (h0 : ∀ l ∈ ls, ∀ x ∈ l, 0 ≤ x) : ∀ (d n : Nat), ls.length - n = d → n ≤ ls.length → Ev (fun k => figureheadlaw01_good.l0 k ls (n : Int)) ((ls.drop n).all fun l => decide (l.length ≤ 60) && goodL l)
  | 0, n, hd, hn => by
    refine evDone (r' := true) (fun k => ?_) (by rw [List.drop_of_length_le (by omega)]; rfl)
    simp only [figureheadlaw01_good.l0]; rw [if_neg (by omega)]
  | d + 1, n, hd, hn => by
    have hlt : n < ls.length := by omega
    have hm := List.getElem_mem hlt
    have hrd : rd_L1 ls (n : Int) = ls[n] := by
      unfold rd_L1; rw [Int.toNat_natCast, List.getD_eq_getElem?_getD, List.getElem?_eq_getElem hlt]; rfl
    rw [List.drop_eq_getElem_cons hlt, List.all_cons]
    have hbm := hb _ hm
    by_cases h60 : ls[n].length ≤ 60
    · refine evIs (Ev.step (f := fun k => (figureheadref01_Good.f k ls[n]).bind fun t => if t = true then figureheadlaw01_good.l0 k ls ((n + 1 : Nat) : Int) else some false) (fun k => ?_) (Ev.bind (a := goodL ls[n]) (r := goodL ls[n] && ((ls.drop (n + 1)).all fun l => decide (l.length ≤ 60) && goodL l)) (Good_ev hbm (h0 _ hm)) ?_)) ?_
      · simp only [figureheadlaw01_good.l0]; rw [if_pos (by omega), if_pos (by omega), hrd, if_neg (by omega), succ64 _ (by omega)]
      · cases hg : goodL ls[n]
        · simpa using Ev.now false
        · simpa using good01_loop ls hl hb h0 d (n + 1) (by omega) (by omega)
      · simp [h60]
    · refine evDone (r' := false) (fun k => ?_) (by simp [h60])
      simp only [figureheadlaw01_good.l0]; rw [if_pos (by omega), if_pos (by omega), hrd, if_pos (by omega)]
theorem good01_ev {ls : List (List Int)} (hl : ls.length ≤ 1000) (hb : ∀ l ∈ ls, l.length ≤ 4611686018427387904) (h0 : ∀ l ∈ ls, ∀ x ∈ l, 0 ≤ x) : Ev (fun k => figureheadlaw01_good.f k ls) (ls.all fun l => decide (l.length ≤ 60) && goodL l) := by
  have := good01_loop ls hl hb h0 ls.length 0 (by omega) (by omega)
  simpa [figureheadlaw01_good.f] using this

end Go.Proofs.Ytkhmdpplpecgcaa.Px

namespace Go.Proofs.Ytkhmdpplpecgcaa.Px
open Fig Go.RowKit Go.Proofs.YtkhmdpplpecgcaaW.PrintWords Go.Proofs.YtkhmdpplpecgcaaW.PrintLast Go.Proofs.YtkhmdpplpecgcaaW.PrintMore
attribute [local go_sem] max2_int min2_int max_two min_two max_three min_three max_four min_four   -- for this text's walks alone

/-! plain facts: figureheadlaw01_answers -/
theorem answers01_eq : figureheadlaw01_answers.f = some true := by decide +kernel
theorem answers01_ev : Ev (fun _ => figureheadlaw01_answers.f) true := evSome fun _ => answers01_eq

end Go.Proofs.Ytkhmdpplpecgcaa.Px

namespace Go.Proofs.Ytkhmdpplpecgcaa.Px
open Fig Go.RowKit Go.Proofs.YtkhmdpplpecgcaaW.PrintWords Go.Proofs.YtkhmdpplpecgcaaW.PrintLast Go.Proofs.YtkhmdpplpecgcaaW.PrintMore
attribute [local go_sem] max2_int min2_int max_two min_two max_three min_three max_four min_four   -- for this text's walks alone

/-! plain facts: figureheadlaw01_NatGrows -/
theorem cmpN_ge (a b : Nat) : (cmpN (a + b) a == 0) = decide (b = 0) ∧ 0 ≤ cmpN (a + b) a := by
  unfold cmpN
  by_cases h : b = 0
  · subst h; simp
  · have h1 : ¬ a + b < a := by omega
    have h2 : a < a + b := by omega
    simp [h, h1]; omega
theorem NatGrows_in (x y s : List Int) (gx : goodL x = true) (gy : goodL y = true) (hx : x.length ≤ 60) (hy : y.length ≤ 60) (hs : s = limbs (valL x + valL y)) (hle : valL y ≤ valL x) : Ev (fun k => figureheadlaw01_NatGrows.j0 k x y s) true := by
  have zx := digB_valL_size gx hx
  have zs := digB_add_le zx (digB_valL_size gy hy)
  have ls := limbs_len_digB (valL x + valL y)
  have lx := limbs_len_digB (valL x)
  have ld := limbs_len_digB (valL x - valL y)
  have zd := digB_mono (Nat.sub_le (valL x) (valL y)) zx
  have gs : goodL s = true := by rw [hs]; exact limbs_good _
  have hsl : s.length ≤ 1000 := by rw [hs]; omega
  have hc : cmpF s x = some (cmpN (valL x + valL y) (valL x)) := by rw [cmpF_eq gs gx (by omega) (by omega), hs, limbs_val]
  obtain ⟨c1, c2⟩ := cmpN_ge (valL x) (valL y)
  refine Ev.step (fun k => by simp only [figureheadlaw01_NatGrows.j0]; rfl) ?_
  refine Ev.bind (evSome fun _ => subF_ge gx gy (by omega) (by omega) (by omega)) (Ev.bind answers01_ev ?_)
  simp only [if_true]
  refine Ev.bind (evSome fun _ => hc) (Ev.bind (Text_ev gy (by omega)) ?_)
  have e : ((cmpN (valL x + valL y) (valL x) == 0) == ((digB (valL y)).toList == ([] : List UInt8))) = true := by
    rw [c1]
    by_cases h : valL y = 0
    · rw [digB_toList_nil.2 h]; simp [h]
    · have h2 : ¬ (digB (valL y)).toList = [] := fun hh => h (digB_toList_nil.1 hh)
      simp [h, h2]
  have c3 : cmpN (valL x + valL y) (valL x) ≥ 0 := c2
  simp only [e, if_true]
  refine Ev.bind (evSome fun _ => hc) ?_
  simp only [c3, if_true]
  refine Ev.bind (evSome fun _ => addF_eq (limbs_good _) gy (by omega) (by omega)) (Ev.bind (evSome fun _ => trimF_eq gx (by omega)) ?_)
  rw [limbs_val, Nat.sub_add_cancel hle]
  exact Ev.bind (Same_self (by omega)) (Ev.now true)
theorem NatGrows_pure (l0 l1 : List Int) (m0 : l0.length * 4 ≤ 140737488351232) (w0 : ∀ x ∈ l0, (Lit.int .u32 x).wf = true) (m1 : l1.length * 4 ≤ 140737488351232) (w1 : ∀ x ∈ l1, (Lit.int .u32 x).wf = true) : ∃ k, figureheadlaw01_NatGrows.f k l0 l1 = some true := by
  have n0 := fun x hx => wf_u32 (w0 x hx)
  have n1 := fun x hx => wf_u32 (w1 x hx)
  refine Ev.rounds (g := fun k => figureheadlaw01_NatGrows.f k l0 l1) ?_
  unfold figureheadlaw01_NatGrows.f
  refine Ev.bind (good01_ev (ls := [l0, l1]) (by simp) (by simp; omega) (by simp; exact ⟨fun x hx => (n0 x hx).1, fun x hx => (n1 x hx).1⟩)) ?_
  cases hg : [l0, l1].all fun l => decide (l.length ≤ 60) && goodL l
  · simp only [Bool.false_eq_true, if_false]
    exact Ev.bind answers01_ev (Ev.now true)
  · obtain ⟨⟨h0, g0⟩, h1, g1⟩ : (l0.length ≤ 60 ∧ goodL l0 = true) ∧ l1.length ≤ 60 ∧ goodL l1 = true := by simpa using hg
    simp only [if_true]
    refine Ev.bind (evSome fun _ => addF_eq g0 g1 (by omega) (by omega)) (Ev.bind (evSome fun _ => cmpF_eq g0 g1 (by omega) (by omega)) ?_)
    by_cases hlt : valL l0 < valL l1
    · have c : cmpN (valL l0) (valL l1) < 0 := by unfold cmpN; rw [if_pos hlt]; omega
      simp only [c, if_true]
      exact NatGrows_in l1 l0 _ g1 g0 h1 h0 (by rw [Nat.add_comm]) (by omega)
    · have c : ¬ cmpN (valL l0) (valL l1) < 0 := by unfold cmpN; rw [if_neg hlt]; split <;> omega
      simp only [c, if_false]
      exact NatGrows_in l0 l1 _ g0 g1 h0 h1 rfl (by omega)

end Go.Proofs.Ytkhmdpplpecgcaa.Px
