/- The functions that the law TenNumbers reaches, told as plain functions, with what is proved of them (part 1). -/
import Derived.Test.YtnpibnjncjieaaaDoorPx0
import Derived.Test.YtnpibnjncjieaaaDoorCTenNumbers0
namespace Go.Proofs.YtnpibnjncjieaaaDoor.Px
open Fig Go.RowKit Go.Proofs.YtnpibnjncjieaaaDoorW.PrintWords Go.Proofs.YtnpibnjncjieaaaDoorW.PrintLast Go.Proofs.YtnpibnjncjieaaaDoorW.PrintMore
attribute [local go_sem] max2_int min2_int max_two min_two max_three min_three max_four min_four   -- for this text's walks alone

/-! plain facts: figureheadref01_Number -/
theorem Number_in (s : ByteArray) (hd : dB s = true) (hs : s.size ≤ 1000000000000) (out : List Int) (ho : out.length ≤ 1000000000000) (fr : Nat) (hf : fr ≤ s.size) (r : List Int) : ∀ (d i x : Nat), s.size - i = d → fr ≤ i → i ≤ s.size → s.size - fr ≤ 9 → x < 10 ^ (i - fr) →
    Ev (fun k => figureheadref01_Number.l0 k (s.extract 0 fr) (out ++ [((x * 10 ^ d + rv (s.data.toList.drop i).reverse : Nat) : Int)])) r → Ev (fun k => figureheadref01_Number.l1 k s out (fr : Int) (x : Int) (i : Int)) r
  | 0, i, x, h1, h2, h3, h4, h5, h => by
    refine Ev.step (fun k => ?_) h
    have e : s.data.toList.drop i = [] := List.drop_of_length_le (by rw [← size_eq]; omega)
    simp only [figureheadref01_Number.l1]; rw [if_neg (by omega), if_pos (by omega), if_pos (by omega), if_pos (by omega), e]; simp [rv]
  | d + 1, i, x, h1, h2, h3, h4, h5, h => by
    have hlt : i < s.size := by omega
    have hb := bt_get hlt
    have hc := List.drop_eq_getElem_cons (l := s.data.toList) (i := i) (by rw [← size_eq]; exact hlt)
    have hdig := isD_iff.1 (digL_iff.1 hd _ (List.getElem_mem (l := s.data.toList) (n := i) (by rw [← size_eq]; exact hlt)))
    generalize hcc : s.data.toList[i]'(by rw [← size_eq]; exact hlt) = c at *
    have p1 : 10 ^ (i - fr) ≤ 10 ^ 8 := Nat.pow_le_pow_right (by omega) (by omega)
    have p8 : (10 : Nat) ^ 8 = 100000000 := rfl
    have p2 : 10 ^ (i + 1 - fr) = 10 ^ (i - fr) * 10 := by rw [show i + 1 - fr = (i - fr) + 1 by omega, Nat.pow_succ]
    refine Ev.step (f := fun k => figureheadref01_Number.l1 k s out (fr : Int) ((x * 10 + (c.toNat - 48) : Nat) : Int) ((i + 1 : Nat) : Int)) (fun k => ?_) (Number_in s hd hs out ho fr hf r d (i + 1) (x * 10 + (c.toNat - 48)) (by omega) (by omega) (by omega) h4 (by omega) ?_)
    · simp only [figureheadref01_Number.l1]; rw [if_pos (by omega), if_pos (by omega), hb, w64 (by omega) (by omega)]
      congr 1; omega
    · refine evIs h rfl |> fun h => ?_
      have e : x * 10 ^ (d + 1) + rv (s.data.toList.drop i).reverse = (x * 10 + (c.toNat - 48)) * 10 ^ d + rv (s.data.toList.drop (i + 1)).reverse := by
        have hl : (s.data.toList.drop (i + 1)).length = d := by rw [List.length_drop, ← size_eq]; omega
        rw [hc, List.reverse_cons, rv_append, List.length_reverse, hl]
        simp only [rv, Nat.mul_zero, Nat.add_zero]
        rw [Nat.pow_succ, Nat.add_mul, Nat.mul_comm (c.toNat - 48), Nat.mul_comm (10 ^ d) 10, ← Nat.mul_assoc]; omega
      rw [← e]; exact h
theorem vB_nonzero {s : ByteArray} (hd : dB s = true) (hh : s.data.toList.head? ≠ some 48) (hs : 0 < s.size) : vB s ≠ 0 := by
  intro h
  have := rv_zero (l := s.data.toList.reverse) (by rw [digL_reverse]; exact hd) (canonR_of_head hh) h
  rw [List.reverse_eq_nil_iff] at this
  rw [size_eq, this] at hs; simp at hs
theorem Number_loop : ∀ (z : Nat) (s : ByteArray) (out : List Int), s.size = z → dB s = true → s.data.toList.head? ≠ some 48 → s.size ≤ 1000000000000 → out.length + s.size ≤ 1000000000000 → Ev (fun k => figureheadref01_Number.l0 k s out) (out ++ limbs (vB s)) := by
  intro z
  induction z using Nat.strongRecOn with
  | _ z ih =>
  intro s out hz hd hh hs ho
  by_cases h0 : s.size = 0
  · refine evDone (r' := out) (fun k => ?_) ?_
    · simp only [figureheadref01_Number.l0]; rw [if_neg (by omega)]
    · have : s.data.toList = [] := List.eq_nil_of_length_eq_zero (by rw [← size_eq]; exact h0)
      unfold vB; rw [this]; simp [rv, limbs_zero]
  · obtain ⟨fr, hfr⟩ : ∃ fr : Nat, fr = s.size - 9 := ⟨_, rfl⟩
    have em : mx 0 (wrap64 ((s.size : Int) - 9)) = (fr : Int) := by rw [w64 (by omega) (by omega)]; unfold mx; split <;> omega
    refine Ev.step (f := fun k => figureheadref01_Number.l1 k s out (fr : Int) ((0 : Nat) : Int) (fr : Int)) (fun k => ?_) (Number_in s hd hs out (by omega) fr (by omega) _ (s.size - fr) fr 0 rfl (by omega) (by omega) (by omega) (by simp) ?_)
    · simp only [figureheadref01_Number.l0]; rw [if_pos (by omega), em]; rfl
    · have e1 : (s.extract 0 fr).data.toList = s.data.toList.take fr := B_to s fr
      have e2 : (s.extract 0 fr).size = fr := by rw [size_eq, e1, List.length_take, ← size_eq]; omega
      have hd2 : dB (s.extract 0 fr) = true := by unfold dB; rw [e1]; exact digL_take hd _
      have hv : vB s = rv (s.data.toList.drop fr).reverse + 10 ^ (s.size - fr) * vB (s.extract 0 fr) := by
        unfold vB; rw [e1]
        conv => lhs; rw [← List.take_append_drop fr s.data.toList, List.reverse_append, rv_append]
        rw [List.length_reverse, List.length_drop, ← size_eq]
      have hx : rv (s.data.toList.drop fr).reverse < 10 ^ (s.size - fr) := by
        have := rv_lt (l := (s.data.toList.drop fr).reverse) (by rw [digL_reverse]; exact digL_drop hd _)
        rwa [List.length_reverse, List.length_drop, ← size_eq] at this
      have hp : 10 ^ (s.size - fr) ≤ 10 ^ 9 := Nat.pow_le_pow_right (by omega) (by omega)
      have p9 : (10 : Nat) ^ 9 = 1000000000 := rfl
      generalize hxx : rv (s.data.toList.drop fr).reverse = x at *
      rw [Nat.zero_mul, Nat.zero_add]
      have hne : vB s ≠ 0 := vB_nonzero hd hh (by omega)
      have hh2 : (s.extract 0 fr).data.toList.head? ≠ some 48 := by
        rw [e1]
        rcases hfz : fr with _ | f
        · simp
        · rcases hll : s.data.toList with _ | ⟨c, l⟩
          · simp
          · rw [hll] at hh; simpa using hh
      refine evIs (ih fr (by omega) (s.extract 0 fr) (out ++ [(x : Int)]) e2 hd2 hh2 (by omega) (by rw [List.length_append, e2]; simp; omega)) ?_
      rw [List.append_assoc, List.singleton_append]
      congr 1
      rw [hv]
      by_cases hf0 : fr = 0
      · have hz0 : vB (s.extract 0 fr) = 0 := by
          have : (s.extract 0 fr).data.toList = [] := List.eq_nil_of_length_eq_zero (by rw [← size_eq]; omega)
          unfold vB; rw [this]; rfl
        rw [hz0] at hv ⊢
        have := limbs_cons (x := (x : Int)) ⟨by omega, by omega⟩ 0 (.inr (by omega))
        rw [this]; congr 1
      · have := limbs_cons (x := (x : Int)) ⟨by omega, by omega⟩ (vB (s.extract 0 fr)) (.inl (vB_nonzero hd2 hh2 (by omega)))
        rw [this, show s.size - fr = 9 by omega, p9]; congr 1
theorem Number_ev {s : ByteArray} (hd : dB s = true) (hs : s.size ≤ 1000000000000) : Ev (fun k => figureheadref01_Number.f k s) (limbs (vB s)) := by
  refine Ev.bind (StripD_ev (by omega) hd) ?_
  have hz : (digB (vB s)).size ≤ s.size := by rw [← stripB_eq hd, size_eq, size_eq]; exact stripL_len _
  refine evIs (Number_loop _ (digB (vB s)) [] rfl (dB_digB _) (digs_head _) (by omega) (by simpa using (by omega))) ?_
  rw [vB_digB]; rfl

end Go.Proofs.YtnpibnjncjieaaaDoor.Px

namespace Go.Proofs.YtnpibnjncjieaaaDoor.Px
open Fig Go.RowKit Go.Proofs.YtnpibnjncjieaaaDoorW.PrintWords Go.Proofs.YtnpibnjncjieaaaDoorW.PrintLast Go.Proofs.YtnpibnjncjieaaaDoorW.PrintMore
attribute [local go_sem] max2_int min2_int max_two min_two max_three min_three max_four min_four   -- for this text's walks alone

/-! ### figureheadref01_Good: function 21 -/
def figureheadref01_Good.l0 : Nat → List Int → Int → Option (Bool)
  | 0, _, _ => none
  | k + 1, x0, x3 => if x3 < (x0.length : Int) then (if 0 ≤ x3 then (if (rd x0 x3) > 999999999 then (some false) else (figureheadref01_Good.l0 k x0 (wrap64 (x3 + 1)))) else (none)) else (some true)
def figureheadref01_Good.f (k : Nat) (l0 : List Int) : Option (Bool) := figureheadref01_Good.l0 k l0 0
theorem figureheadref01_Good.mono_l : ∀ k, (∀ y0 y1, LeO (figureheadref01_Good.l0 k y0 y1) (figureheadref01_Good.l0 (k + 1) y0 y1))
  | 0 => fun _ _ r h => by simp [figureheadref01_Good.l0] at h
  | k + 1 => by
    have ih0 := figureheadref01_Good.mono_l k
    · intro y0 y1
      unfold figureheadref01_Good.l0
      repeat' first
      | (with_reducible exact ih0 _ _)
      | (with_reducible exact LeO.refl _)
      | (with_reducible exact LeO.none _)
      | (with_reducible refine LeO.ite ?_ ?_)
      | (with_reducible refine LeO.bind ?_ (fun _ => ?_))
      | exact ih0 _ _
      | exact LeO.none _
      | refine LeO.ite ?_ ?_
      | refine LeO.bind ?_ (fun _ => ?_)
theorem figureheadref01_Good.mono : ∀ a0 k, LeO (figureheadref01_Good.f k a0) (figureheadref01_Good.f (k + 1) a0) := by
  intro a0 k
  have ih0 := figureheadref01_Good.mono_l k
  unfold figureheadref01_Good.f
  repeat' first
      | (with_reducible exact ih0 _ _)
      | (with_reducible exact LeO.refl _)
      | (with_reducible exact LeO.none _)
      | (with_reducible refine LeO.ite ?_ ?_)
      | (with_reducible refine LeO.bind ?_ (fun _ => ?_))
      | exact ih0 _ _
      | exact LeO.none _
      | refine LeO.ite ?_ ?_
      | refine LeO.bind ?_ (fun _ => ?_)
set_option maxHeartbeats 8000000 in
set_option maxRecDepth 100000 in
theorem figureheadref01_Good.calls (k : Nat) (A0 : Option Addr) (c0 : Nat) (l0 : List Int) (r : Bool) (w : World) (hr0 : Kd.C (Kd.int .u32) w A0 l0.length l0) (hc0 : l0.length ≤ c0) (h : figureheadref01_Good.f k l0 = some r) :
    Calls Tryd.prog 21 #[.slice A0 l0.length c0] w fun e w' => e = .returned (.bool r) ∧ Drawn0 w w' := by
  have HR0 := Aside0.mk hr0
  have HC0 := Aside0.mk hc0
  clear hr0 hc0
  have H : (figureheadref01_Good.l0 k l0 0) = some r := h
  clear h
  have H' := Aside0.mk H
  clear H
  go_enter Tryd.func21, Tryd.ntmps21
  go_wp2
  go_loopg [3] k (fun kq v3 w' => ∃ (x3_1 : Int), v3 = .int .i64 x3_1 ∧ Aside0 (figureheadref01_Good.l0 kq l0 x3_1 = some r) ∧ Aside0 (kq ≤ k) ∧ Drawn0 w w')
  case atStart => exact ⟨(0), (by first | rfl | (simp; done) | (simp [*]; done) | (simp [*, Fig.bne_nil]; done)), H', ⟨Nat.le_refl _⟩, by repeat (first | exact Drawn0.refl _ | apply Drawn0.step)⟩
  case round =>
    clear H'
    obtain ⟨x3_1, rfl, HA, HK1, ⟨m1, rfl⟩⟩ := hrel
    cases gk with
    | zero => exact absurd HA.out (by simp [figureheadref01_Good.l0])
    | succ k1 =>
      have H := HA.out
      clear HA
      simp only [figureheadref01_Good.l0] at H
      by_cases c2 : x3_1 < (l0.length : Int)
      · rw [if_pos c2] at H
        have c2b0 : decide (x3_1 < (l0.length : Int)) = true := decide_eq_true c2
        clear c2
        by_cases c3 : 0 ≤ x3_1
        · rw [if_pos c3] at H
          have c3b0 : decide (0 ≤ x3_1) = true := decide_eq_true c3
          clear c3
          by_cases c4 : (rd l0 x3_1) > 999999999
          · rw [if_pos c4] at H
            have c4b0 : decide (999999999 < (rd l0 x3_1)) = true := decide_eq_true c4
            clear c4
            obtain rfl := Option.some.inj H
            have p101 : 0 ≤ (x3_1 : Int) := of_decide_eq_true (by first | (with_reducible assumption) | assumption)
            have q101 : x3_1 < (l0.length : Int) := of_decide_eq_true (by first | (with_reducible assumption) | assumption)
            obtain ⟨ad101, e101, hx101_0⟩ := Kd.at_int HR0.out x3_1 p101 q101
            cases e101
            replace p101 := eq_true p101
            replace q101 := eq_true q101
            go_wp2
            go_ret
            exact ⟨by first | rfl | (simp; done) | (simp [*]; done) | (simp [*, Fig.bne_nil]; done), by repeat (first | exact Drawn0.refl _ | apply Drawn0.step)⟩
          · rw [if_neg c4] at H
            have c4b0 : decide (999999999 < (rd l0 x3_1)) = false := decide_eq_false c4
            clear c4
            have H' := Aside0.mk H
            clear H
            have p101 : 0 ≤ (x3_1 : Int) := of_decide_eq_true (by first | (with_reducible assumption) | assumption)
            have q101 : x3_1 < (l0.length : Int) := of_decide_eq_true (by first | (with_reducible assumption) | assumption)
            obtain ⟨ad101, e101, hx101_0⟩ := Kd.at_int HR0.out x3_1 p101 q101
            cases e101
            replace p101 := eq_true p101
            replace q101 := eq_true q101
            go_wp2
            go_roundg k1
            case measure => have := HK1.out; omega
            case rel => exact ⟨(wrap64 (x3_1 + 1)), (by first | rfl | (simp; done) | (simp [*]; done) | (simp [*, Fig.bne_nil]; done)), H', ⟨by have := HK1.out; omega⟩, by repeat (first | exact Drawn0.refl _ | apply Drawn0.step)⟩
        · rw [if_neg c3] at H
          exact absurd H (by simp)
      · rw [if_neg c2] at H
        have c2b0 : decide (x3_1 < (l0.length : Int)) = false := decide_eq_false c2
        clear c2
        obtain rfl := Option.some.inj H
        go_wp2
        go_ret
        exact ⟨by first | rfl | (simp; done) | (simp [*]; done) | (simp [*, Fig.bne_nil]; done), by repeat (first | exact Drawn0.refl _ | apply Drawn0.step)⟩

end Go.Proofs.YtnpibnjncjieaaaDoor.Px

namespace Go.Proofs.YtnpibnjncjieaaaDoor.Px
open Fig Go.RowKit Go.Proofs.YtnpibnjncjieaaaDoorW.PrintWords Go.Proofs.YtnpibnjncjieaaaDoorW.PrintLast Go.Proofs.YtnpibnjncjieaaaDoorW.PrintMore
attribute [local go_sem] max2_int min2_int max_two min_two max_three min_three max_four min_four   -- for this text's walks alone

/-! plain facts: figureheadref01_Good -/
theorem Good_loop (l : List Int) (hl : l.length ≤ 4611686018427387904) (h0 : ∀ x ∈ l, 0 ≤ x) : ∀ (d n : Nat), l.length - n = d → n ≤ l.length → Ev (fun k => figureheadref01_Good.l0 k l (n : Int)) (goodL (l.drop n))
  | 0, n, hd, hn => by
    refine evDone (r' := true) (fun k => ?_) ?_
    · simp only [figureheadref01_Good.l0]; rw [if_neg (by omega)]
    · rw [List.drop_of_length_le (by omega)]; rfl
  | d + 1, n, hd, hn => by
    have hlt : n < l.length := by omega
    have hb := rd_get hlt
    have hc := List.drop_eq_getElem_cons hlt
    have hp := h0 _ (List.getElem_mem hlt)
    by_cases h9 : rd l (n : Int) > 999999999
    · refine evDone (r' := false) (fun k => ?_) ?_
      · simp only [figureheadref01_Good.l0]; rw [if_pos (by omega), if_pos (by omega), if_pos h9]
      · rw [hc]; symm; rw [Bool.eq_false_iff]; intro e; have := (goodL_cons.1 e).1; omega
    · refine Ev.step (f := fun k => figureheadref01_Good.l0 k l ((n + 1 : Nat) : Int)) (fun k => ?_) ?_
      · simp only [figureheadref01_Good.l0]; rw [if_pos (by omega), if_pos (by omega), if_neg h9, w64 (by omega) (by omega)]; rfl
      · have := Good_loop l hl h0 d (n + 1) (by omega) (by omega)
        rw [hc]
        have e : goodL (l[n] :: l.drop (n + 1)) = goodL (l.drop (n + 1)) := by
          rw [Bool.eq_iff_iff, goodL_cons]
          exact ⟨fun h => h.2, fun h => ⟨⟨hp, by omega⟩, h⟩⟩
        rw [e]; exact this
theorem Good_ev {l : List Int} (hl : l.length ≤ 4611686018427387904) (h0 : ∀ x ∈ l, 0 ≤ x) : Ev (fun k => figureheadref01_Good.f k l) (goodL l) := by
  have := Good_loop l hl h0 l.length 0 (by omega) (by omega)
  simpa [figureheadref01_Good.f] using this

end Go.Proofs.YtnpibnjncjieaaaDoor.Px

namespace Go.Proofs.YtnpibnjncjieaaaDoor.Px
open Fig Go.RowKit Go.Proofs.YtnpibnjncjieaaaDoorW.PrintWords Go.Proofs.YtnpibnjncjieaaaDoorW.PrintLast Go.Proofs.YtnpibnjncjieaaaDoorW.PrintMore
attribute [local go_sem] max2_int min2_int max_two min_two max_three min_three max_four min_four   -- for this text's walks alone

/-! ### figureheadlaw04_good: function 8 -/
def figureheadlaw04_good.f (k : Nat) (l0 : List Int) : Option (Bool) := if (l0.length : Int) ≤ 40 then ((figureheadref01_Good.f k l0).bind fun t102 => (some t102)) else (some false)
theorem figureheadlaw04_good.mono : ∀ a0 k, LeO (figureheadlaw04_good.f k a0) (figureheadlaw04_good.f (k + 1) a0) := by
  intro a0 k
  unfold figureheadlaw04_good.f
  repeat' first
      | (with_reducible exact figureheadref01_Good.mono _ _)
      | (with_reducible exact LeO.refl _)
      | (with_reducible exact LeO.none _)
      | (with_reducible refine LeO.ite ?_ ?_)
      | (with_reducible refine LeO.bind ?_ (fun _ => ?_))
      | exact figureheadref01_Good.mono _ _
      | exact LeO.none _
      | refine LeO.ite ?_ ?_
      | refine LeO.bind ?_ (fun _ => ?_)
set_option maxHeartbeats 8000000 in
set_option maxRecDepth 100000 in
theorem figureheadlaw04_good.calls (k : Nat) (A0 : Option Addr) (c0 : Nat) (l0 : List Int) (r : Bool) (w : World) (hr0 : Kd.C (Kd.int .u32) w A0 l0.length l0) (hc0 : l0.length ≤ c0) (h : figureheadlaw04_good.f k l0 = some r) :
    Calls Tryd.prog 8 #[.slice A0 l0.length c0] w fun e w' => e = .returned (.bool r) ∧ Drawn0 w w' := by
  have HR0 := Aside0.mk hr0
  have HC0 := Aside0.mk hc0
  clear hr0 hc0
  have H : (if (l0.length : Int) ≤ 40 then ((figureheadref01_Good.f k l0).bind fun t102 => (some t102)) else (some false)) = some r := h
  clear h
  by_cases c2 : (l0.length : Int) ≤ 40
  · rw [if_pos c2] at H
    have c2b0 : decide ((l0.length : Int) ≤ 40) = true := decide_eq_true c2
    have c2b1 : decide (l0.length ≤ 40) = true := decide_eq_true (by omega)
    clear c2
    replace H := Option.bind_eq_some_iff.mp H
    obtain ⟨t102, A30, H⟩ := H
    replace H : (some t102) = some r := H
    have A3 := Aside0.mk A30
    clear A30
    obtain rfl := Option.some.inj H
    go_enter Tryd.func8, Tryd.ntmps8
    go_wp2_with (first | ((with_reducible refine gate_dst (N := 8) rfl ?_); (refine gate_guard (by rfl) ?_; dsimp only); (with_reducible refine gate_callee (f := 21) rfl ?_); refine goesL_ (some 8) rfl rfl Tryd.func21 (by kernel_rfl) rfl #[.slice A0 l0.length c0] rfl (by (try simp only [List.map_toArray, List.map_cons, List.map_nil]); first | done | rfl | (simp only [List.length_drop, List.length_take]; rfl)) ?_; (with_reducible refine (figureheadref01_Good.calls k _ _ l0 t102 _ ?side1 ?side2 A3.out).mono ?_); (case side1 => repeat (first | exact HR0.out | (with_reducible refine Kd.C_alloc ?_ _) | (with_reducible refine Kd.C_drewN ?_ _) | (with_reducible refine Kd.C_drew ?_))); (case side2 => exact HC0.out); rintro e w' ⟨rfl, ⟨nd, rfl⟩⟩; refine ⟨_, rfl, ?_⟩))
    go_ret
    exact ⟨by first | rfl | (simp; done) | (simp [*]; done) | (simp [*, Fig.bne_nil]; done), by repeat (first | exact Drawn0.refl _ | apply Drawn0.step)⟩
  · rw [if_neg c2] at H
    have c2b0 : decide ((l0.length : Int) ≤ 40) = false := decide_eq_false c2
    have c2b1 : decide (l0.length ≤ 40) = false := decide_eq_false (by omega)
    clear c2
    obtain rfl := Option.some.inj H
    go_enter Tryd.func8, Tryd.ntmps8
    go_wp2
    go_ret
    exact ⟨by first | rfl | (simp; done) | (simp [*]; done) | (simp [*, Fig.bne_nil]; done), by repeat (first | exact Drawn0.refl _ | apply Drawn0.step)⟩

end Go.Proofs.YtnpibnjncjieaaaDoor.Px

namespace Go.Proofs.YtnpibnjncjieaaaDoor.Px
open Fig Go.RowKit Go.Proofs.YtnpibnjncjieaaaDoorW.PrintWords Go.Proofs.YtnpibnjncjieaaaDoorW.PrintLast Go.Proofs.YtnpibnjncjieaaaDoorW.PrintMore
attribute [local go_sem] max2_int min2_int max_two min_two max_three min_three max_four min_four   -- for this text's walks alone

/-! plain facts: figureheadlaw04_good -/
theorem good04_ev {l : List Int} (h0 : ∀ x ∈ l, 0 ≤ x ∧ x < 4294967296) (hl : l.length ≤ 1000000000000000000) : Ev (fun k => figureheadlaw04_good.f k l) (decide (l.length ≤ 40) && goodL l) := by
  unfold figureheadlaw04_good.f
  by_cases h : l.length ≤ 40
  · have h2 : (l.length : Int) ≤ 40 := by omega
    simp only [h2, h, if_true, decide_true, Bool.true_and]
    exact Ev.bind (Good_ev (by omega) (fun x hx => (h0 x hx).1)) (Ev.now _)
  · have h2 : ¬ (l.length : Int) ≤ 40 := by omega
    simp only [h2, h, if_false, decide_false, Bool.false_and]
    exact Ev.now _

end Go.Proofs.YtnpibnjncjieaaaDoor.Px

namespace Go.Proofs.YtnpibnjncjieaaaDoor.Px
open Fig Go.RowKit Go.Proofs.YtnpibnjncjieaaaDoorW.PrintWords Go.Proofs.YtnpibnjncjieaaaDoorW.PrintLast Go.Proofs.YtnpibnjncjieaaaDoorW.PrintMore
attribute [local go_sem] max2_int min2_int max_two min_two max_three min_three max_four min_four   -- for this text's walks alone

/-! ### figureheadref01_Text: function 10 -/
mutual
def figureheadref01_Text.l0 : Nat → List Int → ByteArray → Int → Option (ByteArray)
  | 0, _, _, _ => none
  | k + 1, x0, x3, x4 => if x4 < (x0.length : Int) then (if 0 ≤ x4 then (figureheadref01_Text.l1 k x0 x3 x4 (rd x0 x4) 0) else (none)) else ((figureheadref01_Strip.f k x3).bind fun t152 => (some t152))
def figureheadref01_Text.l1 : Nat → List Int → ByteArray → Int → Int → Int → Option (ByteArray)
  | 0, _, _, _, _, _ => none
  | k + 1, x0, x3, x4, x5, x6 => if x6 < 9 then ((some (([((48 + (Int.tmod x5 10)) % 4294967296) % 256] : List Int) : List Int)).bind fun y154 => (if (strOfNums y154).size + x3.size ≤ 9223372036854775807 then (figureheadref01_Text.l1 k x0 ((strOfNums y154) ++ x3) x4 ((Int.tdiv x5 10) % 4294967296) (wrap64 (x6 + 1))) else (none))) else (figureheadref01_Text.l0 k x0 x3 (wrap64 (x4 + 1)))
end
def figureheadref01_Text.f (k : Nat) (l0 : List Int) : Option (ByteArray) := figureheadref01_Text.l0 k l0 (⟨#[]⟩ : ByteArray) 0
theorem figureheadref01_Text.mono_l : ∀ k, (∀ y0 y1 y2, LeO (figureheadref01_Text.l0 k y0 y1 y2) (figureheadref01_Text.l0 (k + 1) y0 y1 y2)) ∧ (∀ y0 y1 y2 y3 y4, LeO (figureheadref01_Text.l1 k y0 y1 y2 y3 y4) (figureheadref01_Text.l1 (k + 1) y0 y1 y2 y3 y4))
  | 0 => ⟨fun _ _ _ r h => by simp [figureheadref01_Text.l0] at h, fun _ _ _ _ _ r h => by simp [figureheadref01_Text.l1] at h⟩
  | k + 1 => by
    obtain ⟨ih0, ih1⟩ := figureheadref01_Text.mono_l k
    refine ⟨?_, ?_⟩
    · intro y0 y1 y2
      unfold figureheadref01_Text.l0
      repeat' first
      | (with_reducible exact ih0 _ _ _)
      | (with_reducible exact ih1 _ _ _ _ _)
      | (with_reducible exact figureheadref01_Strip.mono _ _)
      | (with_reducible exact LeO.refl _)
      | (with_reducible exact LeO.none _)
      | (with_reducible refine LeO.ite ?_ ?_)
      | (with_reducible refine LeO.bind ?_ (fun _ => ?_))
      | exact ih0 _ _ _
      | exact ih1 _ _ _ _ _
      | exact figureheadref01_Strip.mono _ _
      | exact LeO.none _
      | refine LeO.ite ?_ ?_
      | refine LeO.bind ?_ (fun _ => ?_)
    · intro y0 y1 y2 y3 y4
      unfold figureheadref01_Text.l1
      repeat' first
      | (with_reducible exact ih0 _ _ _)
      | (with_reducible exact ih1 _ _ _ _ _)
      | (with_reducible exact figureheadref01_Strip.mono _ _)
      | (with_reducible exact LeO.refl _)
      | (with_reducible exact LeO.none _)
      | (with_reducible refine LeO.ite ?_ ?_)
      | (with_reducible refine LeO.bind ?_ (fun _ => ?_))
      | exact ih0 _ _ _
      | exact ih1 _ _ _ _ _
      | exact figureheadref01_Strip.mono _ _
      | exact LeO.none _
      | refine LeO.ite ?_ ?_
      | refine LeO.bind ?_ (fun _ => ?_)
theorem figureheadref01_Text.mono : ∀ a0 k, LeO (figureheadref01_Text.f k a0) (figureheadref01_Text.f (k + 1) a0) := by
  intro a0 k
  obtain ⟨ih0, ih1⟩ := figureheadref01_Text.mono_l k
  unfold figureheadref01_Text.f
  repeat' first
      | (with_reducible exact ih0 _ _ _)
      | (with_reducible exact ih1 _ _ _ _ _)
      | (with_reducible exact figureheadref01_Strip.mono _ _)
      | (with_reducible exact LeO.refl _)
      | (with_reducible exact LeO.none _)
      | (with_reducible refine LeO.ite ?_ ?_)
      | (with_reducible refine LeO.bind ?_ (fun _ => ?_))
      | exact ih0 _ _ _
      | exact ih1 _ _ _ _ _
      | exact figureheadref01_Strip.mono _ _
      | exact LeO.none _
      | refine LeO.ite ?_ ?_
      | refine LeO.bind ?_ (fun _ => ?_)
set_option maxHeartbeats 8000000 in
set_option maxRecDepth 100000 in
theorem figureheadref01_Text.calls (k : Nat) (A0 : Option Addr) (c0 : Nat) (l0 : List Int) (r : ByteArray) (w : World) (hr0 : Kd.C (Kd.int .u32) w A0 l0.length l0) (hc0 : l0.length ≤ c0) (h : figureheadref01_Text.f k l0 = some r) :
    Calls Tryd.prog 10 #[.slice A0 l0.length c0] w fun e w' => e = .returned (.string r) ∧ Below w.heap.size w w' := by
  have HR0 := Aside0.mk hr0
  have HC0 := Aside0.mk hc0
  clear hr0 hc0
  have HB := Aside0.mk (Below.refl w.heap.size w)
  have H : (figureheadref01_Text.l0 k l0 (⟨#[]⟩ : ByteArray) 0) = some r := h
  clear h
  have H' := Aside0.mk H
  clear H
  go_enter Tryd.func10, Tryd.ntmps10
  go_wp2
  go_loopg [3, 4] k (fun kq v3 v4 w' => ∃ (x3_1 : ByteArray) (x4_1 : Int), v3 = .string x3_1 ∧ v4 = .int .i64 x4_1 ∧ Aside0 (figureheadref01_Text.l0 kq l0 x3_1 x4_1 = some r) ∧ Aside0 (kq ≤ k) ∧ Aside0 (Below w.heap.size w w'))
  case atStart => exact ⟨((⟨#[]⟩ : ByteArray)), (0), (by first | rfl | (simp; done) | (simp [*]; done) | (simp [*, Fig.bne_nil]; done)), (by first | rfl | (simp; done) | (simp [*]; done) | (simp [*, Fig.bne_nil]; done)), H', ⟨Nat.le_refl _⟩, ⟨by repeat (first | (with_reducible first | exact HB.out | apply below_alloc | apply pw_below_drewN | apply below_drew1) | exact HB.out)⟩⟩
  case round =>
    clear H'
    try clear c1
    obtain ⟨x3_1, x4_1, rfl, rfl, HA, HK1, HB⟩ := hrel
    cases gk with
    | zero => exact absurd HA.out (by simp [figureheadref01_Text.l0])
    | succ k1 =>
      have H := HA.out
      clear HA
      simp only [figureheadref01_Text.l0] at H
      by_cases c2 : x4_1 < (l0.length : Int)
      · rw [if_pos c2] at H
        have c2b0 : decide (x4_1 < (l0.length : Int)) = true := decide_eq_true c2
        clear c2
        by_cases c3 : 0 ≤ x4_1
        · rw [if_pos c3] at H
          have c3b0 : decide (0 ≤ x4_1) = true := decide_eq_true c3
          clear c3
          have H' := Aside0.mk H
          clear H
          have p153 : 0 ≤ (x4_1 : Int) := of_decide_eq_true (by first | (with_reducible assumption) | assumption)
          have q153 : x4_1 < (l0.length : Int) := of_decide_eq_true (by first | (with_reducible assumption) | assumption)
          obtain ⟨ad153, e153, hx153_0⟩ := Kd.at_int HR0.out x4_1 p153 q153
          cases e153
          replace hx153_0 := (HB.out.cell (World.block_lt_of_cell? w _ hx153_0)).trans hx153_0
          replace p153 := eq_true p153
          replace q153 := eq_true q153
          go_wp2
          go_loopg [3, 5, 6] k1 (fun kq v3 v5 v6 w' => ∃ (x3_2 : ByteArray) (x5_2 : Int) (x6_2 : Int), v3 = .string x3_2 ∧ v5 = .int .u32 x5_2 ∧ v6 = .int .i64 x6_2 ∧ Aside0 (figureheadref01_Text.l1 kq l0 x3_2 x4_1 x5_2 x6_2 = some r) ∧ Aside0 (kq ≤ k1) ∧ Aside0 (Below w.heap.size w w'))
          case atStart => exact ⟨(x3_1), (rd l0 x4_1), (0), (by first | rfl | (simp; done) | (simp [*]; done) | (simp [*, Fig.bne_nil]; done)), (by first | rfl | (simp; done) | (simp [*]; done) | (simp [*, Fig.bne_nil]; done)), (by first | rfl | (simp; done) | (simp [*]; done) | (simp [*, Fig.bne_nil]; done)), H', ⟨Nat.le_refl _⟩, ⟨by repeat (first | (with_reducible first | exact HB.out | apply below_alloc | apply pw_below_drewN | apply below_drew1) | exact HB.out)⟩⟩
          case round =>
            clear H'
            try clear c1
            try clear p1
            try clear q1
            try clear hx1
            try clear c2
            try clear c2b0
            try clear p2
            try clear c3
            try clear c3b0
            try clear hx153_0
            try clear p153
            try clear q153
            obtain ⟨x3_2, x5_2, x6_2, rfl, rfl, rfl, HA, HK2, HB⟩ := hrel
            cases gk with
            | zero => exact absurd HA.out (by simp [figureheadref01_Text.l1])
            | succ k2 =>
              have H := HA.out
              clear HA
              simp only [figureheadref01_Text.l1] at H
              by_cases c4 : x6_2 < 9
              · rw [if_pos c4] at H
                have c4b0 : decide (x6_2 < 9) = true := decide_eq_true c4
                clear c4
                obtain ⟨y154, hy154⟩ : ∃ y_ : List Int, y_ = (([((48 + (Int.tmod x5_2 10)) % 4294967296) % 256] : List Int)) := ⟨_, rfl⟩
                replace H : (if (strOfNums y154).size + x3_2.size ≤ 9223372036854775807 then (figureheadref01_Text.l1 k2 l0 ((strOfNums y154) ++ x3_2) x4_1 ((Int.tdiv x5_2 10) % 4294967296) (wrap64 (x6_2 + 1))) else (none)) = some r := by first | (rw [hy154]; with_reducible exact H) | (have H2_ := (Option.bind_some _ _).symm.trans H; rw [hy154]; with_reducible exact H2_) | (have H2_ := (Option.bind_some _ _).symm.trans H; with_reducible exact H2_) | with_reducible exact H | (rw [hy154]; exact H) | exact H
                have Ny154 := Aside0.mk hy154
                clear hy154
                by_cases c5 : (strOfNums y154).size + x3_2.size ≤ 9223372036854775807
                · rw [if_pos c5] at H
                  have c5b0 := eq_true c5
                  have c5b1 : decide ((strOfNums y154).size + x3_2.size ≤ 9223372036854775807) = true := decide_eq_true c5
                  try have c5b2 : (9223372036854775807 < (strOfNums y154).size + x3_2.size) = False := eq_false (Nat.not_lt.2 c5)
                  have H' := Aside0.mk H
                  clear H
                  go_wp2_with (first | ((with_reducible refine gate_dst (N := 25) rfl ?_); refine Kd.R_lit (Kd.int .u8) _ 5 ?hg (N := 25) ?hd (xs := ([((48 + (Int.tmod x5_2 10)) % 4294967296) % 256] : List Int)) (inner := [.int .u8 (((48 + (Int.tmod x5_2 10)) % 4294967296) % 256)]) (ok := fun _ => True) (okp := fun _ => True) ?hr ?hp (fun _ hk => hk) trivial (Below.refl _ _) (Nat.le_refl _) (by simp) ?_; (case hd => rfl); (case hg => rfl); (case hr => first | (go_simp; done) | (go_simp; rfl)); (case hp => exact (Reps.one (show Kd.M (Kd.int .u8) _ _ _ (((48 + (Int.tmod x5_2 10)) % 4294967296) % 256) [.int .u8 (((48 + (Int.tmod x5_2 10)) % 4294967296) % 256)] from rfl) (Reps.none _ _))); intro v155 w6 ho7 hb hg_ hnew_; clear hg_ hnew_; (first | rw [← Ny154.out] at ho7 | (simp only [Int.reduceToNat] at ho7; rw [← Ny154.out] at ho7)); have n0_ := Aside0.mk (Kd.R_lower ho7 (below_size (by repeat (first | (with_reducible first | exact HB.out | apply below_alloc | apply pw_below_drewN | apply below_drew1) | exact HB.out)))); have n1_ := Aside0.mk (below_step (by repeat (first | (with_reducible first | exact HB.out | apply below_alloc | apply pw_below_drewN | apply below_drew1) | exact HB.out)) hb); clear HB; have HO156 := n0_; have HB := n1_; clear n0_ n1_; clear hb ho7; have hcv8 := own_string (P := Tryd.prog) Tryd.underlying41 Tryd.underlying5 Tryd.underlying9 (Kd.own_of_R HO156.out)))
                  go_roundg k2
                  case measure => have := HK1.out; have := HK2.out; omega
                  case rel => exact ⟨((strOfNums y154) ++ x3_2), ((Int.tdiv x5_2 10) % 4294967296), (wrap64 (x6_2 + 1)), (by first | rfl | (simp; done) | (simp [*]; done) | (simp [*, Fig.bne_nil]; done)), (by first | rfl | (simp; done) | (simp [*]; done) | (simp [*, Fig.bne_nil]; done)), (by first | rfl | (simp; done) | (simp [*]; done) | (simp [*, Fig.bne_nil]; done)), H', ⟨by have := HK1.out; have := HK2.out; omega⟩, ⟨by repeat (first | (with_reducible first | exact HB.out | apply below_alloc | apply pw_below_drewN | apply below_drew1) | exact HB.out)⟩⟩
                · rw [if_neg c5] at H
                  exact absurd H (by simp)
              · rw [if_neg c4] at H
                have c4b0 : decide (x6_2 < 9) = false := decide_eq_false c4
                clear c4
                have H' := Aside0.mk H
                clear H
                go_wp2
                go_roundg k2
                case measure => have := HK1.out; have := HK2.out; omega
                case rel => exact ⟨(x3_2), (wrap64 (x4_1 + 1)), (by first | rfl | (simp; done) | (simp [*]; done) | (simp [*, Fig.bne_nil]; done)), (by first | rfl | (simp; done) | (simp [*]; done) | (simp [*, Fig.bne_nil]; done)), H', ⟨by have := HK1.out; have := HK2.out; omega⟩, ⟨by repeat (first | (with_reducible first | exact HB.out | apply below_alloc | apply pw_below_drewN | apply below_drew1) | exact HB.out)⟩⟩
        · rw [if_neg c3] at H
          exact absurd H (by simp)
      · rw [if_neg c2] at H
        have c2b0 : decide (x4_1 < (l0.length : Int)) = false := decide_eq_false c2
        clear c2
        replace H := Option.bind_eq_some_iff.mp H
        obtain ⟨t152, A90, H⟩ := H
        replace H : (some t152) = some r := H
        have A9 := Aside0.mk A90
        clear A90
        obtain rfl := Option.some.inj H
        go_wp2_with (first | ((with_reducible refine gate_callee (f := 17) rfl ?_); refine goesL_ (some 32) rfl rfl Tryd.func17 (by kernel_rfl) rfl #[.string x3_1] rfl (by (try simp only [List.map_toArray, List.map_cons, List.map_nil]); first | done | rfl | (simp only [List.length_drop, List.length_take]; rfl)) ?_; (with_reducible refine (figureheadref01_Strip.calls k1 x3_1 t152 _ A9.out).mono ?_); rintro e w' ⟨rfl, ⟨nd, rfl⟩⟩; refine ⟨_, rfl, ?_⟩))
        go_ret
        exact ⟨by first | rfl | (simp [errW_none, errW_some] <;> rfl) | (simp [*, errW_none, errW_some] <;> rfl), by repeat (first | (with_reducible first | exact HB.out | apply below_alloc | apply pw_below_drewN | apply below_drew1) | exact HB.out)⟩

end Go.Proofs.YtnpibnjncjieaaaDoor.Px

namespace Go.Proofs.YtnpibnjncjieaaaDoor.Px
open Fig Go.RowKit Go.Proofs.YtnpibnjncjieaaaDoorW.PrintWords Go.Proofs.YtnpibnjncjieaaaDoorW.PrintLast Go.Proofs.YtnpibnjncjieaaaDoorW.PrintMore
attribute [local go_sem] max2_int min2_int max_two min_two max_three min_three max_four min_four   -- for this text's walks alone

/-! plain facts: figureheadref01_Text -/
theorem pow_split (n m : Nat) : 10 ^ (n + m) = 10 ^ n * 10 ^ m := Nat.pow_add 10 n m
theorem one_char {c : Nat} (h : c ≤ 9) : dB (strOfNums [((48 : Int) + (c : Int)) % 4294967296 % 256]) = true ∧ vB (strOfNums [((48 : Int) + (c : Int)) % 4294967296 % 256]) = c ∧ (strOfNums [((48 : Int) + (c : Int)) % 4294967296 % 256]).size = 1 := by
  have e : ((48 : Int) + (c : Int)) % 4294967296 % 256 = ((48 + c : Nat) : Int) := by omega
  have e2 : (UInt8.ofNat (48 + c)).toNat = 48 + c := by rw [UInt8.toNat_ofNat']; omega
  rw [e]
  refine ⟨?_, ?_, ?_⟩
  · unfold dB; rw [B_nums]; simp only [List.map_cons, List.map_nil, Int.toNat_natCast]; rw [digL_cons, isD_iff, e2]; exact ⟨by omega, rfl⟩
  · unfold vB; rw [B_nums]; simp only [List.map_cons, List.map_nil, Int.toNat_natCast, List.reverse_singleton, rv, e2]; omega
  · rw [strOfNums_size]; rfl
theorem Text_in (l : List Int) (i : Nat) (hi : i < 4611686018427387904) (r : ByteArray) : ∀ (m : Nat) (s : ByteArray) (v : Nat), m ≤ 9 → v < 4294967296 → dB s = true → s.size + m ≤ 4611686018427387904 →
    (∀ s', dB s' = true → vB s' = vB s + 10 ^ s.size * (v % 10 ^ m) → s'.size = s.size + m → Ev (fun k => figureheadref01_Text.l0 k l s' ((i + 1 : Nat) : Int)) r) →
    Ev (fun k => figureheadref01_Text.l1 k l s (i : Int) (v : Int) ((9 - m : Nat) : Int)) r
  | 0, s, v, hm, hv, hd, hs, h => by
    refine Ev.step (f := fun k => figureheadref01_Text.l0 k l s ((i + 1 : Nat) : Int)) (fun k => ?_) (h s hd (by simp [Nat.mod_one]) rfl)
    simp only [figureheadref01_Text.l1]; rw [if_neg (by omega), w64 (by omega) (by omega)]; rfl
  | m + 1, s, v, hm, hv, hd, hs, h => by
    obtain ⟨c1, c2, c3⟩ := one_char (c := v % 10) (by omega)
    have et : Int.tmod (v : Int) 10 = ((v % 10 : Nat) : Int) := by rw [Int.tmod_eq_emod_of_nonneg (by omega)]; omega
    have ed : (Int.tdiv (v : Int) 10) % 4294967296 = ((v / 10 : Nat) : Int) := by rw [Int.tdiv_eq_ediv_of_nonneg (by omega)]; omega
    refine Ev.step (f := fun k => figureheadref01_Text.l1 k l (strOfNums [((48 : Int) + ((v % 10 : Nat) : Int)) % 4294967296 % 256] ++ s) (i : Int) ((v / 10 : Nat) : Int) ((9 - m : Nat) : Int)) (fun k => ?_) (Text_in l i hi r m _ (v / 10) (by omega) (by omega) (dB_append.2 ⟨c1, hd⟩) (by rw [ByteArray.size_append]; omega) ?_)
    · simp only [figureheadref01_Text.l1, Option.bind_some]; rw [if_pos (by omega), et, ed, if_pos (by omega), w64 (by omega) (by omega)]
      congr 1; omega
    · intro s' d' v' z'
      rw [ByteArray.size_append, c3] at z' v'
      refine h s' d' ?_ (by omega)
      rw [v', vB_append, c2]
      have e3 : v % 10 ^ (m + 1) = v % 10 + 10 * (v / 10 % 10 ^ m) := by rw [Nat.pow_succ, Nat.mul_comm (10 ^ m) 10, Nat.mod_mul]
      rw [e3, Nat.mul_add, Nat.add_comm 1 s.size, Nat.pow_succ, Nat.mul_comm (v % 10), ← Nat.mul_assoc]; omega
theorem Text_loop (l : List Int) (hg : goodL l = true) (hl : l.length ≤ 1000000000000) : ∀ (d n : Nat) (s : ByteArray), l.length - n = d → n ≤ l.length → dB s = true → s.size = 9 * n →
    Ev (fun k => figureheadref01_Text.l0 k l s (n : Int)) (digB (vB s + 10 ^ s.size * valL (l.drop n)))
  | 0, n, s, hd, hn, hs, hz => by
    refine Ev.step (f := fun k => (figureheadref01_Strip.f k s).bind fun t => some t) (fun k => ?_) (Ev.bind (StripD_ev (by omega) hs) ?_)
    · simp only [figureheadref01_Text.l0]; rw [if_neg (by omega)]
    · rw [List.drop_of_length_le (by omega)]; simpa [valL] using Ev.now _
  | d + 1, n, s, hd, hn, hs, hz => by
    have hlt : n < l.length := by omega
    have hb := rd_get hlt
    have hc := List.drop_eq_getElem_cons hlt
    have hp := goodL_iff.1 hg _ (List.getElem_mem hlt)
    refine Ev.step (f := fun k => figureheadref01_Text.l1 k l s (n : Int) ((l[n].toNat : Nat) : Int) ((9 - 9 : Nat) : Int)) (fun k => ?_) (Text_in l n (by omega) _ 9 s l[n].toNat (by omega) (by omega) hs (by omega) ?_)
    · simp only [figureheadref01_Text.l0]; rw [if_pos (by omega), if_pos (by omega), hb, Int.toNat_of_nonneg hp.1]; rfl
    · intro s' d' v' z'
      refine evIs (Text_loop l hg hl d (n + 1) s' (by omega) (by omega) d' (by omega)) ?_
      rw [v', z', hc]
      simp only [valL]
      rw [Nat.mod_eq_of_lt (by omega), pow_split, Nat.mul_add, Nat.mul_assoc]
      congr 1; rw [show (10 : Nat) ^ 9 = 1000000000 from rfl]; omega
theorem Text_ev {l : List Int} (hg : goodL l = true) (hl : l.length ≤ 1000000000000) : Ev (fun k => figureheadref01_Text.f k l) (digB (valL l)) := by
  have := Text_loop l hg hl l.length 0 (⟨#[]⟩ : ByteArray) (by omega) (by omega) rfl rfl
  refine evIs this ?_
  congr 1
  show rv [] + 10 ^ 0 * valL l = valL l
  simp [rv]
theorem Text_any_loop (l : List Int) (h0 : ∀ x ∈ l, 0 ≤ x ∧ x < 4294967296) (hl : l.length ≤ 100000000000000000) : ∀ (d n : Nat) (s : ByteArray), l.length - n = d → n ≤ l.length → dB s = true → s.size = 9 * n → ∃ r, Ev (fun k => figureheadref01_Text.l0 k l s (n : Int)) r
  | 0, n, s, hd, hn, hs, hz => by
    refine ⟨_, Ev.step (f := fun k => (figureheadref01_Strip.f k s).bind fun t => some t) (fun k => ?_) (Ev.bind (StripD_ev (by omega) hs) (Ev.now _))⟩
    simp only [figureheadref01_Text.l0]; rw [if_neg (by omega)]
  | d + 1, n, s, hd, hn, hs, hz => by
    have hlt : n < l.length := by omega
    have hb := rd_get hlt
    have hp := h0 _ (List.getElem_mem hlt)
    have key : ∃ r, ∀ s', dB s' = true → vB s' = vB s + 10 ^ s.size * (l[n].toNat % 10 ^ 9) → s'.size = s.size + 9 → Ev (fun k => figureheadref01_Text.l0 k l s' ((n + 1 : Nat) : Int)) r := by
      rcases Classical.em (∃ s', dB s' = true ∧ vB s' = vB s + 10 ^ s.size * (l[n].toNat % 10 ^ 9) ∧ s'.size = s.size + 9) with ⟨s0, a1, a2, a3⟩ | hno
      · obtain ⟨r, hr⟩ := Text_any_loop l h0 hl d (n + 1) s0 (by omega) (by omega) a1 (by omega)
        refine ⟨r, fun s' b1 b2 b3 => ?_⟩
        have : s' = s0 := by
          apply B_ext
          have e := rv_inj (a := s'.data.toList.reverse) (b := s0.data.toList.reverse) (by rw [digL_reverse]; exact b1) (by rw [digL_reverse]; exact a1) (by rw [List.length_reverse, List.length_reverse, ← size_eq, ← size_eq, b3, a3]) (b2.trans a2.symm)
          have e2 := congrArg List.reverse e
          rwa [List.reverse_reverse, List.reverse_reverse] at e2
        rw [this]; exact hr
      · exact ⟨⟨#[]⟩, fun s' b1 b2 b3 => absurd ⟨s', b1, b2, b3⟩ hno⟩
    obtain ⟨r, hr⟩ := key
    refine ⟨r, Ev.step (f := fun k => figureheadref01_Text.l1 k l s (n : Int) ((l[n].toNat : Nat) : Int) ((9 - 9 : Nat) : Int)) (fun k => ?_) (Text_in l n (by omega) _ 9 s l[n].toNat (by omega) (by omega) hs (by omega) hr)⟩
    simp only [figureheadref01_Text.l0]; rw [if_pos (by omega), if_pos (by omega), hb, Int.toNat_of_nonneg hp.1]; rfl
theorem Text_any {l : List Int} (h0 : ∀ x ∈ l, 0 ≤ x ∧ x < 4294967296) (hl : l.length ≤ 100000000000000000) : ∃ r, Ev (fun k => figureheadref01_Text.f k l) r :=
  Text_any_loop l h0 hl l.length 0 (⟨#[]⟩ : ByteArray) (by omega) (by omega) rfl rfl

end Go.Proofs.YtnpibnjncjieaaaDoor.Px

namespace Go.Proofs.YtnpibnjncjieaaaDoor.Px
open Fig Go.RowKit Go.Proofs.YtnpibnjncjieaaaDoorW.PrintWords Go.Proofs.YtnpibnjncjieaaaDoorW.PrintLast Go.Proofs.YtnpibnjncjieaaaDoorW.PrintMore
attribute [local go_sem] max2_int min2_int max_two min_two max_three min_three max_four min_four   -- for this text's walks alone

/-! ### figureheadlaw04_TenDigits: function 3 -/
def figureheadlaw04_TenDigits.f (k : Nat) (l0 : List Int) : Option (Bool) := (figureheadlaw04_good.f k l0).bind fun t163 => (if t163 = true then ((figureheadref01_Text.f k l0).bind fun t165 => ((ten_Digits.f l0).bind fun t166 => ((ten_Number.f t166).bind fun bt167 => ((figureheadlaw04_answers.f).bind fun t171 => (if t171 = true then ((ten_Digits.f l0).bind fun t172 => ((figureheadlaw04_zero.f t165).bind fun t173 => (if t172.toList = t173.toList then ((ten_Len.f l0).bind fun t174 => (if t174 = (t165.size : Int) then (if bt167.2 = true then ((figureheadref01_Number.f k t165).bind fun t175 => ((figureheadref01_Same.f k bt167.1 t175).bind fun t178 => (some t178))) else (some false)) else (some false))) else (some false)))) else (some false)))))) else ((figureheadlaw04_answers.f).bind fun t164 => (some t164)))
theorem figureheadlaw04_TenDigits.mono : ∀ a0 k, LeO (figureheadlaw04_TenDigits.f k a0) (figureheadlaw04_TenDigits.f (k + 1) a0) := by
  intro a0 k
  unfold figureheadlaw04_TenDigits.f
  repeat' first
      | (with_reducible exact figureheadlaw04_good.mono _ _)
      | (with_reducible exact figureheadref01_Number.mono _ _)
      | (with_reducible exact figureheadref01_Same.mono _ _ _)
      | (with_reducible exact figureheadref01_Text.mono _ _)
      | (with_reducible exact LeO.refl _)
      | (with_reducible exact LeO.none _)
      | (with_reducible refine LeO.ite ?_ ?_)
      | (with_reducible refine LeO.bind ?_ (fun _ => ?_))
      | exact figureheadlaw04_good.mono _ _
      | exact figureheadref01_Number.mono _ _
      | exact figureheadref01_Same.mono _ _ _
      | exact figureheadref01_Text.mono _ _
      | exact LeO.none _
      | refine LeO.ite ?_ ?_
      | refine LeO.bind ?_ (fun _ => ?_)
set_option maxHeartbeats 8000000 in
set_option maxRecDepth 100000 in
theorem figureheadlaw04_TenDigits.calls (k : Nat) (A0 : Option Addr) (c0 : Nat) (l0 : List Int) (r : Bool) (w : World) (hG : Fig.Glob w) (HT : Aside0 (r = true)) (hr0 : Kd.C (Kd.int .u32) w A0 l0.length l0) (hc0 : l0.length ≤ c0) (h : figureheadlaw04_TenDigits.f k l0 = some r) :
    Calls Tryd.prog 3 #[.slice A0 l0.length c0] w fun e w' => e = .returned (.bool r) ∧ Below w.heap.size w w' := by
  have HG := Aside0.mk hG
  clear hG
  have HR0 := Aside0.mk hr0
  have HC0 := Aside0.mk hc0
  clear hr0 hc0
  have HB := Aside0.mk (Below.refl w.heap.size w)
  have H : ((figureheadlaw04_good.f k l0).bind fun t163 => (if t163 = true then ((figureheadref01_Text.f k l0).bind fun t165 => ((ten_Digits.f l0).bind fun t166 => ((ten_Number.f t166).bind fun bt167 => ((figureheadlaw04_answers.f).bind fun t171 => (if t171 = true then ((ten_Digits.f l0).bind fun t172 => ((figureheadlaw04_zero.f t165).bind fun t173 => (if t172.toList = t173.toList then ((ten_Len.f l0).bind fun t174 => (if t174 = (t165.size : Int) then (if bt167.2 = true then ((figureheadref01_Number.f k t165).bind fun t175 => ((figureheadref01_Same.f k bt167.1 t175).bind fun t178 => (some t178))) else (some false)) else (some false))) else (some false)))) else (some false)))))) else ((figureheadlaw04_answers.f).bind fun t164 => (some t164)))) = some r := h
  clear h
  replace H := Option.bind_eq_some_iff.mp H
  obtain ⟨t163, A20, H⟩ := H
  replace H : (if t163 = true then ((figureheadref01_Text.f k l0).bind fun t165 => ((ten_Digits.f l0).bind fun t166 => ((ten_Number.f t166).bind fun bt167 => ((figureheadlaw04_answers.f).bind fun t171 => (if t171 = true then ((ten_Digits.f l0).bind fun t172 => ((figureheadlaw04_zero.f t165).bind fun t173 => (if t172.toList = t173.toList then ((ten_Len.f l0).bind fun t174 => (if t174 = (t165.size : Int) then (if bt167.2 = true then ((figureheadref01_Number.f k t165).bind fun t175 => ((figureheadref01_Same.f k bt167.1 t175).bind fun t178 => (some t178))) else (some false)) else (some false))) else (some false)))) else (some false)))))) else ((figureheadlaw04_answers.f).bind fun t164 => (some t164))) = some r := H
  have A2 := Aside0.mk A20
  clear A20
  by_cases c3 : t163 = true
  · subst c3
    have H1 : ((figureheadref01_Text.f k l0).bind fun t165 => ((ten_Digits.f l0).bind fun t166 => ((ten_Number.f t166).bind fun bt167 => ((figureheadlaw04_answers.f).bind fun t171 => (if t171 = true then ((ten_Digits.f l0).bind fun t172 => ((figureheadlaw04_zero.f t165).bind fun t173 => (if t172.toList = t173.toList then ((ten_Len.f l0).bind fun t174 => (if t174 = (t165.size : Int) then (if bt167.2 = true then ((figureheadref01_Number.f k t165).bind fun t175 => ((figureheadref01_Same.f k bt167.1 t175).bind fun t178 => (some t178))) else (some false)) else (some false))) else (some false)))) else (some false)))))) = some r := by rw [if_pos rfl] at H; exact H
    clear H
    have H := H1
    clear H1
    replace H := Option.bind_eq_some_iff.mp H
    obtain ⟨t165, A40, H⟩ := H
    replace H : ((ten_Digits.f l0).bind fun t166 => ((ten_Number.f t166).bind fun bt167 => ((figureheadlaw04_answers.f).bind fun t171 => (if t171 = true then ((ten_Digits.f l0).bind fun t172 => ((figureheadlaw04_zero.f t165).bind fun t173 => (if t172.toList = t173.toList then ((ten_Len.f l0).bind fun t174 => (if t174 = (t165.size : Int) then (if bt167.2 = true then ((figureheadref01_Number.f k t165).bind fun t175 => ((figureheadref01_Same.f k bt167.1 t175).bind fun t178 => (some t178))) else (some false)) else (some false))) else (some false)))) else (some false))))) = some r := H
    have A4 := Aside0.mk A40
    clear A40
    replace H := Option.bind_eq_some_iff.mp H
    obtain ⟨t166, A50, H⟩ := H
    replace H : ((ten_Number.f t166).bind fun bt167 => ((figureheadlaw04_answers.f).bind fun t171 => (if t171 = true then ((ten_Digits.f l0).bind fun t172 => ((figureheadlaw04_zero.f t165).bind fun t173 => (if t172.toList = t173.toList then ((ten_Len.f l0).bind fun t174 => (if t174 = (t165.size : Int) then (if bt167.2 = true then ((figureheadref01_Number.f k t165).bind fun t175 => ((figureheadref01_Same.f k bt167.1 t175).bind fun t178 => (some t178))) else (some false)) else (some false))) else (some false)))) else (some false)))) = some r := H
    have A5 := Aside0.mk A50
    clear A50
    replace H := Option.bind_eq_some_iff.mp H
    obtain ⟨⟨t167, t168⟩, A60, H⟩ := H
    replace H : ((figureheadlaw04_answers.f).bind fun t171 => (if t171 = true then ((ten_Digits.f l0).bind fun t172 => ((figureheadlaw04_zero.f t165).bind fun t173 => (if t172.toList = t173.toList then ((ten_Len.f l0).bind fun t174 => (if t174 = (t165.size : Int) then (if t168 = true then ((figureheadref01_Number.f k t165).bind fun t175 => ((figureheadref01_Same.f k t167 t175).bind fun t178 => (some t178))) else (some false)) else (some false))) else (some false)))) else (some false))) = some r := H
    have A6 := Aside0.mk A60
    clear A60
    replace H := Option.bind_eq_some_iff.mp H
    obtain ⟨t171, A70, H⟩ := H
    replace H : (if t171 = true then ((ten_Digits.f l0).bind fun t172 => ((figureheadlaw04_zero.f t165).bind fun t173 => (if t172.toList = t173.toList then ((ten_Len.f l0).bind fun t174 => (if t174 = (t165.size : Int) then (if t168 = true then ((figureheadref01_Number.f k t165).bind fun t175 => ((figureheadref01_Same.f k t167 t175).bind fun t178 => (some t178))) else (some false)) else (some false))) else (some false)))) else (some false)) = some r := H
    have A7 := Aside0.mk A70
    clear A70
    by_cases c8 : t171 = true
    · subst c8
      have H1 : ((ten_Digits.f l0).bind fun t172 => ((figureheadlaw04_zero.f t165).bind fun t173 => (if t172.toList = t173.toList then ((ten_Len.f l0).bind fun t174 => (if t174 = (t165.size : Int) then (if t168 = true then ((figureheadref01_Number.f k t165).bind fun t175 => ((figureheadref01_Same.f k t167 t175).bind fun t178 => (some t178))) else (some false)) else (some false))) else (some false)))) = some r := by rw [if_pos rfl] at H; exact H
      clear H
      have H := H1
      clear H1
      replace H := Option.bind_eq_some_iff.mp H
      obtain ⟨t172, A90, H⟩ := H
      replace H : ((figureheadlaw04_zero.f t165).bind fun t173 => (if t172.toList = t173.toList then ((ten_Len.f l0).bind fun t174 => (if t174 = (t165.size : Int) then (if t168 = true then ((figureheadref01_Number.f k t165).bind fun t175 => ((figureheadref01_Same.f k t167 t175).bind fun t178 => (some t178))) else (some false)) else (some false))) else (some false))) = some r := H
      have A9 := Aside0.mk A90
      clear A90
      replace H := Option.bind_eq_some_iff.mp H
      obtain ⟨t173, A100, H⟩ := H
      replace H : (if t172.toList = t173.toList then ((ten_Len.f l0).bind fun t174 => (if t174 = (t165.size : Int) then (if t168 = true then ((figureheadref01_Number.f k t165).bind fun t175 => ((figureheadref01_Same.f k t167 t175).bind fun t178 => (some t178))) else (some false)) else (some false))) else (some false)) = some r := H
      have A10 := Aside0.mk A100
      clear A100
      by_cases c11 : t172.toList = t173.toList
      · rw [if_pos c11] at H
        have c11b0 : (t172.toList == t173.toList) = true := beq_iff_eq.mpr c11
        have c11b1 : (t172.toList != t173.toList) = false := bne_eq_false_iff_eq.mpr c11
        clear c11
        replace H := Option.bind_eq_some_iff.mp H
        obtain ⟨t174, A120, H⟩ := H
        replace H : (if t174 = (t165.size : Int) then (if t168 = true then ((figureheadref01_Number.f k t165).bind fun t175 => ((figureheadref01_Same.f k t167 t175).bind fun t178 => (some t178))) else (some false)) else (some false)) = some r := H
        have A12 := Aside0.mk A120
        clear A120
        by_cases c13 : t174 = (t165.size : Int)
        · rw [if_pos c13] at H
          have c13b0 : (t174 == (t165.size : Int)) = true := beq_iff_eq.mpr c13
          have c13b1 : (t174 != (t165.size : Int)) = false := bne_eq_false_iff_eq.mpr c13
          clear c13
          by_cases c14 : t168 = true
          · subst c14
            have H1 : ((figureheadref01_Number.f k t165).bind fun t175 => ((figureheadref01_Same.f k t167 t175).bind fun t178 => (some t178))) = some r := by rw [if_pos rfl] at H; exact H
            clear H
            have H := H1
            clear H1
            replace H := Option.bind_eq_some_iff.mp H
            obtain ⟨t175, A150, H⟩ := H
            replace H : ((figureheadref01_Same.f k t167 t175).bind fun t178 => (some t178)) = some r := H
            have A15 := Aside0.mk A150
            clear A150
            replace H := Option.bind_eq_some_iff.mp H
            obtain ⟨t178, A160, H⟩ := H
            replace H : (some t178) = some r := H
            have A16 := Aside0.mk A160
            clear A160
            obtain rfl := Option.some.inj H
            go_enter Tryd.func3, Tryd.ntmps3
            go_wp2_with (first | ((with_reducible refine gate_callee (f := 8) rfl ?_); refine goesL_ (some 7) rfl rfl Tryd.func8 (by kernel_rfl) rfl #[.slice A0 l0.length c0] rfl (by (try simp only [List.map_toArray, List.map_cons, List.map_nil]); first | done | rfl | (simp only [List.length_drop, List.length_take]; rfl)) ?_; (with_reducible refine (figureheadlaw04_good.calls k _ _ l0 true _ ?side1 ?side2 A2.out).mono ?_); (case side1 => repeat (first | exact HR0.out | (with_reducible refine Kd.C_alloc ?_ _) | (with_reducible refine Kd.C_drewN ?_ _) | (with_reducible refine Kd.C_drew ?_))); (case side2 => exact HC0.out); rintro e w' ⟨rfl, ⟨nd, rfl⟩⟩; refine ⟨_, rfl, ?_⟩) | ((with_reducible refine gate_callee (f := 10) rfl ?_); refine goesL_ (some 11) rfl rfl Tryd.func10 (by kernel_rfl) rfl #[.slice A0 l0.length c0] rfl (by (try simp only [List.map_toArray, List.map_cons, List.map_nil]); first | done | rfl | (simp only [List.length_drop, List.length_take]; rfl)) ?_; (with_reducible refine (figureheadref01_Text.calls k _ _ l0 t165 _ ?side1 ?side2 A4.out).mono ?_); (case side1 => repeat (first | exact HR0.out | (with_reducible refine Kd.C_alloc ?_ _) | (with_reducible refine Kd.C_drewN ?_ _) | (with_reducible refine Kd.C_drew ?_))); (case side2 => exact HC0.out); rintro e w17 ⟨rfl, hb⟩; refine ⟨_, rfl, ?_⟩; have n0_ := Aside0.mk (below_step (by repeat (first | (with_reducible first | exact HB.out | apply below_alloc | apply pw_below_drewN | apply below_drew1) | exact HB.out)) hb); clear HB; have HB := n0_; clear n0_; (try clear hb); (try clear hb2); (try clear hk); (try clear hi)) | ((with_reducible refine gate_callee (f := 12) rfl ?_); refine goesL_ (some 14) rfl rfl Tryd.func12 (by kernel_rfl) rfl #[.slice A0 l0.length c0] rfl (by (try simp only [List.map_toArray, List.map_cons, List.map_nil]); first | done | rfl | (simp only [List.length_drop, List.length_take]; rfl)) ?_; (with_reducible refine (ten_Digits.calls _ _ l0 t166 _ ?side1 ?side2 A5.out).mono ?_); (case side1 => repeat (first | exact (Kd.C_below HR0.out HB.out) | (with_reducible refine Kd.C_alloc ?_ _) | (with_reducible refine Kd.C_drewN ?_ _) | (with_reducible refine Kd.C_drew ?_))); (case side2 => exact HC0.out); rintro e w18 ⟨rfl, hb⟩; refine ⟨_, rfl, ?_⟩; have n0_ := Aside0.mk (below_step (by repeat (first | (with_reducible first | exact HB.out | apply below_alloc | apply pw_below_drewN | apply below_drew1) | exact HB.out)) hb); clear HB; have HB := n0_; clear n0_; (try clear hb); (try clear hb2); (try clear hk); (try clear hi)) | ((with_reducible refine gate_callee (f := 11) rfl ?_); refine goesL_ (some 15) rfl rfl Tryd.func11 (by kernel_rfl) rfl #[.string t166] rfl (by (try simp only [List.map_toArray, List.map_cons, List.map_nil]); first | done | rfl | (simp only [List.length_drop, List.length_take]; rfl)) ?_; (with_reducible refine (ten_Number.calls t166 t167 true _ A6.out).mono ?_); rintro e w19 ⟨v169, rfl, ho0, hb⟩; refine ⟨_, rfl, ?_⟩; have n0_ := Aside0.mk (Kd.R_lower ho0 (below_size (by repeat (first | (with_reducible first | exact HB.out | apply below_alloc | apply pw_below_drewN | apply below_drew1) | exact HB.out)))); have n1_ := Aside0.mk (below_step (by repeat (first | (with_reducible first | exact HB.out | apply below_alloc | apply pw_below_drewN | apply below_drew1) | exact HB.out)) hb); clear HB; have HO170 := n0_; have HB := n1_; clear n0_ n1_; (try clear hb); (try clear hb2); (try clear hk); (try clear hi); (try clear ho0)) | ((with_reducible refine gate_callee (f := 9) rfl ?_); refine goesL_ (some 18) rfl rfl Tryd.func9 (by kernel_rfl) rfl #[] rfl (by (try simp only [List.map_toArray, List.map_cons, List.map_nil]); first | done | rfl | (simp only [List.length_drop, List.length_take]; rfl)) ?_; (with_reducible refine (figureheadlaw04_answers.calls  true _ ?side1 ?side2 A7.out).mono ?_); (case side1 => exact Fig.Glob.below HG.out (by repeat (first | (with_reducible first | exact HB.out | apply below_alloc | apply pw_below_drewN | apply below_drew1) | exact HB.out))); (case side2 => exact ⟨by first | rfl | exact HT.out⟩); rintro e w20 ⟨rfl, hb⟩; refine ⟨_, rfl, ?_⟩; have n0_ := Aside0.mk (Kd.R_below (by (with_reducible repeat (first | apply Kd.R_alloc | apply Kd.R_drewN | apply Kd.R_drew)); exact HO170.out) hb); have n1_ := Aside0.mk (below_step (by repeat (first | (with_reducible first | exact HB.out | apply below_alloc | apply pw_below_drewN | apply below_drew1) | exact HB.out)) hb); clear HO170; clear HB; have HO170 := n0_; have HB := n1_; clear n0_ n1_; (try clear hb); (try clear hb2); (try clear hk); (try clear hi)) | ((with_reducible refine gate_dst (N := 21) rfl ?_); (try (refine gate_guard (by rfl) ?_; dsimp only)); (refine gate_guard (by rfl) ?_; dsimp only); (with_reducible refine gate_callee (f := 12) rfl ?_); refine goesL_ (some 21) rfl rfl Tryd.func12 (by kernel_rfl) rfl #[.slice A0 l0.length c0] rfl (by (try simp only [List.map_toArray, List.map_cons, List.map_nil]); first | done | rfl | (simp only [List.length_drop, List.length_take]; rfl)) ?_; (with_reducible refine (ten_Digits.calls _ _ l0 t172 _ ?side1 ?side2 A9.out).mono ?_); (case side1 => repeat (first | exact (Kd.C_below HR0.out HB.out) | (with_reducible refine Kd.C_alloc ?_ _) | (with_reducible refine Kd.C_drewN ?_ _) | (with_reducible refine Kd.C_drew ?_))); (case side2 => exact HC0.out); rintro e w21 ⟨rfl, hb⟩; refine ⟨_, rfl, ?_⟩; have n0_ := Aside0.mk (Kd.R_below (by (with_reducible repeat (first | apply Kd.R_alloc | apply Kd.R_drewN | apply Kd.R_drew)); exact HO170.out) hb); have n1_ := Aside0.mk (below_step (by repeat (first | (with_reducible first | exact HB.out | apply below_alloc | apply pw_below_drewN | apply below_drew1) | exact HB.out)) hb); clear HO170; clear HB; have HO170 := n0_; have HB := n1_; clear n0_ n1_; (try clear hb); (try clear hb2); (try clear hk); (try clear hi)) | ((with_reducible refine gate_dst (N := 23) rfl ?_); (try (refine gate_guard (by rfl) ?_; dsimp only)); (refine gate_guard (by rfl) ?_; dsimp only); (with_reducible refine gate_callee (f := 13) rfl ?_); refine goesL_ (some 23) rfl rfl Tryd.func13 (by kernel_rfl) rfl #[.string t165] rfl (by (try simp only [List.map_toArray, List.map_cons, List.map_nil]); first | done | rfl | (simp only [List.length_drop, List.length_take]; rfl)) ?_; (with_reducible refine (figureheadlaw04_zero.calls t165 t173 _ A10.out).mono ?_); rintro e w' ⟨rfl, ⟨nd, rfl⟩⟩; refine ⟨_, rfl, ?_⟩) | ((with_reducible refine gate_dst (N := 28) rfl ?_); (try (refine gate_guard (by rfl) ?_; dsimp only)); (refine gate_guard (by rfl) ?_; dsimp only); (with_reducible refine gate_callee (f := 14) rfl ?_); refine goesL_ (some 28) rfl rfl Tryd.func14 (by kernel_rfl) rfl #[.slice A0 l0.length c0] rfl (by (try simp only [List.map_toArray, List.map_cons, List.map_nil]); first | done | rfl | (simp only [List.length_drop, List.length_take]; rfl)) ?_; (with_reducible refine (ten_Len.calls _ _ l0 t174 _ ?side1 ?side2 A12.out).mono ?_); (case side1 => repeat (first | exact (Kd.C_below HR0.out (by repeat (first | (with_reducible first | exact HB.out | apply below_alloc | apply pw_below_drewN | apply below_drew1) | exact HB.out))) | (with_reducible refine Kd.C_alloc ?_ _) | (with_reducible refine Kd.C_drewN ?_ _) | (with_reducible refine Kd.C_drew ?_))); (case side2 => exact HC0.out); rintro e w22 ⟨rfl, hb⟩; refine ⟨_, rfl, ?_⟩; have n0_ := Aside0.mk (Kd.R_below (by (with_reducible repeat (first | apply Kd.R_alloc | apply Kd.R_drewN | apply Kd.R_drew)); exact HO170.out) hb); have n1_ := Aside0.mk (below_step (by repeat (first | (with_reducible first | exact HB.out | apply below_alloc | apply pw_below_drewN | apply below_drew1) | exact HB.out)) hb); clear HO170; clear HB; have HO170 := n0_; have HB := n1_; clear n0_ n1_; (try clear hb); (try clear hb2); (try clear hk); (try clear hi)) | ((with_reducible refine gate_dst (N := 39) rfl ?_); (try (refine gate_guard (by rfl) ?_; dsimp only)); (refine gate_guard (by rfl) ?_; dsimp only); (with_reducible refine gate_callee (f := 16) rfl ?_); refine goesL_ (some 39) rfl rfl Tryd.func16 (by kernel_rfl) rfl #[.string t165] rfl (by (try simp only [List.map_toArray, List.map_cons, List.map_nil]); first | done | rfl | (simp only [List.length_drop, List.length_take]; rfl)) ?_; (with_reducible refine (figureheadref01_Number.calls k t165 t175 _ A15.out).mono ?_); rintro e w23 ⟨v176, rfl, ho0, hb⟩; refine ⟨_, rfl, ?_⟩; have n0_ := Aside0.mk (Kd.R_elder' (by (with_reducible repeat (first | apply Kd.R_alloc | apply Kd.R_drewN | apply Kd.R_drew)); exact HO170.out) (Kd.R_base ho0) hb); have n1_ := Aside0.mk (Kd.R_lower (Kd.R_new' ho0 (Kd.R_lt (by (with_reducible repeat (first | apply Kd.R_alloc | apply Kd.R_drewN | apply Kd.R_drew)); exact HO170.out))) (below_size (by repeat (first | (with_reducible first | exact HB.out | apply below_alloc | apply pw_below_drewN | apply below_drew1) | exact HB.out)))); have n2_ := Aside0.mk (below_step (by repeat (first | (with_reducible first | exact HB.out | apply below_alloc | apply pw_below_drewN | apply below_drew1) | exact HB.out)) hb); clear HO170; clear HB; have HO170 := n0_; have HO177 := n1_; have HB := n2_; clear n0_ n1_ n2_; (try clear hb); (try clear hb2); (try clear hk); (try clear hi); (try clear ho0); obtain ⟨Ao24, co24, eo24⟩ := Kd.R_slice HO170.out; subst eo24; obtain ⟨Ao25, co25, eo25⟩ := Kd.R_slice HO177.out; subst eo25) | ((with_reducible refine gate_dst (N := 40) rfl ?_); (try (refine gate_guard (by rfl) ?_; dsimp only)); (refine gate_guard (by rfl) ?_; dsimp only); (with_reducible refine gate_callee (f := 15) rfl ?_); refine goesL_ (some 40) rfl rfl Tryd.func15 (by kernel_rfl) rfl #[.slice Ao24 t167.length co24, .slice Ao25 t175.length co25] rfl (by (try simp only [List.map_toArray, List.map_cons, List.map_nil]); first | done | rfl | (simp only [List.length_drop, List.length_take]; rfl)) ?_; (with_reducible refine (figureheadref01_Same.calls k _ _ t167 _ _ t175 t178 _ ?side1 ?side2 ?side3 ?side4 A16.out).mono ?_); (case side1 => repeat (first | exact (Kd.R_reads' HO170.out).2.2 | (with_reducible refine Kd.C_alloc ?_ _) | (with_reducible refine Kd.C_drewN ?_ _) | (with_reducible refine Kd.C_drew ?_))); (case side2 => exact (Kd.R_reads' HO170.out).2.1); (case side3 => repeat (first | exact (Kd.R_reads' HO177.out).2.2 | (with_reducible refine Kd.C_alloc ?_ _) | (with_reducible refine Kd.C_drewN ?_ _) | (with_reducible refine Kd.C_drew ?_))); (case side4 => exact (Kd.R_reads' HO177.out).2.1); rintro e w' ⟨rfl, ⟨nd, rfl⟩⟩; refine ⟨_, rfl, ?_⟩))
            go_ret
            exact ⟨by first | rfl | (simp [errW_none, errW_some] <;> rfl) | (simp [*, errW_none, errW_some] <;> rfl), by repeat (first | (with_reducible first | exact HB.out | apply below_alloc | apply pw_below_drewN | apply below_drew1) | exact HB.out)⟩
          · replace c14 := Bool.eq_false_iff.mpr c14
            subst c14
            have H1 : (some false) = some r := by rw [if_neg (show ¬ (false = true) by decide)] at H; exact H
            clear H
            have H := H1
            clear H1
            exact absurd ((Option.some.inj H).trans HT.out) (by decide)
        · rw [if_neg c13] at H
          have c13b0 : (t174 == (t165.size : Int)) = false := beq_eq_false_iff_ne.mpr c13
          have c13b1 : (t174 != (t165.size : Int)) = true := bne_iff_ne.mpr c13
          exact absurd ((Option.some.inj H).trans HT.out) (by decide)
      · rw [if_neg c11] at H
        have c11b0 : (t172.toList == t173.toList) = false := beq_eq_false_iff_ne.mpr c11
        have c11b1 : (t172.toList != t173.toList) = true := bne_iff_ne.mpr c11
        exact absurd ((Option.some.inj H).trans HT.out) (by decide)
    · replace c8 := Bool.eq_false_iff.mpr c8
      subst c8
      have H1 : (some false) = some r := by rw [if_neg (show ¬ (false = true) by decide)] at H; exact H
      clear H
      have H := H1
      clear H1
      exact absurd ((Option.some.inj H).trans HT.out) (by decide)
  · replace c3 := Bool.eq_false_iff.mpr c3
    subst c3
    have H1 : ((figureheadlaw04_answers.f).bind fun t164 => (some t164)) = some r := by rw [if_neg (show ¬ (false = true) by decide)] at H; exact H
    clear H
    have H := H1
    clear H1
    replace H := Option.bind_eq_some_iff.mp H
    obtain ⟨t164, A260, H⟩ := H
    replace H : (some t164) = some r := H
    have A26 := Aside0.mk A260
    clear A260
    obtain rfl := Option.some.inj H
    go_enter Tryd.func3, Tryd.ntmps3
    go_wp2_with (first | ((with_reducible refine gate_callee (f := 8) rfl ?_); refine goesL_ (some 7) rfl rfl Tryd.func8 (by kernel_rfl) rfl #[.slice A0 l0.length c0] rfl (by (try simp only [List.map_toArray, List.map_cons, List.map_nil]); first | done | rfl | (simp only [List.length_drop, List.length_take]; rfl)) ?_; (with_reducible refine (figureheadlaw04_good.calls k _ _ l0 false _ ?side1 ?side2 A2.out).mono ?_); (case side1 => repeat (first | exact HR0.out | (with_reducible refine Kd.C_alloc ?_ _) | (with_reducible refine Kd.C_drewN ?_ _) | (with_reducible refine Kd.C_drew ?_))); (case side2 => exact HC0.out); rintro e w' ⟨rfl, ⟨nd, rfl⟩⟩; refine ⟨_, rfl, ?_⟩) | ((with_reducible refine gate_callee (f := 9) rfl ?_); refine goesL_ (some 9) rfl rfl Tryd.func9 (by kernel_rfl) rfl #[] rfl (by (try simp only [List.map_toArray, List.map_cons, List.map_nil]); first | done | rfl | (simp only [List.length_drop, List.length_take]; rfl)) ?_; (with_reducible refine (figureheadlaw04_answers.calls  t164 _ ?side1 ?side2 A26.out).mono ?_); (case side1 => exact Fig.Glob.below HG.out (by repeat (first | (with_reducible first | exact HB.out | apply below_alloc | apply pw_below_drewN | apply below_drew1) | exact HB.out))); (case side2 => exact ⟨by first | rfl | exact HT.out⟩); rintro e w27 ⟨rfl, hb⟩; refine ⟨_, rfl, ?_⟩; have n0_ := Aside0.mk (below_step (by repeat (first | (with_reducible first | exact HB.out | apply below_alloc | apply pw_below_drewN | apply below_drew1) | exact HB.out)) hb); clear HB; have HB := n0_; clear n0_; (try clear hb); (try clear hb2); (try clear hk); (try clear hi)))
    go_ret
    exact ⟨by first | rfl | (simp [errW_none, errW_some] <;> rfl) | (simp [*, errW_none, errW_some] <;> rfl), by repeat (first | (with_reducible first | exact HB.out | apply below_alloc | apply pw_below_drewN | apply below_drew1) | exact HB.out)⟩

end Go.Proofs.YtnpibnjncjieaaaDoor.Px

namespace Go.Proofs.YtnpibnjncjieaaaDoor.Px
open Fig Go.RowKit Go.Proofs.YtnpibnjncjieaaaDoorW.PrintWords Go.Proofs.YtnpibnjncjieaaaDoorW.PrintLast Go.Proofs.YtnpibnjncjieaaaDoorW.PrintMore
attribute [local go_sem] max2_int min2_int max_two min_two max_three min_three max_four min_four   -- for this text's walks alone

/-! plain facts: figureheadlaw04_TenDigits -/
theorem zero_eq (n : Nat) : figureheadlaw04_zero.f (digB n) = some (zeroB n) := by
  unfold figureheadlaw04_zero.f zeroB
  by_cases h : n = 0
  · rw [if_pos (digB_toList_nil.2 h), if_pos h]
  · rw [if_neg (fun hh => h (digB_toList_nil.1 hh)), if_neg h]
theorem Len_eq {l : List Int} (g : goodL l = true) (hl : l.length ≤ 1000000) : ten_Len.f l = some ((digB (valL l)).size : Int) := by
  unfold ten_Len.f
  rw [show nat_Trim.f l = some (limbs (valL l)) from trimF_eq g (by omega)]
  simp only [Option.bind_some]
  by_cases h : valL l = 0
  · rw [h, limbs_zero, if_pos (show (([] : List Int).length : Int) = 0 from rfl), digB_empty_iff.2 rfl]; rfl
  · have h2 : ¬ ((limbs (valL l)).length : Int) = 0 := fun hh => h (limbs_nil_iff.1 (List.eq_nil_of_length_eq_zero (by omega)))
    have h3 : (limbs (valL l)).length ≤ l.length := limbs_len_le (valL_lt g)
    rw [if_neg h2, show ten_Digits.f (limbs (valL l)) = some (zeroB (valL l)) by unfold ten_Digits.f; rw [if_pos ⟨limbs_good _, by omega⟩, limbs_val]]
    rw [zeroB, if_neg h]; rfl
theorem Number_zero (n : Nat) (h : (digB n).size ≤ 1000000) : ten_Number.f (zeroB n) = some (limbs n, true) := by
  unfold ten_Number.f zeroB
  by_cases hn : n = 0
  · rw [if_pos hn, if_pos (by decide), if_pos ⟨by decide, by decide⟩, hn]; rfl
  · rw [if_neg hn, if_pos (by omega), if_pos ⟨dB_digB n, fun hh => hn (digB_empty_iff.1 hh)⟩, vB_digB]
theorem TenDigits_pure (l0 : List Int) (m0 : l0.length * 4 ≤ 140737488351232) (w0 : ∀ x ∈ l0, (Lit.int .u32 x).wf = true) : ∃ k, figureheadlaw04_TenDigits.f k l0 = some true := by
  have n0 := fun x hx => wf_u32 (w0 x hx)
  refine Ev.rounds (g := fun k => figureheadlaw04_TenDigits.f k l0) ?_
  unfold figureheadlaw04_TenDigits.f
  refine Ev.bind (good04_ev n0 (by omega)) ?_
  cases hg : decide (l0.length ≤ 40) && goodL l0
  · simp only [Bool.false_eq_true, if_false]
    exact Ev.bind (evSome fun _ => answers04) (Ev.now true)
  · obtain ⟨h40, g0⟩ : l0.length ≤ 40 ∧ goodL l0 = true := by simpa using hg
    have z0 := digB_valL_size g0 h40
    have hd : ten_Digits.f l0 = some (zeroB (valL l0)) := by unfold ten_Digits.f; rw [if_pos ⟨g0, by omega⟩]
    simp only [if_true]
    refine Ev.bind (Text_ev g0 (by omega)) (Ev.bind (evSome fun _ => hd) (Ev.bind (evSome fun _ => Number_zero _ (by omega)) (Ev.bind (evSome fun _ => answers04) ?_)))
    simp only [if_true]
    refine Ev.bind (evSome fun _ => hd) (Ev.bind (evSome fun _ => zero_eq _) ?_)
    simp only [if_true]
    refine Ev.bind (evSome fun _ => Len_eq g0 (by omega)) ?_
    simp only [if_true]
    refine Ev.bind (Number_ev (dB_digB _) (by omega)) ?_
    rw [vB_digB]
    have := limbs_len_digB (valL l0)
    exact Ev.bind (Same_self (by omega)) (Ev.now true)

end Go.Proofs.YtnpibnjncjieaaaDoor.Px

namespace Go.Proofs.YtnpibnjncjieaaaDoor.Px
open Fig Go.RowKit Go.Proofs.YtnpibnjncjieaaaDoorW.PrintWords Go.Proofs.YtnpibnjncjieaaaDoorW.PrintLast Go.Proofs.YtnpibnjncjieaaaDoorW.PrintMore
attribute [local go_sem] max2_int min2_int max_two min_two max_three min_three max_four min_four   -- for this text's walks alone

/-! plain facts: figureheadlaw04_TenNumbers -/
theorem Digits_eq {l : List Int} (g : goodL l = true) (hl : l.length ≤ 1000000) : ten_Digits.f l = some (zeroB (valL l)) := by unfold ten_Digits.f; rw [if_pos ⟨g, hl⟩]
theorem TenNumbers_loop (s : ByteArray) (hs : s.size ≤ 300) : ∀ (d n : Nat) (b : Bool), s.size - n = d → n ≤ s.size → (b && digL (s.data.toList.drop n)) = (dB s && decide (s.size ≠ 0)) → Ev (fun k => figureheadlaw04_TenNumbers.l0 k s b (n : Int)) true
  | 0, n, b, hd, hn, hb => by
    rw [List.drop_of_length_le (by rw [← size_eq]; omega)] at hb
    have hb2 : b = (dB s && decide (s.size ≠ 0)) := by rw [← hb]; simp [digL]
    have hnum : ten_Number.f s = some (if dB s = true ∧ s.size ≠ 0 then (limbs (vB s), true) else ([], false)) := by unfold ten_Number.f; rw [if_pos (by omega)]
    by_cases hok : dB s = true ∧ s.size ≠ 0
    · have hbt : b = true := by rw [hb2]; simp [hok.1, hok.2]
      rw [if_pos hok] at hnum
      have hl : (limbs (vB s)).length ≤ 300 := by
        have h1 := digs_size_lt (vB_lt hok.1)
        have h2 := limbs_len_digB (vB s)
        omega
      refine Ev.step (f := fun k => (figureheadref01_Number.f k s).bind fun t186 => (figureheadref01_Same.f k (limbs (vB s)) t186).bind fun t189 => if t189 = true then (ten_Digits.f (limbs (vB s))).bind fun t190 => (figureheadref01_Strip.f k s).bind fun t191 => (figureheadlaw04_zero.f t191).bind fun t192 => some (t190.toList == t192.toList) else some false) (fun k => ?_) ?_
      · simp only [figureheadlaw04_TenNumbers.l0]
        rw [if_neg (by omega), hnum, answers04]
        simp only [Option.bind_some, hbt, if_true]
      · refine Ev.bind (Number_ev hok.1 (by omega)) (Ev.bind (Same_self (by omega)) ?_)
        simp only [if_true]
        refine Ev.bind (evSome fun _ => Digits_eq (limbs_good _) (by omega)) (Ev.bind (StripD_ev (by omega) hok.1) (Ev.bind (evSome fun _ => zero_eq _) ?_))
        rw [limbs_val]
        exact evSome fun _ => by simp
    · have hbf : b = false := by
        rw [hb2]
        cases hd : dB s
        · rfl
        · simp only [Bool.true_and, decide_eq_false_iff_not]
          intro h0; exact hok ⟨hd, h0⟩
      rw [if_neg hok] at hnum
      refine evDone (r' := true) (fun k => ?_) rfl
      simp only [figureheadlaw04_TenNumbers.l0]
      rw [if_neg (by omega), hnum, answers04]
      simp [hbf]
  | d + 1, n, b, hd, hn, hb => by
    have hlt : n < s.size := by omega
    have hbt := bt_get hlt
    have hc := List.drop_eq_getElem_cons (l := s.data.toList) (i := n) (by rw [← size_eq]; exact hlt)
    rw [hc] at hb
    generalize hx : s.data.toList[n]'(by rw [← size_eq]; exact hlt) = c at hbt hb
    refine Ev.step (f := fun k => figureheadlaw04_TenNumbers.l0 k s (b && isD c) ((n + 1 : Nat) : Int)) (fun k => ?_) (TenNumbers_loop s hs d (n + 1) (b && isD c) (by omega) (by omega) (by rw [← hb]; simp [digL, Bool.and_assoc]))
    simp only [figureheadlaw04_TenNumbers.l0]
    rw [if_pos (by omega), succ64 _ (by omega)]
    cases b
    · simp
    · rw [if_pos rfl, if_pos (by omega), hbt]
      by_cases h48 : (c.toNat : Int) ≥ 48
      · rw [if_pos h48]
        have : decide ((c.toNat : Int) ≤ 57) = isD c := by unfold isD; have h1 : 48 ≤ c.toNat := by omega
                                                           simp [h1]; omega
        rw [this]; simp
      · rw [if_neg h48]
        have : isD c = false := by unfold isD; have h1 : ¬ 48 ≤ c.toNat := by omega
                                   simp [h1]
        rw [this]; simp
theorem TenNumbers_pure (a0 : ByteArray) (w0 : a0.size ≤ 140737488351232) : ∃ k, figureheadlaw04_TenNumbers.f k a0 = some true := by
  refine Ev.rounds (g := fun k => figureheadlaw04_TenNumbers.f k a0) ?_
  unfold figureheadlaw04_TenNumbers.f
  by_cases h : (a0.size : Int) > 300
  · simp only [h, if_true]
    exact Ev.bind (evSome fun _ => answers04) (Ev.now true)
  · simp only [h, if_false]
    have := TenNumbers_loop a0 (by omega) a0.size 0 (a0.toList != ([] : List UInt8)) (by omega) (by omega) (by
      rw [List.drop_zero, bne_nil, ByteArray.toList_eq, Bool.and_comm]
      show _ = (digL a0.data.toList && _)
      congr 1
      rw [size_eq]
      cases a0.data.toList <;> simp)
    simpa using this

end Go.Proofs.YtnpibnjncjieaaaDoor.Px
