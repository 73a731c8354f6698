/- Plain facts on rounding a number to a multiple of another one. -/
import Derived.Test.YtbjaiphfehnncaaDoorFDec
namespace Fig
open Go
/-- which neighbour a way takes -/
def upB (m : Int) (neg odd : Bool) (half : Int) : Bool :=
  if m = 0 then !neg else if m = 1 then neg else if m = 2 then true else if m = 3 then false else if m = 4 then decide (0 < half) || (half == 0 && odd) else if m = 5 then decide (0 ≤ half) else if m = 6 then decide (0 < half) else false
/-- the way with the other sign -/
def turnM (m : Int) : Int := if m = 0 then 1 else if m = 1 then 0 else m
theorem upB_turn (m : Int) (neg odd : Bool) (half : Int) : upB (turnM m) (!neg) odd half = upB m neg odd half := by
  by_cases h0 : m = 0
  · subst h0; cases neg <;> rfl
  by_cases h1 : m = 1
  · subst h1; cases neg <;> rfl
  unfold turnM upB
  simp only [h0, h1, if_false]
theorem upB_mono {m : Int} {neg odd : Bool} {h1 h2 : Int} (h : h1 ≤ h2) (u : upB m neg odd h1 = true) : upB m neg odd h2 = true := by
  unfold upB at u ⊢
  by_cases m0 : m = 0
  · simpa [m0] using u
  by_cases m1 : m = 1
  · simpa [m1] using u
  by_cases m2 : m = 2
  · simp [m2]
  by_cases m3 : m = 3
  · simp [m3] at u
  by_cases m4 : m = 4
  · subst m4
    simp at u ⊢
    rcases u with u | ⟨u, v⟩
    · left; omega
    · by_cases hz : h2 = 0
      · exact .inr ⟨hz, v⟩
      · left; omega
  by_cases m5 : m = 5
  · subst m5; simp at u ⊢; omega
  by_cases m6 : m = 6
  · subst m6; simp at u ⊢; omega
  · simp [m0, m1, m2, m3, m4, m5, m6] at u
theorem cmpN_mono {a b c : Nat} (h : a ≤ b) : cmpN a c ≤ cmpN b c := by
  unfold cmpN
  split <;> split <;> (try split) <;> (try split) <;> omega
theorem cmpN_scale {a b c : Nat} (h : 0 < c) : cmpN (a * c) (b * c) = cmpN a b := by
  unfold cmpN
  simp only [Nat.mul_lt_mul_right h]
theorem cmpN_neg_iff {a b : Nat} : cmpN a b < 0 ↔ a < b := by unfold cmpN; split <;> (try split) <;> omega
theorem cmpN_pos_iff {a b : Nat} : 0 < cmpN a b ↔ b < a := by unfold cmpN; split <;> (try split) <;> omega
theorem cmpN_zero_iff {a b : Nat} : cmpN a b = 0 ↔ a = b := by unfold cmpN; split <;> (try split) <;> omega
theorem cmpN_swap (a b : Nat) : cmpN b a = - cmpN a b := by unfold cmpN; split <;> (try split) <;> (try split) <;> omega
/-- the quotient that rounding gives -/
def rq (m : Int) (neg : Bool) (N B : Nat) : Nat :=
  N / B + (if N % B ≠ 0 ∧ upB m neg (N / B % 2 == 1) (cmpN (N % B + N % B) B) = true then 1 else 0)
theorem rq_ge (m : Int) (neg : Bool) (N B : Nat) : N / B ≤ rq m neg N B := by unfold rq; omega
theorem rq_le (m : Int) (neg : Bool) (N B : Nat) : rq m neg N B ≤ N / B + 1 := by unfold rq; split <;> omega
theorem rq_fit {m : Int} {neg : Bool} {N B : Nat} (h : N % B = 0) : rq m neg N B = N / B := by
  unfold rq; rw [if_neg (by rintro ⟨h2, _⟩; exact h2 h)]; rfl
theorem rq_down {neg : Bool} {N B : Nat} : rq 3 neg N B = N / B := by
  unfold rq; rw [if_neg (by rintro ⟨_, h⟩; simp [upB] at h)]; rfl
theorem rq_up {neg : Bool} {N B : Nat} (h : N % B ≠ 0) : rq 2 neg N B = N / B + 1 := by
  unfold rq; rw [if_pos ⟨h, by simp [upB]⟩]
theorem rq_two (m : Int) (neg : Bool) (N B : Nat) : rq m neg N B = rq 3 neg N B ∨ rq m neg N B = rq 2 neg N B := by
  rw [rq_down]
  by_cases h : N % B = 0
  · left; exact rq_fit h
  · rw [rq_up h]
    have := rq_ge m neg N B
    have := rq_le m neg N B
    omega
theorem rq_mul {m : Int} {neg : Bool} {q B : Nat} (hB : 0 < B) : rq m neg (q * B) B = q := by
  rw [rq_fit (Nat.mul_mod_left q B), Nat.mul_div_cancel _ hB]
theorem rq_one {m : Int} {neg : Bool} {N : Nat} : rq m neg N 1 = N := by rw [rq_fit (Nat.mod_one N), Nat.div_one]
theorem rq_scale {m : Int} {neg : Bool} {N B c : Nat} (hc : 0 < c) : rq m neg (N * c) (B * c) = rq m neg N B := by
  unfold rq
  rw [Nat.mul_div_mul_right _ _ hc, Nat.mul_mod_mul_right, ← Nat.add_mul, cmpN_scale hc]
  have : (N % B * c ≠ 0) ↔ (N % B ≠ 0) := by
    constructor
    · intro h e; rw [e] at h; simp at h
    · intro h; exact Nat.mul_ne_zero h (by omega)
  simp only [this]
theorem rq_turn (m : Int) (neg : Bool) (N B : Nat) : rq (turnM m) (!neg) N B = rq m neg N B := by
  unfold rq; rw [upB_turn]
theorem rq_mono {m : Int} {neg : Bool} {N P B : Nat} (h : N ≤ P) : rq m neg N B ≤ rq m neg P B := by
  have h1 : N / B ≤ P / B := Nat.div_le_div_right h
  rcases Nat.lt_or_eq_of_le h1 with h2 | h2
  · have := rq_le m neg N B
    have := rq_ge m neg P B
    omega
  · have e1 := Nat.div_add_mod N B
    have e2 := Nat.div_add_mod P B
    rw [← h2] at e2
    have hr : N % B ≤ P % B := by omega
    unfold rq
    rw [← h2]
    by_cases hu : N % B ≠ 0 ∧ upB m neg (N / B % 2 == 1) (cmpN (N % B + N % B) B) = true
    · rw [if_pos hu, if_pos]; · exact Nat.le_refl _
      refine ⟨by omega, upB_mono (cmpN_mono (by omega)) hu.2⟩
    · rw [if_neg hu]; omega
/-- rounding is less than a step off -/
theorem rq_near {m : Int} {neg : Bool} {N B : Nat} (hB : 0 < B) : rq m neg N B * B < N + B ∧ N < rq m neg N B * B + B := by
  have e := Nat.div_add_mod N B
  have hm := Nat.mod_lt N hB
  rw [Nat.mul_comm] at e
  unfold rq
  split
  · rename_i h; rw [Nat.add_mul, Nat.one_mul]; have := h.1; omega
  · rw [Nat.add_zero]; omega
theorem rq_half {m : Int} {neg : Bool} {N B : Nat} (hB : 0 < B) (h4 : 4 ≤ m) (h6 : m ≤ 6) : 2 * (rq m neg N B * B) ≤ 2 * N + B ∧ 2 * N ≤ 2 * (rq m neg N B * B) + B := by
  have e := Nat.div_add_mod N B
  have hm := Nat.mod_lt N hB
  rw [Nat.mul_comm] at e
  unfold rq
  by_cases hu : N % B ≠ 0 ∧ upB m neg (N / B % 2 == 1) (cmpN (N % B + N % B) B) = true
  · rw [if_pos hu, Nat.add_mul, Nat.one_mul]
    have h0 : 0 ≤ cmpN (N % B + N % B) B := by
      have u := hu.2
      unfold upB at u
      rw [if_neg (by omega), if_neg (by omega), if_neg (by omega), if_neg (by omega)] at u
      by_cases m4 : m = 4
      · rw [if_pos m4] at u
        simp only [Bool.or_eq_true, decide_eq_true_eq, Bool.and_eq_true, beq_iff_eq] at u
        omega
      · rw [if_neg m4] at u
        by_cases m5 : m = 5
        · rw [if_pos m5] at u; simpa using u
        · rw [if_neg m5] at u
          by_cases m6 : m = 6
          · rw [if_pos m6] at u; simp at u; omega
          · omega
    have : ¬ (N % B + N % B < B) := fun hh => by have := cmpN_neg_iff.2 hh; omega
    omega
  · rw [if_neg hu, Nat.add_zero]
    by_cases hz : N % B = 0
    · omega
    · have h0 : cmpN (N % B + N % B) B ≤ 0 := by
        have u : ¬ upB m neg (N / B % 2 == 1) (cmpN (N % B + N % B) B) = true := fun h => hu ⟨hz, h⟩
        unfold upB at u
        rw [if_neg (by omega), if_neg (by omega), if_neg (by omega), if_neg (by omega)] at u
        by_cases m4 : m = 4
        · rw [if_pos m4] at u
          simp only [Bool.or_eq_true, decide_eq_true_eq, Bool.and_eq_true, beq_iff_eq, not_or] at u
          omega
        · rw [if_neg m4] at u
          by_cases m5 : m = 5
          · rw [if_pos m5] at u; simp at u; omega
          · rw [if_neg m5] at u
            by_cases m6 : m = 6
            · rw [if_pos m6] at u; simp at u; omega
            · omega
      have : ¬ (B < N % B + N % B) := fun hh => by have := cmpN_pos_iff.2 hh; omega
      omega
theorem rq_above {m : Int} {neg : Bool} {N B : Nat} (hB : 0 < B) (h : (m = 0 ∧ neg = false) ∨ (m = 1 ∧ neg = true) ∨ m = 2) : N ≤ rq m neg N B * B := by
  have e := Nat.div_add_mod N B
  have hm := Nat.mod_lt N hB
  rw [Nat.mul_comm] at e
  unfold rq
  by_cases hz : N % B = 0
  · rw [if_neg (by rintro ⟨h2, _⟩; exact h2 hz)]; rw [Nat.add_zero]; omega
  · rw [if_pos, Nat.add_mul, Nat.one_mul]; · omega
    refine ⟨hz, ?_⟩
    rcases h with ⟨rfl, rfl⟩ | ⟨rfl, rfl⟩ | rfl <;> rfl
theorem rq_below {m : Int} {neg : Bool} {N B : Nat} (h : (m = 0 ∧ neg = true) ∨ (m = 1 ∧ neg = false) ∨ m = 3) : rq m neg N B * B ≤ N := by
  unfold rq
  rw [if_neg, Nat.add_zero]; · exact Nat.div_mul_le_self _ _
  rintro ⟨_, u⟩
  rcases h with ⟨rfl, rfl⟩ | ⟨rfl, rfl⟩ | rfl <;> simp [upB] at u
theorem rq_eq_iff {m : Int} {neg : Bool} {N B : Nat} : rq m neg N B * B = N ↔ N % B = 0 := by
  constructor
  · intro h; rw [← h]; exact Nat.mul_mod_left _ _
  · intro h; rw [rq_fit h]; exact Nat.div_mul_cancel (Nat.dvd_of_mod_eq_zero h)
end Fig
