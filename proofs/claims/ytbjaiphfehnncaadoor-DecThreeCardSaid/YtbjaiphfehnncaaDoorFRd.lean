/- Plain facts on rounding a decimal to a multiple of a step at a place. -/
import Derived.Test.YtbjaiphfehnncaaDoorFZ
namespace Fig
open Go
/-- the rounded value, in places of an exponent that is above neither one's -/
def rv0 (m : Int) (neg : Bool) (n : Nat) (e : Int) (st : Nat) (p k : Int) : Nat := rq m neg (atE n e k) (atE st p k) * atE st p k
/-- what rounding answers: the decimal and an error's number -/
def roundD (m : Int) (neg : Bool) (n : Nat) (e : Int) (st : Nat) (p : Int) : Bool × ByteArray × Int × Int :=
  if atE n e (min e p) % atE st p (min e p) = 0 then (neg, nD n, nE n e, 0)
  else if m = 7 then (false, ⟨#[]⟩, 0, 11)
  else (neg, nD (rv0 m neg n e st p (min e p)), nE (rv0 m neg n e st p (min e p)) (min e p), 0)
theorem rv0_low {m : Int} {neg : Bool} {n : Nat} {e : Int} {st : Nat} {p i k : Int} (h1 : i ≤ e) (h2 : i ≤ p) (h3 : k ≤ i) : rv0 m neg n e st p k = rv0 m neg n e st p i * 10 ^ (i - k).toNat := by
  unfold rv0
  rw [← atE_atE h1 h3, ← atE_atE h2 h3]
  unfold atE
  rw [rq_scale (pow10_pos _), Nat.mul_assoc, Nat.mul_assoc, Nat.mul_assoc]
theorem rv0_atE {m : Int} {neg : Bool} {n : Nat} {e : Int} {st : Nat} {p i k : Int} (h1 : i ≤ e) (h2 : i ≤ p) (h3 : k ≤ i) : rv0 m neg n e st p k = atE (rv0 m neg n e st p i) i k := rv0_low h1 h2 h3
/-- is it a multiple already: in places of whatever exponent -/
theorem fit_low {n : Nat} {e : Int} {st : Nat} {p i k : Int} (h1 : i ≤ e) (h2 : i ≤ p) (h3 : k ≤ i) : atE n e k % atE st p k = 0 ↔ atE n e i % atE st p i = 0 := by
  rw [← atE_atE h1 h3, ← atE_atE h2 h3]
  have hp := pow10_pos (i - k).toNat
  show (atE n e i * 10 ^ (i - k).toNat) % (atE st p i * 10 ^ (i - k).toNat) = 0 ↔ _
  rw [Nat.mul_mod_mul_right]
  constructor
  · intro h
    rcases Nat.mul_eq_zero.1 h with h | h
    · exact h
    · omega
  · intro h; rw [h, Nat.zero_mul]
/-- by every way that rounds -/
theorem roundD_ok {m : Int} (hm : m ≠ 7) (neg : Bool) (n : Nat) (e : Int) (st : Nat) (p : Int) : roundD m neg n e st p = (neg, nD (rv0 m neg n e st p (min e p)), nE (rv0 m neg n e st p (min e p)) (min e p), 0) := by
  unfold roundD
  rw [if_neg hm]
  split
  · rename_i h
    have hr : rv0 m neg n e st p (min e p) = atE n e (min e p) := rq_eq_iff.2 h
    rw [hr, nD_atE, nE_atE _ (by omega)]
  · rfl
/-- in places of whatever exponent that is above neither one's -/
theorem roundD_at {m : Int} (hm : m ≠ 7) (neg : Bool) (n : Nat) (e : Int) (st : Nat) (p k : Int) (h1 : k ≤ e) (h2 : k ≤ p) : roundD m neg n e st p = (neg, nD (rv0 m neg n e st p k), nE (rv0 m neg n e st p k) k, 0) := by
  rw [roundD_ok hm, rv0_atE (i := min e p) (k := k) (by omega) (by omega) (by omega), nD_atE, nE_atE _ (by omega)]
theorem roundD_fit {m : Int} {neg : Bool} {n : Nat} {e : Int} {st : Nat} {p : Int} (h : atE n e (min e p) % atE st p (min e p) = 0) : roundD m neg n e st p = (neg, nD n, nE n e, 0) := by unfold roundD; rw [if_pos h]
theorem roundD_exact {neg : Bool} {n : Nat} {e : Int} {st : Nat} {p : Int} (h : ¬ atE n e (min e p) % atE st p (min e p) = 0) : roundD 7 neg n e st p = (false, ⟨#[]⟩, 0, 11) := by unfold roundD; rw [if_neg h, if_pos rfl]
/-- a power of ten goes into a number -/
theorem pow_dvd {n k : Nat} : n % 10 ^ k = 0 ↔ n = 0 ∨ k ≤ tz n := by
  by_cases h : n = 0
  · subst h; simp
  · constructor
    · intro hm
      right
      have h1 : n = n / 10 ^ k * 10 ^ k := (Nat.div_mul_cancel (Nat.dvd_of_mod_eq_zero hm)).symm
      have h2 : n / 10 ^ k ≠ 0 := by intro e; rw [e] at h1; omega
      have h3 := tz_pow h2 k
      rw [← h1] at h3; omega
    · rintro (h0 | hk)
      · exact absurd h0 h
      · have h1 := core_tz n
        rw [show tz n = (tz n - k) + k by omega, Nat.pow_add, ← Nat.mul_assoc] at h1
        rw [← h1]; exact Nat.mul_mod_left _ _
/-- a decimal is a multiple of a power of ten just if it is 0, or its last digit stands there or higher -/
theorem fit_one {n : Nat} {e p k : Int} (h1 : k ≤ e) (h2 : k ≤ p) : atE n e k % atE 1 p k = 0 ↔ n = 0 ∨ p ≤ nE n e := by
  show (n * 10 ^ (e - k).toNat) % (1 * 10 ^ (p - k).toNat) = 0 ↔ _
  rw [Nat.one_mul, pow_dvd]
  by_cases h : n = 0
  · subst h; simp
  · rw [tz_pow h]
    unfold nE
    rw [if_neg h]
    have h3 : ¬ n * 10 ^ (e - k).toNat = 0 := fun h0 => h ((Nat.mul_eq_zero.1 h0).resolve_right (by have := pow10_pos (e - k).toNat; omega))
    simp only [h, h3, false_or]
    omega
/-- what is rounded at a place stands there or higher -/
theorem rv0_place {m : Int} {neg : Bool} {n : Nat} {e : Int} {st : Nat} {p k : Int} (h2 : k ≤ p) : rv0 m neg n e st p k = 0 ∨ p ≤ nE (rv0 m neg n e st p k) k := by
  have h : rv0 m neg n e st p k % 10 ^ (p - k).toNat = 0 := by
    unfold rv0
    show (_ * (st * 10 ^ (p - k).toNat)) % _ = 0
    rw [← Nat.mul_assoc]; exact Nat.mul_mod_left _ _
  rcases pow_dvd.1 h with h | h
  · exact .inl h
  · by_cases h0 : rv0 m neg n e st p k = 0
    · exact .inl h0
    · right; unfold nE; rw [if_neg h0]; omega
/-- the other sign -/
theorem rv0_turn (m : Int) (neg : Bool) (n : Nat) (e : Int) (st : Nat) (p k : Int) : rv0 (turnM m) (!neg) n e st p k = rv0 m neg n e st p k := by unfold rv0; rw [rq_turn]
theorem turnM_seven {m : Int} : turnM m = 7 ↔ m = 7 := by
  unfold turnM
  split
  · constructor <;> intro h <;> omega
  · split
    · constructor <;> intro h <;> omega
    · exact Iff.rfl
/-- moved -/
theorem rv0_move (m : Int) (neg : Bool) (n : Nat) (e : Int) (st : Nat) (p k u : Int) : rv0 m neg n (e + u) st (p + u) (k + u) = rv0 m neg n e st p k := by
  unfold rv0; rw [atE_move, atE_move]
theorem nE_move (n : Nat) (e u : Int) (h : n ≠ 0) : nE n (e + u) = nE n e + u := by unfold nE; rw [if_neg h, if_neg h]; omega
/-- the order stays -/
theorem rv0_mono {m : Int} {neg : Bool} {n n2 : Nat} {e e2 : Int} {st : Nat} {p k : Int} (h : atE n e k ≤ atE n2 e2 k) : rv0 m neg n e st p k ≤ rv0 m neg n2 e2 st p k := by
  unfold rv0; exact Nat.mul_le_mul_right _ (rq_mono h)
theorem rv0_zero (m : Int) (neg : Bool) (e : Int) (st : Nat) (p k : Int) : rv0 m neg 0 e st p k = 0 := by
  unfold rv0; rw [atE_zero, rq_fit (Nat.zero_mod _), Nat.zero_div, Nat.zero_mul]
/-- a step's value is not 0 -/
theorem atE_pos {n : Nat} (h : n ≠ 0) (e k : Int) : 0 < atE n e k := Nat.mul_pos (by omega) (pow10_pos _)
/-- what is a multiple of a step stays -/
theorem rv0_stays {m : Int} {neg : Bool} {q : Nat} {st : Nat} {p k : Int} (hs : st ≠ 0) : rq m neg (q * atE st p k) (atE st p k) * atE st p k = q * atE st p k := by
  rw [rq_mul (atE_pos hs p k)]
/-- a step of more digits, a place lower -/
theorem atE_step (st : Nat) (p k : Int) (u : Nat) (h : k ≤ p) : atE (st * 10 ^ u) p k = atE st (p + (u : Int)) k := by
  unfold atE; rw [Nat.mul_assoc, ← Nat.pow_add]; congr 2; omega
theorem roundD_step (m : Int) (neg : Bool) (n : Nat) (e : Int) (st : Nat) (p : Int) (u : Nat) : roundD m neg n e (st * 10 ^ u) p = roundD m neg n e st (p + (u : Int)) := by
  have hf : atE n e (min e p) % atE (st * 10 ^ u) p (min e p) = 0 ↔ atE n e (min e (p + (u : Int))) % atE st (p + (u : Int)) (min e (p + (u : Int))) = 0 := by
    rw [atE_step _ _ _ _ (by omega)]
    exact fit_low (by omega) (by omega) (by omega)
  have hr : rv0 m neg n e (st * 10 ^ u) p (min e p) = rv0 m neg n e st (p + (u : Int)) (min e p) := by
    unfold rv0; rw [atE_step _ _ _ _ (by omega)]
  unfold roundD
  by_cases h : atE n e (min e p) % atE (st * 10 ^ u) p (min e p) = 0
  · rw [if_pos h, if_pos (hf.1 h)]
  · rw [if_neg h, if_neg (fun hh => h (hf.2 hh)), hr, rv0_atE (i := min e (p + (u : Int))) (k := min e p) (by omega) (by omega) (by omega), nD_atE, nE_atE _ (by omega)]
end Fig
