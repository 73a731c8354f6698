/- Plain facts on decimals with a sign. -/
import Derived.Test.YtkhmdpplpecgcaaFRound
namespace Fig
open Go
/-- a number with a sign -/
def sg (neg : Bool) (n : Nat) : Int := if neg = true then -(n : Int) else (n : Int)
theorem sg_natAbs (neg : Bool) (n : Nat) : (sg neg n).natAbs = n := by unfold sg; split <;> simp
theorem sg_zero (neg : Bool) : sg neg 0 = 0 := by unfold sg; split <;> rfl
theorem sg_eq_zero {neg : Bool} {n : Nat} : sg neg n = 0 ↔ n = 0 := by unfold sg; split <;> omega
theorem sg_neg {neg : Bool} {n : Nat} : sg (!neg) n = - sg neg n := by unfold sg; cases neg <;> simp
theorem sg_mul (a b : Bool) (m n : Nat) : sg (a != b) (m * n) = sg a m * sg b n := by
  unfold sg; cases a <;> cases b <;> simp [Int.natCast_mul, Int.neg_mul, Int.mul_neg]
theorem sg_lt_zero {neg : Bool} {n : Nat} : sg neg n < 0 ↔ neg = true ∧ n ≠ 0 := by
  unfold sg; cases neg <;> simp <;> omega
theorem sg_pow (neg : Bool) (n k : Nat) : sg neg (n * 10 ^ k) = sg neg n * (10 : Int) ^ k := by
  unfold sg; cases neg <;> simp [Int.natCast_mul, Int.natCast_pow, Int.neg_mul]
/-- what numbers with signs stand to one another -/
def cmpZ (x y : Int) : Int := if x < y then -1 else if y < x then 1 else 0
theorem cmpZ_lt {x y : Int} : cmpZ x y < 0 ↔ x < y := by unfold cmpZ; split <;> (try split) <;> omega
theorem cmpZ_le {x y : Int} : cmpZ x y ≤ 0 ↔ x ≤ y := by unfold cmpZ; split <;> (try split) <;> omega
theorem cmpZ_eq {x y : Int} : cmpZ x y = 0 ↔ x = y := by unfold cmpZ; split <;> (try split) <;> omega
theorem cmpZ_gt {x y : Int} : 0 < cmpZ x y ↔ y < x := by unfold cmpZ; split <;> (try split) <;> omega
theorem cmpZ_ge {x y : Int} : 0 ≤ cmpZ x y ↔ y ≤ x := by unfold cmpZ; split <;> (try split) <;> omega
theorem cmpZ_swap (x y : Int) : cmpZ y x = - cmpZ x y := by unfold cmpZ; split <;> (try split) <;> (try split) <;> omega
theorem cmpZ_self (x : Int) : cmpZ x x = 0 := by unfold cmpZ; simp
theorem cmpZ_nat (m n : Nat) : cmpZ (m : Int) (n : Int) = cmpN m n := by
  unfold cmpZ cmpN
  by_cases h : m < n
  · rw [if_pos h, if_pos (by omega)]
  · rw [if_neg h, if_neg (by omega)]
    by_cases h2 : n < m
    · rw [if_pos h2, if_pos (by omega)]
    · rw [if_neg h2, if_neg (by omega)]
theorem cmpZ_neg (m n : Nat) : cmpZ (-(m : Int)) (-(n : Int)) = cmpN n m := by
  unfold cmpZ cmpN
  by_cases h : n < m
  · rw [if_pos h, if_pos (by omega)]
  · rw [if_neg h, if_neg (by omega)]
    by_cases h2 : m < n
    · rw [if_pos h2, if_pos (by omega)]
    · rw [if_neg h2, if_neg (by omega)]
theorem tenZ_pos (k : Nat) : (0 : Int) < 10 ^ k := Int.pow_pos (by decide)
theorem cmpZ_scale {x y c : Int} (h : 0 < c) : cmpZ (x * c) (y * c) = cmpZ x y := by
  unfold cmpZ
  have h1 : x * c < y * c ↔ x < y := Int.mul_lt_mul_right h
  have h2 : y * c < x * c ↔ y < x := Int.mul_lt_mul_right h
  simp only [h1, h2]
/-- a value, in places of an exponent that is not above its own -/
def vZ (neg : Bool) (n : Nat) (e m : Int) : Int := sg neg (atE n e m)
theorem vZ_low {neg : Bool} {n : Nat} {e m p : Int} (h1 : m ≤ e) (h2 : p ≤ m) : vZ neg n e p = vZ neg n e m * 10 ^ (m - p).toNat := by
  unfold vZ
  rw [← atE_atE h1 h2]
  exact sg_pow _ _ _
theorem vZ_zero (neg : Bool) (e m : Int) : vZ neg 0 e m = 0 := by unfold vZ; rw [atE_zero, sg_zero]
theorem vZ_self (neg : Bool) (n : Nat) (e : Int) : vZ neg n e e = sg neg n := by unfold vZ; rw [atE_self]
theorem vZ_eq_zero {neg : Bool} {n : Nat} {e m : Int} : vZ neg n e m = 0 ↔ n = 0 := by unfold vZ; rw [sg_eq_zero, atE_eq_zero]
theorem vZ_not (neg : Bool) (n : Nat) (e m : Int) : vZ (!neg) n e m = - vZ neg n e m := sg_neg
theorem vZ_natAbs (neg : Bool) (n : Nat) (e m : Int) : (vZ neg n e m).natAbs = atE n e m := sg_natAbs _ _
theorem vZ_core (neg : Bool) {n : Nat} {e m : Int} (h : m ≤ e) : vZ neg (core n) (nE n e) m = vZ neg n e m := by unfold vZ; rw [atE_core h]
/-- moved -/
theorem atE_move (n : Nat) (e m k : Int) : atE n (e + k) (m + k) = atE n e m := by unfold atE; rw [show e + k - (m + k) = e - m by omega]
theorem vZ_move (neg : Bool) (n : Nat) (e m k : Int) : vZ neg n (e + k) (m + k) = vZ neg n e m := by unfold vZ; rw [atE_move]
/-- the order of two values: in places of any exponent -/
theorem cmpV_low {a b : Bool} {n p : Nat} {e f m k : Int} (h1 : m ≤ e) (h2 : m ≤ f) (h3 : k ≤ m) : cmpZ (vZ a n e k) (vZ b p f k) = cmpZ (vZ a n e m) (vZ b p f m) := by
  rw [vZ_low h1 h3, vZ_low h2 h3, cmpZ_scale (tenZ_pos _)]
/-- in places of any two exponents the order is the same -/
theorem cmpV_any {a b : Bool} {n p : Nat} {e f m k : Int} (h1 : m ≤ e) (h2 : m ≤ f) (h3 : k ≤ e) (h4 : k ≤ f) : cmpZ (vZ a n e k) (vZ b p f k) = cmpZ (vZ a n e m) (vZ b p f m) := by
  rcases Int.le_total m k with h | h
  · exact (cmpV_low h3 h4 h).symm
  · exact cmpV_low h1 h2 h
/-- a decimal as it should be, of a number with a sign (0 has none): its sign, digits, exponent -/
def zN (s : Int) : Bool := decide (s < 0)
theorem pow_natAbs (s : Int) (k : Nat) : (s * 10 ^ k).natAbs = s.natAbs * 10 ^ k := by
  rw [Int.natAbs_mul, Int.natAbs_pow]; rfl
theorem zN_pow (s : Int) (k : Nat) : zN (s * 10 ^ k) = zN s := by
  unfold zN
  rw [decide_eq_decide]
  have := tenZ_pos k
  constructor
  · intro h
    apply Classical.byContradiction; intro hn
    have := Int.mul_nonneg (show 0 ≤ s by omega) (Int.le_of_lt this)
    omega
  · intro h; exact Int.mul_neg_of_neg_of_pos h this
theorem zD_pow (s : Int) (k : Nat) : nD (s * 10 ^ k).natAbs = nD s.natAbs := by rw [pow_natAbs, nD_pow]
theorem zE_pow (s : Int) (k : Nat) (e : Int) : nE (s * 10 ^ k).natAbs e = nE s.natAbs (e + (k : Int)) := by rw [pow_natAbs, nE_pow]
/-- such a decimal's value -/
theorem sg_zN (s : Int) : sg (zN s) s.natAbs = s := by
  unfold sg zN
  by_cases h : s < 0
  · simp [h]; omega
  · simp [h]; omega
theorem vZ_of (s : Int) {e m : Int} (h : m ≤ e) : vZ (zN s) (core s.natAbs) (nE s.natAbs e) m = s * 10 ^ (e - m).toNat := by
  rw [vZ_core _ h]
  unfold vZ atE
  rw [sg_pow, sg_zN]
/-- in places of whatever exponent: 0 stands at 0 -/
theorem nE_ge (n : Nat) {e m : Int} (h : m ≤ e) (h0 : m ≤ 0) : m ≤ nE n e := by
  unfold nE; split <;> omega
theorem nE_ge' (n : Nat) (e : Int) : min e 0 ≤ nE n e := by
  unfold nE; split <;> omega
theorem nE_hi (n : Nat) (e : Int) {k : Nat} (h : (digB n).size ≤ k) : nE n e ≤ max (e + (k : Int)) 0 := by
  unfold nE; split
  · omega
  · rename_i h0
    have := digB_len_core h0
    omega
/-- a sum, in places of any exponent that is above neither one's -/
def sumZ (a : Bool) (n : Nat) (e : Int) (b : Bool) (p : Nat) (f : Int) (m : Int) : Int := vZ a n e m + vZ b p f m
theorem sumZ_low {a b : Bool} {n p : Nat} {e f m k : Int} (h1 : m ≤ e) (h2 : m ≤ f) (h3 : k ≤ m) : sumZ a n e b p f k = sumZ a n e b p f m * 10 ^ (m - k).toNat := by
  unfold sumZ
  rw [vZ_low h1 h3, vZ_low h2 h3, Int.add_mul]
/-- what is the same in places of a lower exponent is the same -/
theorem zN_low {s t : Int} {m k : Int} (h : t = s * 10 ^ (m - k).toNat) : zN t = zN s := by rw [h, zN_pow]
theorem zD_low {s t : Int} {m k : Int} (h : t = s * 10 ^ (m - k).toNat) : nD t.natAbs = nD s.natAbs := by rw [h, zD_pow]
theorem zE_low {s t : Int} {m k : Int} (hk : k ≤ m) (h : t = s * 10 ^ (m - k).toNat) : nE t.natAbs k = nE s.natAbs m := by
  rw [h, zE_pow]; congr 1; omega
end Fig
