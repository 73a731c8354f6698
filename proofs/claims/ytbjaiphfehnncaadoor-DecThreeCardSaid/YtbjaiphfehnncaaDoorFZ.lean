/- Plain facts on decimals with a sign. -/
import Derived.Test.YtbjaiphfehnncaaDoorFRound
namespace Fig
open Go
/-- a number with a sign -/
def sg (neg : Bool) (n : Nat) : Int := if neg = true then -(n : Int) else (n : Int)
theorem sg_natAbs (neg : Bool) (n : Nat) : (sg neg n).natAbs = n := by unfold sg; split <;> simp
theorem sg_zero (neg : Bool) : sg neg 0 = 0 := by unfold sg; split <;> rfl
theorem sg_eq_zero {neg : Bool} {n : Nat} : sg neg n = 0 ↔ n = 0 := by unfold sg; split <;> omega
theorem sg_neg {neg : Bool} {n : Nat} : sg (!neg) n = - sg neg n := by unfold sg; cases neg <;> simp
theorem sg_mul (a b : Bool) (m n : Nat) : sg (a != b) (m * n) = sg a m * sg b n := by
  unfold sg; cases a <;> cases b <;> simp [Int.natCast_mul, Int.neg_mul, Int.mul_neg]
theorem sg_lt_zero {neg : Bool} {n : Nat} : sg neg n < 0 ↔ neg = true ∧ n ≠ 0 := by
  unfold sg; cases neg <;> simp <;> omega
theorem sg_pow (neg : Bool) (n k : Nat) : sg neg (n * 10 ^ k) = sg neg n * (10 : Int) ^ k := by
  unfold sg; cases neg <;> simp [Int.natCast_mul, Int.natCast_pow, Int.neg_mul]
/-- what numbers with signs stand to one another -/
def cmpZ (x y : Int) : Int := if x < y then -1 else if y < x then 1 else 0
theorem cmpZ_lt {x y : Int} : cmpZ x y < 0 ↔ x < y := by unfold cmpZ; split <;> (try split) <;> omega
theorem cmpZ_le {x y : Int} : cmpZ x y ≤ 0 ↔ x ≤ y := by unfold cmpZ; split <;> (try split) <;> omega
theorem cmpZ_eq {x y : Int} : cmpZ x y = 0 ↔ x = y := by unfold cmpZ; split <;> (try split) <;> omega
theorem cmpZ_gt {x y : Int} : 0 < cmpZ x y ↔ y < x := by unfold cmpZ; split <;> (try split) <;> omega
theorem cmpZ_ge {x y : Int} : 0 ≤ cmpZ x y ↔ y ≤ x := by unfold cmpZ; split <;> (try split) <;> omega
theorem cmpZ_swap (x y : Int) : cmpZ y x = - cmpZ x y := by unfold cmpZ; split <;> (try split) <;> (try split) <;> omega
theorem cmpZ_self (x : Int) : cmpZ x x = 0 := by unfold cmpZ; simp
theorem cmpZ_nat (m n : Nat) : cmpZ (m : Int) (n : Int) = cmpN m n := by
  unfold cmpZ cmpN
  by_cases h : m < n
  · rw [if_pos h, if_pos (by omega)]
  · rw [if_neg h, if_neg (by omega)]
    by_cases h2 : n < m
    · rw [if_pos h2, if_pos (by omega)]
    · rw [if_neg h2, if_neg (by omega)]
theorem cmpZ_neg (m n : Nat) : cmpZ (-(m : Int)) (-(n : Int)) = cmpN n m := by
  unfold cmpZ cmpN
  by_cases h : n < m
  · rw [if_pos h, if_pos (by omega)]
  · rw [if_neg h, if_neg (by omega)]
    by_cases h2 : m < n
    · rw [if_pos h2, if_pos (by omega)]
    · rw [if_neg h2, if_neg (by omega)]
theorem tenZ_pos (k : Nat) : (0 : Int) < 10 ^ k := Int.pow_pos (by decide)
theorem cmpZ_scale {x y c : Int} (h : 0 < c) : cmpZ (x * c) (y * c) = cmpZ x y := by
  unfold cmpZ
  have h1 : x * c < y * c ↔ x < y := Int.mul_lt_mul_right h
  have h2 : y * c < x * c ↔ y < x := Int.mul_lt_mul_right h
  simp only [h1, h2]
/-- a value, in places of an exponent that is not above its own -/
def vZ (neg : Bool) (n : Nat) (e m : Int) : Int := sg neg (atE n e m)
theorem vZ_low {neg : Bool} {n : Nat} {e m p : Int} (h1 : m ≤ e) (h2 : p ≤ m) : vZ neg n e p = vZ neg n e m * 10 ^ (m - p).toNat := by
  unfold vZ
  rw [← atE_atE h1 h2]
  exact sg_pow _ _ _
theorem vZ_zero (neg : Bool) (e m : Int) : vZ neg 0 e m = 0 := by unfold vZ; rw [atE_zero, sg_zero]
theorem vZ_self (neg : Bool) (n : Nat) (e : Int) : vZ neg n e e = sg neg n := by unfold vZ; rw [atE_self]
theorem vZ_eq_zero {neg : Bool} {n : Nat} {e m : Int} : vZ neg n e m = 0 ↔ n = 0 := by unfold vZ; rw [sg_eq_zero, atE_eq_zero]
theorem vZ_not (neg : Bool) (n : Nat) (e m : Int) : vZ (!neg) n e m = - vZ neg n e m := sg_neg
theorem vZ_natAbs (neg : Bool) (n : Nat) (e m : Int) : (vZ neg n e m).natAbs = atE n e m := sg_natAbs _ _
theorem vZ_core (neg : Bool) {n : Nat} {e m : Int} (h : m ≤ e) : vZ neg (core n) (nE n e) m = vZ neg n e m := by unfold vZ; rw [atE_core h]
/-- moved -/
theorem atE_move (n : Nat) (e m k : Int) : atE n (e + k) (m + k) = atE n e m := by unfold atE; rw [show e + k - (m + k) = e - m by omega]
theorem vZ_move (neg : Bool) (n : Nat) (e m k : Int) : vZ neg n (e + k) (m + k) = vZ neg n e m := by unfold vZ; rw [atE_move]
/-- the order of two values: in places of any exponent -/
theorem cmpV_low {a b : Bool} {n p : Nat} {e f m k : Int} (h1 : m ≤ e) (h2 : m ≤ f) (h3 : k ≤ m) : cmpZ (vZ a n e k) (vZ b p f k) = cmpZ (vZ a n e m) (vZ b p f m) := by
  rw [vZ_low h1 h3, vZ_low h2 h3, cmpZ_scale (tenZ_pos _)]
/-- in places of any two exponents the order is the same -/
theorem cmpV_any {a b : Bool} {n p : Nat} {e f m k : Int} (h1 : m ≤ e) (h2 : m ≤ f) (h3 : k ≤ e) (h4 : k ≤ f) : cmpZ (vZ a n e k) (vZ b p f k) = cmpZ (vZ a n e m) (vZ b p f m) := by
  rcases Int.le_total m k with h | h
  · exact (cmpV_low h3 h4 h).symm
  · exact cmpV_low h1 h2 h
/-- a decimal as it should be, of a number with a sign (0 has none): its sign, digits, exponent -/
def zN (s : Int) : Bool := decide (s < 0)
theorem pow_natAbs (s : Int) (k : Nat) : (s * 10 ^ k).natAbs = s.natAbs * 10 ^ k := by
  rw [Int.natAbs_mul, Int.natAbs_pow]; rfl
theorem zN_pow (s : Int) (k : Nat) : zN (s * 10 ^ k) = zN s := by
  unfold zN
  rw [decide_eq_decide]
  have := tenZ_pos k
  constructor
  · intro h
    apply Classical.byContradiction; intro hn
    have := Int.mul_nonneg (show 0 ≤ s by omega) (Int.le_of_lt this)
    omega
  · intro h; exact Int.mul_neg_of_neg_of_pos h this
theorem zD_pow (s : Int) (k : Nat) : nD (s * 10 ^ k).natAbs = nD s.natAbs := by rw [pow_natAbs, nD_pow]
theorem zE_pow (s : Int) (k : Nat) (e : Int) : nE (s * 10 ^ k).natAbs e = nE s.natAbs (e + (k : Int)) := by rw [pow_natAbs, nE_pow]
/-- such a decimal's value -/
theorem sg_zN (s : Int) : sg (zN s) s.natAbs = s := by
  unfold sg zN
  by_cases h : s < 0
  · simp [h]; omega
  · simp [h]; omega
theorem vZ_of (s : Int) {e m : Int} (h : m ≤ e) : vZ (zN s) (core s.natAbs) (nE s.natAbs e) m = s * 10 ^ (e - m).toNat := by
  rw [vZ_core _ h]
  unfold vZ atE
  rw [sg_pow, sg_zN]
/-- in places of whatever exponent: 0 stands at 0 -/
theorem nE_ge (n : Nat) {e m : Int} (h : m ≤ e) (h0 : m ≤ 0) : m ≤ nE n e := by
  unfold nE; split <;> omega
theorem nE_ge' (n : Nat) (e : Int) : min e 0 ≤ nE n e := by
  unfold nE; split <;> omega
theorem nE_hi (n : Nat) (e : Int) {k : Nat} (h : (digB n).size ≤ k) : nE n e ≤ max (e + (k : Int)) 0 := by
  unfold nE; split
  · omega
  · rename_i h0
    have := digB_len_core h0
    omega
/-- a sum, in places of any exponent that is above neither one's -/
def sumZ (a : Bool) (n : Nat) (e : Int) (b : Bool) (p : Nat) (f : Int) (m : Int) : Int := vZ a n e m + vZ b p f m
theorem sumZ_low {a b : Bool} {n p : Nat} {e f m k : Int} (h1 : m ≤ e) (h2 : m ≤ f) (h3 : k ≤ m) : sumZ a n e b p f k = sumZ a n e b p f m * 10 ^ (m - k).toNat := by
  unfold sumZ
  rw [vZ_low h1 h3, vZ_low h2 h3, Int.add_mul]
/-- what is the same in places of a lower exponent is the same -/
theorem zN_low {s t : Int} {m k : Int} (h : t = s * 10 ^ (m - k).toNat) : zN t = zN s := by rw [h, zN_pow]
theorem zD_low {s t : Int} {m k : Int} (h : t = s * 10 ^ (m - k).toNat) : nD t.natAbs = nD s.natAbs := by rw [h, zD_pow]
theorem zE_low {s t : Int} {m k : Int} (hk : k ≤ m) (h : t = s * 10 ^ (m - k).toNat) : nE t.natAbs k = nE s.natAbs m := by
  rw [h, zE_pow]; congr 1; omega
end Fig
namespace Fig
open Go
/-- a decimal that may be handed in -/
def goodD (s : ByteArray) (e : Int) : Bool := dB s && decide (s.size ≠ 0) && decide (s.size ≤ 1000) && decide (-1000 ≤ e) && decide (e ≤ 1000)
theorem goodD_iff {s : ByteArray} {e : Int} : goodD s e = true ↔ dB s = true ∧ s.size ≠ 0 ∧ s.size ≤ 1000 ∧ -1000 ≤ e ∧ e ≤ 1000 := by
  unfold goodD; simp only [Bool.and_eq_true, decide_eq_true_eq]
  constructor
  · rintro ⟨⟨⟨⟨a, b⟩, c⟩, d⟩, f⟩; exact ⟨a, b, c, d, f⟩
  · rintro ⟨a, b, c, d, f⟩; exact ⟨⟨⟨⟨a, b⟩, c⟩, d⟩, f⟩
/-- digits and an exponent, not too many -/
structure OkD (s : ByteArray) (e : Int) : Prop where
  d : dB s = true
  ne : s.size ≠ 0
  sz : s.size ≤ 100000
  lo : -100000 ≤ e
  hi : e ≤ 100000
theorem OkD.of_good {s : ByteArray} {e : Int} (h : goodD s e = true) : OkD s e := by
  obtain ⟨a, b, c, d, f⟩ := goodD_iff.1 h
  exact ⟨a, b, by omega, by omega, by omega⟩
theorem nD_le {n k : Nat} (h : (digB n).size ≤ k) (hk : 1 ≤ k) : (nD n).size ≤ k := by
  by_cases h0 : n = 0
  · subst h0; rw [nD_zero]; exact hk
  · unfold nD; rw [if_neg h0]; exact digB_mono (core_le n) h
theorem OkD.norm {n : Nat} {e : Int} (h : (digB n).size ≤ 50000) (lo : -50000 ≤ e) (hi : e ≤ 50000) : OkD (nD n) (nE n e) := by
  have h1 := nD_le (k := 50000) h (by decide)
  have h2 := nE_hi n e h
  have h3 := nE_ge' n e
  exact ⟨dB_nD n, nD_ne n, by omega, by omega, by omega⟩
theorem OkD.val {s : ByteArray} {e : Int} (h : OkD s e) : (digB (vB s)).size ≤ s.size := digs_size_lt (vB_lt h.d)
/-- the place of the first digit -/
def topD (n : Nat) (e : Int) : Int := if n = 0 then 0 else e + ((digB n).size : Int) - 1
theorem topD_norm (n : Nat) (e : Int) : topD (core n) (nE n e) = topD n e := by
  by_cases h : n = 0
  · subst h; rw [core_zero]; rfl
  · unfold topD nE
    rw [if_neg h, if_neg h, if_neg (core_ne h), digB_len_core h]; omega
theorem topD_atE {n : Nat} {e m : Int} (h : m ≤ e) : topD (atE n e m) m = topD n e := by
  by_cases h0 : n = 0
  · subst h0; rw [atE_zero]; rfl
  · unfold topD
    rw [if_neg h0, if_neg (fun hh => h0 (atE_eq_zero.1 hh))]
    unfold atE
    rw [digB_len_pow h0]; omega
theorem topD_move {n : Nat} (e u : Int) (h : n ≠ 0) : topD n (e + u) = topD n e + u := by unfold topD; rw [if_neg h, if_neg h]; omega
/-- in range? -/
def rangedD (n : Nat) (e : Int) : Bool := decide (n = 0 ∨ (-300 ≤ nE n e ∧ topD n e < 300))
theorem rangedD_norm (n : Nat) (e : Int) : rangedD (core n) (nE n e) = rangedD n e := by
  unfold rangedD
  rw [topD_norm, nE_core]
  by_cases h : n = 0
  · subst h; rw [core_zero]
  · simp [h, core_ne h]
/-- the digit at a place -/
def digD (n : Nat) (e p : Int) : Int := if p < e then 0 else ((n / 10 ^ (p - e).toNat % 10 : Nat) : Int)
theorem digD_move (n : Nat) (e p u : Int) : digD n (e + u) (p + u) = digD n e p := by
  unfold digD
  by_cases h : p < e
  · rw [if_pos h, if_pos (by omega)]
  · rw [if_neg h, if_neg (by omega), show p + u - (e + u) = p - e by omega]
theorem digD_top {n : Nat} (e : Int) (h : n ≠ 0) : 0 < digD n e (topD n e) := by
  have h1 := top_digit h
  have h2 : (digB n).size ≠ 0 := fun hh => h (digB_empty_iff.1 hh)
  unfold digD topD
  rw [if_neg h, if_neg (by omega), show (e + ((digB n).size : Int) - 1 - e).toNat = (digB n).size - 1 by omega]
  omega
theorem digD_hi {n : Nat} {e p : Int} (h : e + ((digB n).size : Int) ≤ p) : digD n e p = 0 := by
  unfold digD
  rw [if_neg (by omega), Nat.div_eq_of_lt]; · rfl
  refine Nat.lt_of_lt_of_le (digB_lt_pow (Nat.le_refl _)) (Nat.pow_le_pow_right (by decide) (by omega))
/-- how two decimals stand to one another -/
def cmpD (a : Bool) (n : Nat) (e : Int) (b : Bool) (p : Nat) (f : Int) : Int := cmpZ (vZ a n e (min e f)) (vZ b p f (min e f))
theorem cmpD_at {a b : Bool} {n p : Nat} {e f k : Int} (h1 : k ≤ e) (h2 : k ≤ f) : cmpD a n e b p f = cmpZ (vZ a n e k) (vZ b p f k) :=
  cmpV_any h1 h2 (by omega) (by omega)
theorem cmpD_swap (a : Bool) (n : Nat) (e : Int) (b : Bool) (p : Nat) (f : Int) : cmpD b p f a n e = - cmpD a n e b p f := by
  rw [cmpD_at (k := min e f) (by omega) (by omega)]
  exact cmpZ_swap _ _
theorem cmpD_move (a : Bool) (n : Nat) (e : Int) (b : Bool) (p : Nat) (f u : Int) : cmpD a n (e + u) b p (f + u) = cmpD a n e b p f := by
  rw [cmpD_at (k := min e f + u) (by omega) (by omega), vZ_move, vZ_move]; rfl
theorem cmpD_bd (a : Bool) (n : Nat) (e : Int) (b : Bool) (p : Nat) (f : Int) : -1 ≤ cmpD a n e b p f ∧ cmpD a n e b p f ≤ 1 := by
  unfold cmpD cmpZ; split <;> (try split) <;> omega
/-- numbers with signs by their signs -/
theorem cmpZ_signs (a b : Bool) (x y : Nat) : cmpZ (sg a x) (sg b y) = if x = 0 ∧ y = 0 then 0 else if a = b then (if a = true then cmpN y x else cmpN x y) else if a = true then -1 else 1 := by
  by_cases h : x = 0 ∧ y = 0
  · rw [if_pos h, h.1, h.2, sg_zero, sg_zero]; rfl
  · rw [if_neg h]
    by_cases hab : a = b
    · subst hab
      rw [if_pos rfl]
      cases a
      · exact cmpZ_nat x y
      · exact cmpZ_neg x y
    · rw [if_neg hab]
      cases a
      · obtain rfl : b = true := by cases b <;> simp_all
        simp only [Bool.false_eq_true, if_false]
        unfold cmpZ sg; simp only [Bool.false_eq_true, if_false, if_true]
        rw [if_neg (by omega), if_pos (by omega)]
      · obtain rfl : b = false := by cases b <;> simp_all
        unfold cmpZ sg; simp only [Bool.false_eq_true, if_false, if_true]
        rw [if_pos (by omega)]
end Fig
namespace Fig
open Go
/-- digits and an exponent, of middling size -/
structure OkS (s : ByteArray) (e : Int) : Prop where
  d : dB s = true
  ne : s.size ≠ 0
  sz : s.size ≤ 10000
  lo : -10000 ≤ e
  hi : e ≤ 10000
theorem OkS.ok {s : ByteArray} {e : Int} (h : OkS s e) : OkD s e := ⟨h.d, h.ne, by have := h.sz; omega, by have := h.lo; omega, by have := h.hi; omega⟩
theorem OkS.of_good {s : ByteArray} {e : Int} (h : goodD s e = true) : OkS s e := by
  obtain ⟨a, b, c, d, f⟩ := goodD_iff.1 h
  exact ⟨a, b, by omega, by omega, by omega⟩
theorem OkS.norm {n : Nat} {e : Int} (h : (digB n).size ≤ 5000) (lo : -5000 ≤ e) (hi : e ≤ 5000) : OkS (nD n) (nE n e) := by
  have h1 := nD_le (k := 5000) h (by decide)
  have h2 := nE_hi n e h
  have h3 := nE_ge' n e
  exact ⟨dB_nD n, nD_ne n, by omega, by omega, by omega⟩
theorem zN_sg (a : Bool) (v : Nat) : zN (sg a v) = (a && decide (v ≠ 0)) := by
  rw [Bool.eq_iff_iff]
  unfold zN
  simp only [decide_eq_true_eq, Bool.and_eq_true, sg_lt_zero]
theorem sg_add (a : Bool) (x y : Nat) : sg a x + sg a y = sg a (x + y) := by unfold sg; cases a <;> simp <;> omega
theorem sg_sub {a b : Bool} (hab : (a == b) = false) {x y : Nat} (h : y ≤ x) : sg a x + sg b y = sg a (x - y) := by
  unfold sg; cases a <;> cases b <;> simp at hab ⊢ <;> omega
theorem sg_sub' {a b : Bool} (hab : (a == b) = false) {x y : Nat} (h : x ≤ y) : sg a x + sg b y = sg b (y - x) := by
  unfold sg; cases a <;> cases b <;> simp at hab ⊢ <;> omega
/-- a decimal as it should be, of a number with a sign: 0 has none -/
def resD (S m : Int) : Bool × ByteArray × Int := (zN S, nD S.natAbs, nE S.natAbs m)
theorem resD_sg (a : Bool) (v : Nat) (m : Int) : resD (sg a v) m = (a && decide (v ≠ 0), nD v, nE v m) := by unfold resD; rw [zN_sg, sg_natAbs]
theorem resD_low {S m k : Int} (h : k ≤ m) : resD (S * 10 ^ (m - k).toNat) k = resD S m := by
  unfold resD
  rw [zN_pow, zD_pow, zE_pow, show k + ((m - k).toNat : Int) = m by omega]
theorem resD_zero (m : Int) : resD 0 m = (false, noughtB, 0) := rfl
/-- two such decimals are one just if they say the same -/
theorem resD_inj {S T m : Int} : resD S m = resD T m ↔ S = T := by
  constructor
  · intro h
    unfold resD at h
    obtain ⟨h1, h2⟩ := Prod.mk.inj h
    obtain ⟨h2, h3⟩ := Prod.mk.inj h2
    have h4 := (norm_inj (m := m) (Int.le_refl m) (Int.le_refl m)).1 ⟨h2, h3⟩
    rw [atE_self, atE_self] at h4
    rw [← sg_zN S, ← sg_zN T, h1, h4]
  · rintro rfl; rfl
/-- a sum -/
def sumD (a : Bool) (n : Nat) (e : Int) (b : Bool) (p : Nat) (f : Int) : Bool × ByteArray × Int := resD (vZ a n e (min e f) + vZ b p f (min e f)) (min e f)
theorem sumD_at {a b : Bool} {n p : Nat} {e f k : Int} (h1 : k ≤ e) (h2 : k ≤ f) : sumD a n e b p f = resD (vZ a n e k + vZ b p f k) k := by
  unfold sumD
  rw [vZ_low (m := min e f) (p := k) (by omega) (by omega), vZ_low (n := p) (m := min e f) (p := k) (by omega) (by omega), ← Int.add_mul, resD_low (by omega)]
/-- a product -/
def prodD (a : Bool) (n : Nat) (e : Int) (b : Bool) (p : Nat) (f : Int) : Bool × ByteArray × Int := resD (sg a n * sg b p) (e + f)
theorem vZ_pow (a : Bool) (n : Nat) (e k : Int) : vZ a n e k = sg a n * 10 ^ (e - k).toNat := by unfold vZ atE; exact sg_pow _ _ _
theorem prodD_at {a b : Bool} {n p : Nat} {e f i j : Int} (h1 : i ≤ e) (h2 : j ≤ f) : prodD a n e b p f = resD (vZ a n e i * vZ b p f j) (i + j) := by
  have e1 : vZ a n e i * vZ b p f j = sg a n * sg b p * 10 ^ (e + f - (i + j)).toNat := by
    rw [vZ_pow, vZ_pow, show (e + f - (i + j)).toNat = (e - i).toNat + (f - j).toNat by omega, Int.pow_add]
    rw [Int.mul_assoc, Int.mul_left_comm ((10 : Int) ^ (e - i).toNat), ← Int.mul_assoc, ← Int.mul_assoc]
  rw [e1, resD_low (by omega)]; rfl
/-- such a decimal's value, in places of an exponent that is above neither its own nor 0 -/
theorem vZ_res {S m k : Int} (h : k ≤ m) : vZ (zN S) (core S.natAbs) (nE S.natAbs m) k = S * 10 ^ (m - k).toNat := vZ_of S h
theorem vZ_res_self (S m : Int) : vZ (zN S) (core S.natAbs) (nE S.natAbs m) m = S := by rw [vZ_of S (Int.le_refl m)]; simp
/-! sizes -/
theorem size_vZ (a : Bool) {n p : Nat} (e k : Int) (h : (digB n).size ≤ p) : (digB (vZ a n e k).natAbs).size ≤ p + (e - k).toNat := by
  rw [vZ_natAbs]
  unfold atE
  by_cases h0 : n = 0
  · subst h0; rw [Nat.zero_mul, digB_empty_iff.2 rfl]; omega
  · rw [digB_len_pow h0]; omega
theorem size_add {x y : Int} {p : Nat} (hx : (digB x.natAbs).size ≤ p) (hy : (digB y.natAbs).size ≤ p) : (digB (x + y).natAbs).size ≤ p + 1 :=
  digB_mono (Int.natAbs_add_le x y) (digB_add_le hx hy)
theorem size_mul {x y : Int} {p q : Nat} (hx : (digB x.natAbs).size ≤ p) (hy : (digB y.natAbs).size ≤ q) : (digB (x * y).natAbs).size ≤ p + q := by
  rw [Int.natAbs_mul]; exact digB_mul_le hx hy
theorem size_neg (x : Int) : (digB (-x).natAbs).size = (digB x.natAbs).size := by rw [Int.natAbs_neg]
theorem OkS.res {S m : Int} (h : (digB S.natAbs).size ≤ 5000) (lo : -5000 ≤ m) (hi : m ≤ 5000) : OkS (resD S m).2.1 (resD S m).2.2 := OkS.norm h lo hi
end Fig
