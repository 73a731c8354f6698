/- Plain facts on decimals: a number of places, and an exponent. -/
import Derived.Test.YtbjaiphfehnncaaDoorFNum
namespace Fig
open Go
theorem div10_lt {n : Nat} (h : n ≠ 0) : n / 10 < n := Nat.div_lt_self (by omega) (by decide)
/-- noughts at the end -/
def tz (n : Nat) : Nat := if h : n = 0 then 0 else if n % 10 = 0 then tz (n / 10) + 1 else 0
termination_by n
decreasing_by exact div10_lt h
/-- without noughts at the end -/
def core (n : Nat) : Nat := n / 10 ^ tz n
theorem tz_zero : tz 0 = 0 := by rw [tz]; simp
theorem tz_of {n : Nat} (h : n % 10 ≠ 0) : tz n = 0 := by
  rw [tz]
  split <;> first | rfl | rw [if_neg h]
theorem tz_ten {n : Nat} (h : n ≠ 0) : tz (n * 10) = tz n + 1 := by
  rw [tz, dif_neg (by omega), if_pos (by omega)]
  rw [Nat.mul_div_cancel _ (by decide)]
theorem tz_pow {n : Nat} (h : n ≠ 0) (k : Nat) : tz (n * 10 ^ k) = tz n + k := by
  induction k with
  | zero => simp
  | succ k ih =>
    rw [Nat.pow_succ, ← Nat.mul_assoc, tz_ten, ih]; · omega
    exact Nat.mul_ne_zero h (Nat.pos_iff_ne_zero.1 (Nat.pow_pos (by decide)))
theorem core_pow {n : Nat} (h : n ≠ 0) (k : Nat) : core (n * 10 ^ k) = core n := by
  unfold core
  rw [tz_pow h, Nat.pow_add, Nat.mul_comm (10 ^ tz n), ← Nat.div_div_eq_div_mul, Nat.mul_div_cancel _ (Nat.pow_pos (by decide))]
theorem core_of {n : Nat} (h : n % 10 ≠ 0) : core n = n := by unfold core; rw [tz_of h]; simp
theorem core_tz (n : Nat) : core n * 10 ^ tz n = n := by
  by_cases h : n = 0
  · subst h; simp [core]
  induction n using Nat.strongRecOn with
  | _ n ih =>
    by_cases hm : n % 10 = 0
    · have h2 : n / 10 ≠ 0 := by omega
      have e : n = n / 10 * 10 := by omega
      rw [e, show n / 10 * 10 = n / 10 * 10 ^ 1 by simp, core_pow h2, tz_pow h2, Nat.pow_add, ← Nat.mul_assoc, ih _ (div10_lt h) h2]
    · rw [core_of hm, tz_of hm]; simp
theorem core_last {n : Nat} (h : n ≠ 0) : core n % 10 ≠ 0 := by
  intro h0
  have h1 := core_tz n
  have hc : core n ≠ 0 := by intro e; rw [e] at h1; omega
  have e : core n = core n / 10 * 10 ^ 1 := by omega
  have h2 : core n / 10 ≠ 0 := by omega
  have h3 := tz_pow h2 (1 + tz n)
  rw [Nat.pow_add, ← Nat.mul_assoc, ← e, h1] at h3
  omega
theorem core_ne {n : Nat} (h : n ≠ 0) : core n ≠ 0 := by intro e; have := core_last h; omega
theorem core_zero : core 0 = 0 := by simp [core]
theorem core_le (n : Nat) : core n ≤ n := Nat.div_le_self _ _
theorem core_core (n : Nat) : core (core n) = core n := by
  by_cases h : n = 0
  · subst h; simp [core_zero]
  · exact core_of (core_last h)
theorem tz_core (n : Nat) : tz (core n) = 0 := by
  by_cases h : n = 0
  · subst h; rw [core_zero, tz_zero]
  · exact tz_of (core_last h)
/-- the one nought -/
def noughtB : ByteArray := ⟨#[48]⟩
/-- the digits of a decimal as it should be -/
def nD (n : Nat) : ByteArray := if n = 0 then noughtB else digB (core n)
/-- its exponent -/
def nE (n : Nat) (e : Int) : Int := if n = 0 then 0 else e + (tz n : Int)
theorem nD_zero : nD 0 = noughtB := rfl
theorem nE_zero (e : Int) : nE 0 e = 0 := rfl
theorem nD_pow (n k : Nat) : nD (n * 10 ^ k) = nD n := by
  by_cases h : n = 0
  · subst h; simp
  · have h2 : n * 10 ^ k ≠ 0 := Nat.mul_ne_zero h (Nat.pos_iff_ne_zero.1 (Nat.pow_pos (by decide)))
    unfold nD; rw [if_neg h, if_neg h2, core_pow h]
theorem nE_pow (n k : Nat) (e : Int) : nE (n * 10 ^ k) e = nE n (e + (k : Int)) := by
  by_cases h : n = 0
  · subst h; simp [nE]
  · have h2 : n * 10 ^ k ≠ 0 := Nat.mul_ne_zero h (Nat.pos_iff_ne_zero.1 (Nat.pow_pos (by decide)))
    unfold nE; rw [if_neg h, if_neg h2, tz_pow h]; omega
/-- what digits say -/
theorem vB_nought : vB noughtB = 0 := rfl
theorem dB_nought : dB noughtB = true := rfl
theorem dB_nD (n : Nat) : dB (nD n) = true := by unfold nD; split; rfl; exact dB_digB _
theorem vB_nD (n : Nat) : vB (nD n) = core n := by
  unfold nD; split
  · rename_i h; subst h; rw [core_zero]; rfl
  · exact vB_digB _
theorem nD_ne (n : Nat) : (nD n).size ≠ 0 := by
  unfold nD; split
  · decide
  · rename_i h; intro e; exact core_ne h (digB_empty_iff.1 e)
theorem digB_ne_nought (n : Nat) : digB n ≠ noughtB := by
  intro e
  have h1 := congrArg vB e
  rw [vB_digB, vB_nought] at h1
  subst h1
  rw [digB_zero] at e
  exact absurd (congrArg ByteArray.size e) (by decide)
theorem nD_nought_iff {n : Nat} : nD n = noughtB ↔ n = 0 := by
  unfold nD; split
  · rename_i h; simp [h]
  · rename_i h; exact ⟨fun e => absurd e (digB_ne_nought _), fun e => absurd e h⟩
theorem nD_inj {m n : Nat} (h : nD m = nD n) : core m = core n := by
  rw [← vB_nD m, h, vB_nD]
/-- a value in places of an exponent that is not above its own -/
def atE (n : Nat) (e m : Int) : Nat := n * 10 ^ (e - m).toNat
theorem atE_self (n : Nat) (e : Int) : atE n e e = n := by simp [atE]
theorem atE_zero (e m : Int) : atE 0 e m = 0 := by simp [atE]
theorem atE_atE {n : Nat} {e m p : Int} (h1 : m ≤ e) (h2 : p ≤ m) : atE (atE n e m) m p = atE n e p := by
  unfold atE; rw [Nat.mul_assoc, ← Nat.pow_add]; congr 2; omega
theorem nD_atE (n : Nat) (e m : Int) : nD (atE n e m) = nD n := nD_pow _ _
theorem nE_atE (n : Nat) {e m : Int} (h : m ≤ e) : nE (atE n e m) m = nE n e := by
  unfold atE; rw [nE_pow]; congr 1; omega
theorem atE_inj {n p : Nat} {e m : Int} : atE n e m = atE p e m ↔ n = p := by
  unfold atE
  constructor
  · intro h; exact Nat.eq_of_mul_eq_mul_right (Nat.pow_pos (by decide)) h
  · rintro rfl; rfl
theorem atE_eq_zero {n : Nat} {e m : Int} : atE n e m = 0 ↔ n = 0 := by
  rw [show (0 : Nat) = atE 0 e m from (atE_zero e m).symm, atE_inj, atE_zero]
theorem atE_lt {n p : Nat} {e m : Int} : atE n e m < atE p e m ↔ n < p := by
  unfold atE; exact Nat.mul_lt_mul_right (Nat.pow_pos (by decide))
theorem atE_le {n p : Nat} {e m : Int} : atE n e m ≤ atE p e m ↔ n ≤ p := by
  unfold atE; exact Nat.mul_le_mul_right_iff (Nat.pow_pos (by decide))
theorem nE_le (n : Nat) (e : Int) (h : n ≠ 0) : e ≤ nE n e := by unfold nE; rw [if_neg h]; omega
/-- as it should be, a decimal says the same -/
theorem atE_core {n : Nat} {e m : Int} (h : m ≤ e) : atE (core n) (nE n e) m = atE n e m := by
  by_cases h0 : n = 0
  · subst h0; rw [core_zero, atE_zero, atE_zero]
  · unfold nE atE; rw [if_neg h0]
    conv => rhs; rw [← core_tz n, Nat.mul_assoc, ← Nat.pow_add]
    congr 2; omega
/-- two decimals as they should be are one just if they say the same -/
theorem norm_inj {n p : Nat} {e f m : Int} (h1 : m ≤ e) (h2 : m ≤ f) : (nD n = nD p ∧ nE n e = nE p f) ↔ atE n e m = atE p f m := by
  constructor
  · rintro ⟨a, b⟩
    rw [← atE_core h1, ← atE_core h2, nD_inj a, b]
  · intro h
    constructor
    · rw [← nD_atE n e m, h, nD_atE]
    · rw [← nE_atE n h1, h, nE_atE p h2]
theorem nD_of {n : Nat} (h : n % 10 ≠ 0) : nD n = digB n := by
  unfold nD; rw [if_neg (by omega), core_of h]
theorem nE_of {n : Nat} {e : Int} (h : n % 10 ≠ 0) : nE n e = e := by
  unfold nE; rw [if_neg (by omega), tz_of h]; omega
theorem nD_core (n : Nat) : nD (core n) = nD n := by
  by_cases h : n = 0
  · subst h; rw [core_zero]
  · unfold nD; rw [if_neg h, if_neg (core_ne h), core_core]
theorem nE_core (n : Nat) (e : Int) : nE (core n) (nE n e) = nE n e := by
  by_cases h : n = 0
  · subst h; rw [core_zero]; rfl
  · unfold nE; rw [if_neg h, if_neg (core_ne h), tz_core]; omega
theorem nD_size_le (n : Nat) : (nD n).size ≤ (digB n).size ∨ n = 0 := by
  by_cases h : n = 0
  · exact .inr h
  · left; unfold nD; rw [if_neg h]; exact digB_mono (core_le n) (Nat.le_refl _)
/-! digits with noughts behind -/
theorem pow10_pos (k : Nat) : 0 < 10 ^ k := Nat.pow_pos (by decide)
theorem digs_pow {n : Nat} (h : n ≠ 0) (k : Nat) : digs (n * 10 ^ k) = digs n ++ List.replicate k 48 := by
  have e : digs n ++ List.replicate k 48 = digs (rv (digs n ++ List.replicate k 48).reverse) := by
    refine eq_digs (digL_append.2 ⟨digs_dig n, digL_zeros k⟩) (canonR_of_head ?_)
    rcases hd : digs n with _ | ⟨c, l⟩
    · exact absurd (digs_nil_iff.1 hd) h
    · have := digs_head n
      rw [hd] at this; simpa using this
  rw [e, List.reverse_append, rv_append, List.reverse_replicate, rv_zeros, digs_val, List.length_replicate, Nat.zero_add, Nat.mul_comm]
theorem digs_core {n : Nat} (h : n ≠ 0) : digs n = digs (core n) ++ List.replicate (tz n) 48 := by
  rw [← digs_pow (core_ne h), core_tz]
theorem digB_len_pow {n : Nat} (h : n ≠ 0) (k : Nat) : (digB (n * 10 ^ k)).size = (digB n).size + k := by
  rw [digB_size, digB_size, digs_pow h]; simp
theorem digB_len_core {n : Nat} (h : n ≠ 0) : (digB n).size = (digB (core n)).size + tz n := by
  conv => lhs; rw [← core_tz n]
  exact digB_len_pow (core_ne h) _
theorem digs_ten {n : Nat} (h : n ≠ 0) : digs n = digs (n / 10) ++ [UInt8.ofNat (48 + n % 10)] := by
  have e : digs (n / 10) ++ [UInt8.ofNat (48 + n % 10)] = digs (rv (digs (n / 10) ++ [UInt8.ofNat (48 + n % 10)]).reverse) := by
    refine eq_digs (digL_append.2 ⟨digs_dig _, digL_cons.2 ⟨isD_iff.2 (by rw [dig_toNat]; omega), rfl⟩⟩) (canonR_of_head ?_)
    rcases hd : digs (n / 10) with _ | ⟨c, l⟩
    · have h0 := digs_nil_iff.1 hd
      simp only [List.nil_append, List.head?_cons, ne_eq, Option.some.injEq]
      intro e
      have := congrArg UInt8.toNat e
      rw [dig_toNat] at this
      have h48 : (48 : UInt8).toNat = 48 := rfl
      omega
    · have := digs_head (n / 10)
      rw [hd] at this; simpa using this
  rw [e, List.reverse_append, rv_append, digs_val]
  simp only [List.reverse_cons, List.reverse_nil, List.nil_append, rv, List.length_singleton, dig_toNat]
  congr 1; omega
theorem digs_one {n : Nat} (h : n < 10) (h0 : n ≠ 0) : digs n = [UInt8.ofNat (48 + n)] := by
  rw [digs_ten h0, show n / 10 = 0 by omega, digs_zero, show n % 10 = n by omega]; rfl
end Fig
namespace Fig
open Go
theorem B_split (s : ByteArray) (j : Nat) : s.extract 0 j ++ s.extract j s.size = s := by
  apply B_ext; rw [B_append, B_to, B_from, List.take_append_drop]
theorem dB_to {s : ByteArray} (h : dB s = true) (j : Nat) : dB (s.extract 0 j) = true := by unfold dB; rw [B_to]; exact digL_take h j
theorem dB_from {s : ByteArray} (h : dB s = true) (j : Nat) : dB (s.extract j s.size) = true := by unfold dB; rw [B_from]; exact digL_drop h j
theorem size_to {s : ByteArray} {j : Nat} (hj : j ≤ s.size) : (s.extract 0 j).size = j := by rw [size_eq, B_to, List.length_take, ← size_eq]; omega
theorem size_from (s : ByteArray) (j : Nat) : (s.extract j s.size).size = s.size - j := by rw [size_eq, B_from, List.length_drop, ← size_eq]
/-- digits cut at a place -/
theorem vB_cut {s : ByteArray} (h : dB s = true) {j m : Nat} (hm : j + m = s.size) : vB (s.extract 0 j) = vB s / 10 ^ m ∧ vB (s.extract j s.size) = vB s % 10 ^ m := by
  have e : vB s = vB (s.extract 0 j) * 10 ^ m + vB (s.extract j s.size) := by
    conv => lhs; rw [← B_split s j]
    rw [vB_append, size_from, show s.size - j = m by omega]
  have hlt := vB_lt (dB_from h j)
  rw [size_from, show s.size - j = m by omega] at hlt
  rw [e]
  constructor
  · rw [Nat.mul_comm, Nat.mul_add_div (pow10_pos m), Nat.div_eq_of_lt hlt]; rfl
  · rw [Nat.mul_comm, Nat.mul_add_mod, Nat.mod_eq_of_lt hlt]
end Fig
namespace Fig
open Go
theorem dropWhile_zeros (m : Nat) (l : List UInt8) : (List.replicate m (48 : UInt8) ++ l).dropWhile (· == 48) = l.dropWhile (· == 48) := by
  induction m with
  | zero => rfl
  | succ m ih => rw [List.replicate_succ, List.cons_append, List.dropWhile_cons, if_pos (by decide)]; exact ih
/-- without noughts at the end -/
theorem trimR_digs {n : Nat} (h : n ≠ 0) : ((digs n).reverse.dropWhile (· == 48)).reverse = digs (core n) := by
  rw [digs_core h, List.reverse_append, List.reverse_replicate, dropWhile_zeros]
  have hc := core_ne h
  rw [digs_ten hc, List.reverse_append, List.reverse_singleton, List.singleton_append, List.dropWhile_cons]
  have hl := core_last h
  have : (UInt8.ofNat (48 + core n % 10) == 48) = false := by
    rw [beq_eq_false_iff_ne]
    intro e
    have := congrArg UInt8.toNat e
    rw [dig_toNat] at this
    have h48 : (48 : UInt8).toNat = 48 := rfl
    omega
  rw [this]
  simp
/-- a text is no number's digits with a nought ahead -/
theorem digB_list_eq (n : Nat) : (⟨(digs n).toArray⟩ : ByteArray) = digB n := rfl
end Fig
namespace Fig
open Go
theorem digB_ten_size {n : Nat} (h : n ≠ 0) : (digB n).size = (digB (n / 10)).size + 1 := by
  rw [digB_size, digB_size, digs_ten h]; simp
theorem digB_ten_init {n : Nat} (h : n ≠ 0) : (digB n).extract 0 (digB (n / 10)).size = digB (n / 10) := by
  apply B_ext
  rw [B_to, digB_list, digB_list, digs_ten h, digB_size, List.take_append_of_le_length (Nat.le_refl _), List.take_length]
theorem digB_ten_last {n : Nat} (h : n ≠ 0) : (digB n).data.toList[(digB (n / 10)).size]? = some (UInt8.ofNat (48 + n % 10)) := by
  rw [digB_list, digs_ten h, digB_size, List.getElem?_append_right (Nat.le_refl _)]; simp
/-- the digit of a place: the last one's is 0 -/
theorem rv_digit : ∀ {l : List UInt8}, digL l = true → ∀ {j : Nat} {c : UInt8}, l[j]? = some c → c.toNat = 48 + rv l / 10 ^ j % 10
  | [], _, j, c, h => by simp at h
  | x :: l, hd, 0, c, h => by
    obtain ⟨hx, hl⟩ := digL_cons.1 hd
    have := isD_iff.1 hx
    simp only [List.getElem?_cons_zero, Option.some.injEq] at h
    subst h
    simp only [rv, Nat.pow_zero, Nat.div_one]; omega
  | x :: l, hd, j + 1, c, h => by
    obtain ⟨hx, hl⟩ := digL_cons.1 hd
    have hx2 := isD_iff.1 hx
    rw [List.getElem?_cons_succ] at h
    rw [rv_digit hl h]
    congr 2
    simp only [rv]
    rw [Nat.pow_succ, Nat.mul_comm (10 ^ j) 10, ← Nat.div_div_eq_div_mul]
    congr 1; omega
theorem digit_at {s : ByteArray} (h : dB s = true) {j : Nat} (hj : j < s.size) : (s.data.toList[s.size - 1 - j]'(by rw [← size_eq]; omega)).toNat = 48 + vB s / 10 ^ j % 10 := by
  have hl : s.data.toList.length = s.size := (size_eq s).symm
  refine rv_digit (l := s.data.toList.reverse) (by rw [digL_reverse]; exact h) ?_
  rw [List.getElem?_reverse (by omega)]
  simp only [hl]
  rw [List.getElem?_eq_getElem (by rw [hl]; omega)]
/-- the first digit is not 0 -/
theorem top_digit {n : Nat} (h : n ≠ 0) : 0 < n / 10 ^ ((digB n).size - 1) % 10 ∧ n / 10 ^ ((digB n).size - 1) < 10 := by
  have h1 := digs_ge h
  have h2 := digs_lt n
  rw [← digB_size] at h1 h2
  have h3 : (digB n).size ≠ 0 := fun e => h (digB_empty_iff.1 e)
  have h4 : n / 10 ^ ((digB n).size - 1) < 10 := by
    rw [Nat.div_lt_iff_lt_mul (pow10_pos _), Nat.mul_comm, ← Nat.pow_succ]
    rwa [show ((digB n).size - 1).succ = (digB n).size by omega]
  have h5 : 0 < n / 10 ^ ((digB n).size - 1) := Nat.div_pos h1 (pow10_pos _)
  exact ⟨by omega, h4⟩
end Fig
