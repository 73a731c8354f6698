/- Limbs and digits together. -/
import Derived.Test.YtbjaiphfehnncaaDoorFBase
import Derived.Test.YtbjaiphfehnncaaDoorFDig
import GoSem.Claim
import Derived.RowKit
namespace Fig
open Go
theorem wf_u32 {x : Int} (h : (Lit.int .u32 x).wf = true) : 0 ≤ x ∧ x < 4294967296 := by
  simp [Lit.wf, IntKind.min, IntKind.max, IntKind.signed, IntKind.bits] at h; omega
theorem digB_valL_lt {l : List Int} (g : goodL l = true) : (digB (valL l)).size ≤ 9 * l.length := by
  apply digs_size_lt; rw [← pow9]; exact valL_lt g
theorem digB_valL_size {l : List Int} {m : Nat} (g : goodL l = true) (h : l.length ≤ m) : (digB (valL l)).size ≤ 9 * m := by
  have := digB_valL_lt g; omega
theorem digB_lt_pow {n k : Nat} (h : (digB n).size ≤ k) : n < 10 ^ k := by
  have := digs_lt n
  rw [digB_size] at h
  exact Nat.lt_of_lt_of_le this (Nat.pow_le_pow_right (by omega) h)
theorem digB_mul_le {m n p q : Nat} (hm : (digB m).size ≤ p) (hn : (digB n).size ≤ q) : (digB (m * n)).size ≤ p + q := by
  apply digs_size_lt; rw [Nat.pow_add]; exact Nat.mul_lt_mul'' (digB_lt_pow hm) (digB_lt_pow hn)
theorem digB_add_le {m n p : Nat} (hm : (digB m).size ≤ p) (hn : (digB n).size ≤ p) : (digB (m + n)).size ≤ p + 1 := by
  apply digs_size_lt; rw [Nat.pow_succ]; have := digB_lt_pow hm; have := digB_lt_pow hn; omega
theorem digB_mono {m n p : Nat} (h : m ≤ n) (hn : (digB n).size ≤ p) : (digB m).size ≤ p := by
  apply digs_size_lt; have := digB_lt_pow hn; omega
theorem limbs_len_of {n k : Nat} (h : (digB n).size ≤ 9 * k) : (limbs n).length ≤ k := by
  apply limbs_len_le; rw [pow9]; exact digB_lt_pow h
theorem limbs_len_digB (n : Nat) : (limbs n).length ≤ (digB n).size := by
  apply limbs_len_le
  have := digs_lt n
  rw [digB_size]
  exact Nat.lt_of_lt_of_le this (Nat.pow_le_pow_left (by omega) _)
end Fig
namespace Fig
open Go
theorem lt_pow9 {x n k : Nat} (h : x < 1000000000 ^ n) (hk : n ≤ k) : x < 1000000000 ^ k := Nat.lt_of_lt_of_le h (Nat.pow_le_pow_right (by decide) hk)
theorem digB_ten {u n k : Nat} (hn : (digB n).size ≤ k) (h : u < 10 * n) : (digB u).size ≤ k + 1 := by
  apply digs_size_lt
  have := digB_lt_pow hn
  rw [Nat.pow_succ]; omega
theorem limbs_pow9 {x n k : Nat} (h : x < 1000000000 ^ n) (hk : n ≤ k) : (limbs x).length ≤ k := limbs_len_le (lt_pow9 h hk)
end Fig
