/- Plain facts on texts of digits: no program, no memory. -/
import Derived.Laws.BytesArg
import Derived.Lib.Strings
namespace Fig
open Go
/-- 0 to 9? -/
def isD (c : UInt8) : Bool := decide (48 ≤ c.toNat) && decide (c.toNat ≤ 57)
theorem isD_iff {c : UInt8} : isD c = true ↔ 48 ≤ c.toNat ∧ c.toNat ≤ 57 := by simp [isD]
/-- all digits? -/
def digL (l : List UInt8) : Bool := l.all isD
theorem digL_nil : digL [] = true := rfl
theorem digL_cons {c : UInt8} {l : List UInt8} : digL (c :: l) = true ↔ isD c = true ∧ digL l = true := by simp [digL]
theorem digL_append {a b : List UInt8} : digL (a ++ b) = true ↔ digL a = true ∧ digL b = true := by simp [digL]
theorem digL_reverse {l : List UInt8} : digL l.reverse = digL l := by simp [digL]
theorem digL_iff {l : List UInt8} : digL l = true ↔ ∀ c ∈ l, isD c = true := by simp [digL]
theorem digL_take {l : List UInt8} (h : digL l = true) (n : Nat) : digL (l.take n) = true := digL_iff.2 fun c hc => digL_iff.1 h c (List.mem_of_mem_take hc)
theorem digL_drop {l : List UInt8} (h : digL l = true) (n : Nat) : digL (l.drop n) = true := digL_iff.2 fun c hc => digL_iff.1 h c (List.mem_of_mem_drop hc)
/-- what digits say, the last one first -/
def rv : List UInt8 → Nat
  | [] => 0
  | c :: l => (c.toNat - 48) + 10 * rv l
theorem rv_append (a b : List UInt8) : rv (a ++ b) = rv a + 10 ^ a.length * rv b := by
  induction a with
  | nil => simp [rv]
  | cons x a ih =>
    simp only [List.cons_append, rv, ih, List.length_cons, Nat.pow_succ]
    rw [Nat.mul_add, ← Nat.mul_assoc, Nat.mul_comm 10 (10 ^ a.length)]; omega
theorem rv_lt {l : List UInt8} (h : digL l = true) : rv l < 10 ^ l.length := by
  induction l with
  | nil => simp [rv]
  | cons x l ih =>
    obtain ⟨hx, hl⟩ := digL_cons.1 h
    have := ih hl
    have := isD_iff.1 hx
    simp only [rv, List.length_cons, Nat.pow_succ]
    omega
theorem rv_zeros (n : Nat) : rv (List.replicate n 48) = 0 := by
  induction n with
  | zero => rfl
  | succ n ih => simp [List.replicate_succ, rv, ih]
theorem digL_zeros (n : Nat) : digL (List.replicate n 48) = true := by
  rw [digL_iff]; intro c hc; rw [List.eq_of_mem_replicate hc]; rfl
def revF : Nat → Nat → List UInt8
  | 0, _ => []
  | f + 1, n => if n = 0 then [] else UInt8.ofNat (48 + n % 10) :: revF f (n / 10)
/-- a number's digits, without noughts ahead; of 0 none -/
def digs (n : Nat) : List UInt8 := (revF (n.log2 + 1) n).reverse
theorem dig_toNat (n : Nat) : (UInt8.ofNat (48 + n % 10)).toNat = 48 + n % 10 := by
  rw [UInt8.toNat_ofNat']; omega
theorem revF_dig (f n : Nat) : digL (revF f n) = true := by
  induction f generalizing n with
  | zero => rfl
  | succ f ih =>
    unfold revF
    split
    · rfl
    · rw [digL_cons, isD_iff, dig_toNat]; exact ⟨by omega, ih _⟩
theorem revF_val : ∀ (f n : Nat), n < 2 ^ f → rv (revF f n) = n
  | 0, n, h => by simp at h; subst h; rfl
  | f + 1, n, h => by
    unfold revF
    split
    · rename_i h0; subst h0; rfl
    · have h2 : n / 10 < 2 ^ f := by rw [Nat.pow_succ] at h; omega
      simp only [rv, revF_val f _ h2, dig_toNat]; omega
/-- no nought at the end (of digits, the last one first) -/
def canonR (l : List UInt8) : Prop := l.getLast? ≠ some 48
theorem revF_canon : ∀ (f n : Nat), n < 2 ^ f → canonR (revF f n)
  | 0, n, h => by simp [revF, canonR]
  | f + 1, n, h => by
    unfold revF
    split
    · simp [canonR]
    · have h2 : n / 10 < 2 ^ f := by rw [Nat.pow_succ] at h; omega
      have ih := revF_canon f _ h2
      have hv := revF_val f _ h2
      unfold canonR at ih ⊢
      rcases hr : revF f (n / 10) with _ | ⟨y, l⟩
      · rw [hr] at hv
        simp only [rv] at hv
        simp only [List.getLast?_singleton, ne_eq, Option.some.injEq]
        intro e
        have := congrArg UInt8.toNat e
        rw [dig_toNat] at this
        have h48 : (48 : UInt8).toNat = 48 := rfl
        omega
      · rw [hr] at ih
        rw [List.getLast?_cons_cons]; exact ih
theorem canonR_tail {x : UInt8} {l : List UInt8} (h : canonR (x :: l)) : canonR l := by
  rcases l with _ | ⟨y, l⟩
  · simp [canonR]
  · unfold canonR at h ⊢; rwa [List.getLast?_cons_cons] at h
theorem isD_zero {c : UInt8} (h : isD c = true) (h0 : c.toNat - 48 = 0) : c = 48 := by
  have := isD_iff.1 h
  exact UInt8.toNat.inj (by show c.toNat = 48; omega)
theorem rv_zero {l : List UInt8} (hg : digL l = true) (hc : canonR l) (h : rv l = 0) : l = [] := by
  induction l with
  | nil => rfl
  | cons x l ih =>
    obtain ⟨hx, hl⟩ := digL_cons.1 hg
    simp only [rv] at h
    have := ih hl (canonR_tail hc) (by omega)
    subst this
    exfalso; apply hc; simp [isD_zero hx (by omega)]
theorem canonR_unique : ∀ {a b : List UInt8}, digL a = true → digL b = true → canonR a → canonR b → rv a = rv b → a = b
  | [], b, _, hb, _, cb, h => (rv_zero hb cb (by simpa [rv] using h.symm)).symm
  | x :: a, [], ha, _, ca, _, h => rv_zero ha ca (by simpa [rv] using h)
  | x :: a, y :: b, ha, hb, ca, cb, h => by
    obtain ⟨hx, ha⟩ := digL_cons.1 ha
    obtain ⟨hy, hb⟩ := digL_cons.1 hb
    have dx := isD_iff.1 hx
    have dy := isD_iff.1 hy
    simp only [rv] at h
    have h1 : x = y := UInt8.toNat.inj (by omega)
    have h2 : rv a = rv b := by omega
    rw [canonR_unique ha hb (canonR_tail ca) (canonR_tail cb) h2, h1]
theorem digs_dig (n : Nat) : digL (digs n) = true := by rw [digs, digL_reverse]; exact revF_dig _ _
theorem digs_val (n : Nat) : rv (digs n).reverse = n := by rw [digs, List.reverse_reverse]; exact revF_val _ _ Nat.lt_log2_self
theorem digs_canon (n : Nat) : canonR (digs n).reverse := by rw [digs, List.reverse_reverse]; exact revF_canon _ _ Nat.lt_log2_self
theorem eq_digs {l : List UInt8} (hg : digL l = true) (hc : canonR l.reverse) : l = digs (rv l.reverse) := by
  have := canonR_unique (a := l.reverse) (b := (digs (rv l.reverse)).reverse) (by rw [digL_reverse]; exact hg) (by rw [digL_reverse]; exact digs_dig _) hc (digs_canon _) (digs_val _).symm
  have h2 := congrArg List.reverse this
  rwa [List.reverse_reverse, List.reverse_reverse] at h2
/-- without noughts ahead -/
def stripL (l : List UInt8) : List UInt8 := l.dropWhile (· == 48)
theorem stripL_split (l : List UInt8) : ∃ m, l = List.replicate m 48 ++ stripL l := by
  induction l with
  | nil => exact ⟨0, rfl⟩
  | cons c l ih =>
    by_cases h : c = 48
    · subst h
      obtain ⟨m, hm⟩ := ih
      refine ⟨m + 1, ?_⟩
      rw [List.replicate_succ]
      simp only [stripL, List.dropWhile_cons, beq_self_eq_true, if_true, List.cons_append]
      rw [List.cons_inj_right]; exact hm
    · exact ⟨0, by simp [stripL, h]⟩
theorem stripL_head (l : List UInt8) : (stripL l).head? ≠ some 48 := by
  induction l with
  | nil => simp [stripL]
  | cons c l ih =>
    by_cases h : c = 48
    · subst h; simpa [stripL, List.dropWhile_cons] using ih
    · simp [stripL, h]
theorem canonR_of_head {l : List UInt8} (h : l.head? ≠ some 48) : canonR l.reverse := by
  unfold canonR; rwa [List.getLast?_reverse]
theorem stripL_val (l : List UInt8) : rv (stripL l).reverse = rv l.reverse := by
  obtain ⟨m, hm⟩ := stripL_split l
  conv => rhs; rw [hm]
  rw [List.reverse_append, rv_append, List.reverse_replicate, rv_zeros]; simp
theorem stripL_dig {l : List UInt8} (h : digL l = true) : digL (stripL l) = true := by
  obtain ⟨m, hm⟩ := stripL_split l
  rw [hm, digL_append] at h; exact h.2
theorem stripL_eq {l : List UInt8} (h : digL l = true) : stripL l = digs (rv l.reverse) := by
  rw [← stripL_val l]; exact eq_digs (stripL_dig h) (canonR_of_head (stripL_head l))
theorem stripL_of_head {l : List UInt8} (h : l.head? ≠ some 48) : stripL l = l := by
  rcases l with _ | ⟨c, l⟩
  · rfl
  · have : c ≠ 48 := by simpa using h
    simp [stripL, this]
theorem stripL_len (l : List UInt8) : (stripL l).length ≤ l.length := by
  obtain ⟨m, hm⟩ := stripL_split l
  conv => rhs; rw [hm]
  simp
theorem digs_head (n : Nat) : (digs n).head? ≠ some 48 := by
  have := digs_canon n
  unfold canonR at this; rwa [List.getLast?_reverse] at this
theorem stripL_digs (n : Nat) : stripL (digs n) = digs n := stripL_of_head (digs_head n)
theorem digs_zero : digs 0 = [] := by decide
theorem digs_nil_iff {n : Nat} : digs n = [] ↔ n = 0 := by
  constructor
  · intro h; have := digs_val n; rw [h] at this; simpa [rv] using this.symm
  · rintro rfl; exact digs_zero
theorem digs_inj {m n : Nat} (h : digs m = digs n) : m = n := by rw [← digs_val m, h, digs_val]
theorem digs_lt (n : Nat) : n < 10 ^ (digs n).length := by
  have := rv_lt (l := (digs n).reverse) (by rw [digL_reverse]; exact digs_dig n)
  rwa [digs_val, List.length_reverse] at this
theorem canonR_ge {l : List UInt8} (hg : digL l = true) (hc : canonR l) (hl : 0 < l.length) : 10 ^ (l.length - 1) ≤ rv l := by
  obtain ⟨a, x, rfl⟩ : ∃ a x, l = a ++ [x] := ⟨l.dropLast, l.getLast (by intro h; simp [h] at hl), (List.dropLast_concat_getLast _).symm⟩
  rw [rv_append]
  have h1 := (digL_append.1 hg).2
  rw [digL_cons] at h1
  have h2 : x.toNat - 48 ≠ 0 := fun e => hc (by simp [isD_zero h1.1 e])
  have : 1 ≤ x.toNat - 48 := by omega
  simp only [rv, List.length_append, List.length_singleton, Nat.add_sub_cancel, Nat.mul_zero, Nat.add_zero]
  have := Nat.mul_le_mul_left (10 ^ a.length) this
  omega
theorem digs_ge {n : Nat} (h : n ≠ 0) : 10 ^ ((digs n).length - 1) ≤ n := by
  have h1 := canonR_ge (l := (digs n).reverse) (by rw [digL_reverse]; exact digs_dig n) (digs_canon n) (by
    rw [List.length_reverse]
    rcases hd : digs n with _ | _
    · exact absurd (digs_nil_iff.1 hd) h
    · simp)
  rwa [digs_val, List.length_reverse] at h1
theorem digs_len_le {n k : Nat} (h : n < 10 ^ k) : (digs n).length ≤ k := by
  rcases Nat.lt_or_ge k (digs n).length with hk | hk
  · by_cases h0 : n = 0
    · subst h0; simp [digs_zero] at hk
    · have h1 := digs_ge h0
      have := Nat.pow_le_pow_right (n := 10) (by omega) (show k ≤ (digs n).length - 1 by omega)
      omega
  · exact hk
theorem digs_len_lt {m n : Nat} (h : (digs m).length < (digs n).length) : m < n := by
  have h1 := digs_lt m
  have h0 : n ≠ 0 := by rintro rfl; simp [digs_zero] at h
  have h2 := digs_ge h0
  have := Nat.pow_le_pow_right (n := 10) (by omega) (show (digs m).length ≤ (digs n).length - 1 by omega)
  omega
/-- of texts of one length the one that is less ahead is less -/
theorem less_same : ∀ {a b : List UInt8}, digL a = true → digL b = true → a.length = b.length → Op.bytesLess a b = decide (rv a.reverse < rv b.reverse)
  | [], [], _, _, _ => by simp [Op.bytesLess, rv]
  | [], _ :: _, _, _, h => by simp at h
  | _ :: _, [], _, _, h => by simp at h
  | x :: a, y :: b, ha, hb, h => by
    obtain ⟨hx, ha⟩ := digL_cons.1 ha
    obtain ⟨hy, hb⟩ := digL_cons.1 hb
    have hl : a.length = b.length := by simpa using h
    have dx := isD_iff.1 hx
    have dy := isD_iff.1 hy
    have va := rv_lt (l := a.reverse) (by rw [digL_reverse]; exact ha)
    have vb := rv_lt (l := b.reverse) (by rw [digL_reverse]; exact hb)
    rw [List.length_reverse] at va vb
    simp only [Op.bytesLess, List.reverse_cons, rv_append, List.length_reverse, rv, less_same ha hb hl, Nat.mul_zero, Nat.add_zero]
    rw [hl] at va ⊢
    rw [Bool.eq_iff_iff]
    simp only [Bool.or_eq_true, Bool.and_eq_true, decide_eq_true_eq, beq_iff_eq, UInt8.lt_iff_toNat_lt]
    constructor
    · rintro (h1 | ⟨rfl, h1⟩)
      · have : 10 ^ b.length * (x.toNat - 48 + 1) ≤ 10 ^ b.length * (y.toNat - 48) := Nat.mul_le_mul_left _ (by omega)
        rw [Nat.mul_add] at this; omega
      · omega
    · intro h1
      rcases Nat.lt_trichotomy x.toNat y.toNat with h2 | h2 | h2
      · exact .inl h2
      · obtain rfl := UInt8.toNat.inj h2; exact .inr ⟨rfl, by omega⟩
      · exfalso
        have : 10 ^ b.length * (y.toNat - 48 + 1) ≤ 10 ^ b.length * (x.toNat - 48) := Nat.mul_le_mul_left _ (by omega)
        rw [Nat.mul_add] at this; omega
/-! texts -/
def dB (s : ByteArray) : Bool := digL s.data.toList
def vB (s : ByteArray) : Nat := rv s.data.toList.reverse
def stripB (s : ByteArray) : ByteArray := ⟨(stripL s.data.toList).toArray⟩
def digB (n : Nat) : ByteArray := ⟨(digs n).toArray⟩
theorem size_eq (s : ByteArray) : s.size = s.data.toList.length := Array.length_toList.symm
theorem B_ext {a b : ByteArray} (h : a.data.toList = b.data.toList) : a = b := by
  apply ByteArray.ext
  rw [← Array.toArray_toList (xs := a.data), h, Array.toArray_toList]
theorem B_append (a b : ByteArray) : (a ++ b).data.toList = a.data.toList ++ b.data.toList := by simp [ByteArray.data_append]
theorem B_extract (s : ByteArray) (i j : Nat) : (s.extract i j).data.toList = (s.data.toList.drop i).take (j - i) := by
  rw [ByteArray.data_extract, Array.toList_extract, List.extract_eq_take_drop]
theorem B_from (s : ByteArray) (i : Nat) : (s.extract i s.size).data.toList = s.data.toList.drop i := by
  rw [B_extract, size_eq]; apply List.take_of_length_le; simp
theorem B_to (s : ByteArray) (j : Nat) : (s.extract 0 j).data.toList = s.data.toList.take j := by
  rw [B_extract]; simp
theorem B_nums (l : List Int) : (strOfNums l).data.toList = l.map fun n => UInt8.ofNat n.toNat := rfl
theorem digB_list (n : Nat) : (digB n).data.toList = digs n := rfl
theorem dB_digB (n : Nat) : dB (digB n) = true := digs_dig n
theorem vB_digB (n : Nat) : vB (digB n) = n := digs_val n
theorem stripB_eq {s : ByteArray} (h : dB s = true) : stripB s = digB (vB s) := by
  apply B_ext; exact stripL_eq h
theorem stripB_digB (n : Nat) : stripB (digB n) = digB n := by apply B_ext; exact stripL_digs n
theorem vB_strip (s : ByteArray) : vB (stripB s) = vB s := stripL_val _
theorem dB_strip {s : ByteArray} (h : dB s = true) : dB (stripB s) = true := stripL_dig h
theorem dB_append {a b : ByteArray} : dB (a ++ b) = true ↔ dB a = true ∧ dB b = true := by unfold dB; rw [B_append, digL_append]
theorem vB_append (a b : ByteArray) : vB (a ++ b) = vB a * 10 ^ b.size + vB b := by
  unfold vB; rw [B_append, List.reverse_append, rv_append, size_eq, List.length_reverse, Nat.mul_comm]; omega
theorem vB_lt {s : ByteArray} (h : dB s = true) : vB s < 10 ^ s.size := by
  have := rv_lt (l := s.data.toList.reverse) (by rw [digL_reverse]; exact h)
  rwa [List.length_reverse, ← size_eq] at this
theorem digB_size (n : Nat) : (digB n).size = (digs n).length := by rw [size_eq, digB_list]
theorem digB_inj {m n : Nat} (h : digB m = digB n) : m = n := by rw [← vB_digB m, h, vB_digB]
theorem digB_zero : digB 0 = ⟨#[]⟩ := by apply B_ext; rw [digB_list, digs_zero]
theorem digB_empty_iff {n : Nat} : (digB n).size = 0 ↔ n = 0 := by
  rw [digB_size, List.length_eq_zero_iff, digs_nil_iff]
end Fig
namespace Fig
open Go
theorem pow9 (n : Nat) : 1000000000 ^ n = 10 ^ (9 * n) := by rw [Nat.pow_mul]
theorem digs_size_lt {n k : Nat} (h : n < 10 ^ k) : (digB n).size ≤ k := by rw [digB_size]; exact digs_len_le h
end Fig
namespace Fig
open Go
theorem rv_inj : ∀ {a b : List UInt8}, digL a = true → digL b = true → a.length = b.length → rv a = rv b → a = b
  | [], [], _, _, _, _ => rfl
  | [], _ :: _, _, _, h, _ => by simp at h
  | _ :: _, [], _, _, h, _ => by simp at h
  | x :: a, y :: b, ha, hb, hl, h => by
    obtain ⟨hx, ha⟩ := digL_cons.1 ha
    obtain ⟨hy, hb⟩ := digL_cons.1 hb
    have dx := isD_iff.1 hx
    have dy := isD_iff.1 hy
    simp only [rv] at h
    have h1 : x = y := UInt8.toNat.inj (by omega)
    rw [rv_inj ha hb (by simpa using hl) (by omega), h1]
theorem digB_toList_nil {n : Nat} : (digB n).toList = [] ↔ n = 0 := by
  rw [ByteArray.toList_eq, digB_list, digs_nil_iff]
end Fig
