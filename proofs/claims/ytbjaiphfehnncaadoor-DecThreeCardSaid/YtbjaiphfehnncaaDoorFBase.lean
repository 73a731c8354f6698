/- Plain facts on numbers as limbs (base 1000000000) and as digits: no program, no memory. -/
namespace Fig
abbrev BB : Nat := 1000000000
/-- are limbs a number? -/
def goodL (l : List Int) : Bool := l.all fun x => decide (0 ≤ x) && decide (x < 1000000000)
/-- what limbs say -/
def valL : List Int → Nat
  | [] => 0
  | x :: xs => x.toNat + 1000000000 * valL xs
def limbsF : Nat → Nat → List Int
  | 0, _ => []
  | f + 1, n => if n = 0 then [] else ((n % 1000000000 : Nat) : Int) :: limbsF f (n / 1000000000)
/-- a number's limbs, without noughts at the end -/
def limbs (n : Nat) : List Int := limbsF (n.log2 + 1) n
/-- without noughts at the end -/
def trimL (l : List Int) : List Int := (l.reverse.dropWhile (· == 0)).reverse

theorem goodL_nil : goodL [] = true := rfl
theorem goodL_cons {x : Int} {l : List Int} : goodL (x :: l) = true ↔ (0 ≤ x ∧ x < 1000000000) ∧ goodL l = true := by
  simp [goodL]
theorem goodL_append {a b : List Int} : goodL (a ++ b) = true ↔ goodL a = true ∧ goodL b = true := by
  simp [goodL]
theorem goodL_iff {l : List Int} : goodL l = true ↔ ∀ x ∈ l, 0 ≤ x ∧ x < 1000000000 := by
  simp [goodL]
theorem goodL_take {l : List Int} (h : goodL l = true) (n : Nat) : goodL (l.take n) = true :=
  goodL_iff.2 fun x hx => goodL_iff.1 h x (List.mem_of_mem_take hx)
theorem goodL_drop {l : List Int} (h : goodL l = true) (n : Nat) : goodL (l.drop n) = true :=
  goodL_iff.2 fun x hx => goodL_iff.1 h x (List.mem_of_mem_drop hx)
theorem goodL_get {l : List Int} (h : goodL l = true) {i : Nat} (hi : i < l.length) : 0 ≤ l.getD i 0 ∧ l.getD i 0 < 1000000000 := by
  rw [List.getD_eq_getElem?_getD, List.getElem?_eq_getElem hi]
  exact goodL_iff.1 h _ (List.getElem_mem hi)
theorem goodL_getD {l : List Int} (h : goodL l = true) (i : Nat) : 0 ≤ l.getD i 0 ∧ l.getD i 0 < 1000000000 := by
  by_cases hi : i < l.length
  · exact goodL_get h hi
  · rw [List.getD_eq_getElem?_getD, List.getElem?_eq_none (by omega)]; simp
theorem goodL_replicate (n : Nat) : goodL (List.replicate n 0) = true := by
  rw [goodL_iff]; intro x hx; have := List.eq_of_mem_replicate hx; omega
theorem valL_append (a b : List Int) : valL (a ++ b) = valL a + 1000000000 ^ a.length * valL b := by
  induction a with
  | nil => simp [valL]
  | cons x a ih =>
    simp only [List.cons_append, valL, ih, List.length_cons, Nat.pow_succ]
    rw [Nat.mul_add, ← Nat.mul_assoc, Nat.mul_comm 1000000000 (1000000000 ^ a.length)]; omega
theorem valL_lt {l : List Int} (h : goodL l = true) : valL l < 1000000000 ^ l.length := by
  induction l with
  | nil => simp [valL]
  | cons x l ih =>
    obtain ⟨hx, hl⟩ := goodL_cons.1 h
    have := ih hl
    simp only [valL, List.length_cons, Nat.pow_succ]
    omega
theorem valL_replicate (n : Nat) : valL (List.replicate n 0) = 0 := by
  induction n with
  | zero => rfl
  | succ n ih => simp [List.replicate_succ, valL, ih]
theorem valL_snoc (a : List Int) (x : Int) : valL (a ++ [x]) = valL a + 1000000000 ^ a.length * x.toNat := by
  rw [valL_append]; simp [valL]
theorem limbsF_good (f n : Nat) : goodL (limbsF f n) = true := by
  induction f generalizing n with
  | zero => rfl
  | succ f ih =>
    unfold limbsF
    split
    · rfl
    · rw [goodL_cons]; exact ⟨by omega, ih _⟩
theorem limbs_good (n : Nat) : goodL (limbs n) = true := limbsF_good _ _
theorem limbsF_val : ∀ (f n : Nat), n < 2 ^ f → valL (limbsF f n) = n
  | 0, n, h => by simp at h; subst h; rfl
  | f + 1, n, h => by
    unfold limbsF
    split
    · rename_i h0; subst h0; rfl
    · have h2 : n / 1000000000 < 2 ^ f := by rw [Nat.pow_succ] at h; omega
      simp only [valL, limbsF_val f _ h2]; omega
theorem limbs_val (n : Nat) : valL (limbs n) = n := limbsF_val _ _ Nat.lt_log2_self
/-- no nought at the end -/
def canonL (l : List Int) : Prop := l.getLast? ≠ some 0
theorem limbsF_canon : ∀ (f n : Nat), n < 2 ^ f → canonL (limbsF f n)
  | 0, n, h => by simp [limbsF, canonL]
  | f + 1, n, h => by
    unfold limbsF
    split
    · simp [canonL]
    · have h2 : n / 1000000000 < 2 ^ f := by rw [Nat.pow_succ] at h; omega
      have ih := limbsF_canon f _ h2
      have hv := limbsF_val f _ h2
      unfold canonL at ih ⊢
      rcases hr : limbsF f (n / 1000000000) with _ | ⟨y, l⟩
      · rw [hr] at hv
        simp [valL] at hv ⊢
        omega
      · rw [hr] at ih
        rw [List.getLast?_cons_cons]; exact ih
theorem limbs_canon (n : Nat) : canonL (limbs n) := limbsF_canon _ _ Nat.lt_log2_self
theorem canonL_tail {x : Int} {l : List Int} (h : canonL (x :: l)) : canonL l := by
  rcases l with _ | ⟨y, l⟩
  · simp [canonL]
  · unfold canonL at h ⊢; rwa [List.getLast?_cons_cons] at h
theorem valL_zero {l : List Int} (hg : goodL l = true) (hc : canonL l) (h : valL l = 0) : l = [] := by
  induction l with
  | nil => rfl
  | cons x l ih =>
    obtain ⟨hx, hl⟩ := goodL_cons.1 hg
    simp only [valL] at h
    have := ih hl (canonL_tail hc) (by omega)
    subst this
    exfalso; apply hc; simp; omega
theorem canon_unique : ∀ {a b : List Int}, goodL a = true → goodL b = true → canonL a → canonL b → valL a = valL b → a = b
  | [], b, _, hb, _, cb, h => (valL_zero hb cb (by simpa [valL] using h.symm)).symm
  | x :: a, [], ha, _, ca, _, h => valL_zero ha ca (by simpa [valL] using h)
  | x :: a, y :: b, ha, hb, ca, cb, h => by
    obtain ⟨hx, ha⟩ := goodL_cons.1 ha
    obtain ⟨hy, hb⟩ := goodL_cons.1 hb
    simp only [valL] at h
    have h1 : x.toNat = y.toNat := by omega
    have h2 : valL a = valL b := by omega
    rw [canon_unique ha hb (canonL_tail ca) (canonL_tail cb) h2, show x = y by omega]
theorem eq_limbs {l : List Int} (hg : goodL l = true) (hc : canonL l) : l = limbs (valL l) :=
  canon_unique hg (limbs_good _) hc (limbs_canon _) (limbs_val _).symm
/-- trimL by its end -/
theorem trimL_snoc_zero (l : List Int) : trimL (l ++ [0]) = trimL l := by simp [trimL]
theorem trimL_snoc {l : List Int} {x : Int} (h : x ≠ 0) : trimL (l ++ [x]) = l ++ [x] := by
  simp [trimL, h]
theorem trimL_split (l : List Int) : ∃ m, l = trimL l ++ List.replicate m 0 := by
  generalize hn : l.length = n
  induction n generalizing l with
  | zero => obtain rfl := List.eq_nil_of_length_eq_zero hn; exact ⟨0, rfl⟩
  | succ n ih =>
    obtain ⟨a, x, rfl⟩ : ∃ a x, l = a ++ [x] := ⟨l.dropLast, l.getLast (by intro h; simp [h] at hn), (List.dropLast_concat_getLast _).symm⟩
    by_cases hx : x = 0
    · subst hx
      obtain ⟨m, hm⟩ := ih a (by simpa using hn)
      refine ⟨m + 1, ?_⟩
      rw [trimL_snoc_zero, List.replicate_succ', ← List.append_assoc, ← hm]
    · exact ⟨0, by rw [trimL_snoc hx]; simp⟩
theorem trimL_canon (l : List Int) : canonL (trimL l) := by
  generalize hn : l.length = n
  induction n generalizing l with
  | zero => obtain rfl := List.eq_nil_of_length_eq_zero hn; simp [canonL, trimL]
  | succ n ih =>
    obtain ⟨a, x, rfl⟩ : ∃ a x, l = a ++ [x] := ⟨l.dropLast, l.getLast (by intro h; simp [h] at hn), (List.dropLast_concat_getLast _).symm⟩
    by_cases hx : x = 0
    · subst hx; rw [trimL_snoc_zero]; exact ih a (by simpa using hn)
    · rw [trimL_snoc hx]; simp [canonL, hx]
theorem trimL_val (l : List Int) : valL (trimL l) = valL l := by
  obtain ⟨m, hm⟩ := trimL_split l
  conv => rhs; rw [hm]
  rw [valL_append, valL_replicate]; simp
theorem trimL_good {l : List Int} (h : goodL l = true) : goodL (trimL l) = true := by
  obtain ⟨m, hm⟩ := trimL_split l
  rw [hm, goodL_append] at h; exact h.1
theorem trimL_eq {l : List Int} (h : goodL l = true) : trimL l = limbs (valL l) := by
  rw [← trimL_val l]; exact eq_limbs (trimL_good h) (trimL_canon l)
theorem trimL_len (l : List Int) : (trimL l).length ≤ l.length := by
  obtain ⟨m, hm⟩ := trimL_split l
  conv => rhs; rw [hm]
  simp
theorem trimL_of_canon {l : List Int} (h : canonL l) : trimL l = l := by
  obtain ⟨m, hm⟩ := trimL_split l
  cases m with
  | zero => simpa using hm.symm
  | succ m => exfalso; apply h; rw [hm, List.replicate_succ', ← List.append_assoc]; simp
theorem trimL_limbs (n : Nat) : trimL (limbs n) = limbs n := trimL_of_canon (limbs_canon n)
theorem limbs_zero : limbs 0 = [] := by decide
theorem limbs_nil_iff {n : Nat} : limbs n = [] ↔ n = 0 := by
  constructor
  · intro h; have := limbs_val n; rw [h] at this; simpa [valL] using this.symm
  · rintro rfl; exact limbs_zero
theorem limbs_inj {m n : Nat} (h : limbs m = limbs n) : m = n := by rw [← limbs_val m, h, limbs_val]
theorem canon_ge {l : List Int} (hg : goodL l = true) (hc : canonL l) (hl : 0 < l.length) : 1000000000 ^ (l.length - 1) ≤ valL l := by
  obtain ⟨a, x, rfl⟩ : ∃ a x, l = a ++ [x] := ⟨l.dropLast, l.getLast (by intro h; simp [h] at hl), (List.dropLast_concat_getLast _).symm⟩
  rw [valL_snoc]
  have h1 := (goodL_append.1 hg).2
  rw [goodL_cons] at h1
  have h2 : x ≠ 0 := by rintro rfl; exact hc (by simp)
  have : 1 ≤ x.toNat := by omega
  simp only [List.length_append, List.length_singleton, Nat.add_sub_cancel]
  have := Nat.mul_le_mul_left (1000000000 ^ a.length) this
  omega
theorem limbs_len_le {n k : Nat} (h : n < 1000000000 ^ k) : (limbs n).length ≤ k := by
  rcases Nat.lt_or_ge k (limbs n).length with hk | hk
  · have h1 := canon_ge (limbs_good n) (limbs_canon n) (by omega)
    rw [limbs_val] at h1
    have := Nat.pow_le_pow_right (n := 1000000000) (by omega) (show k ≤ (limbs n).length - 1 by omega)
    omega
  · exact hk
theorem limbs_lt (n : Nat) : n < 1000000000 ^ (limbs n).length := by
  have := valL_lt (limbs_good n); rwa [limbs_val] at this
/-- with one limb on top -/
theorem limbs_cons {x : Int} (hx : 0 ≤ x ∧ x < 1000000000) (n : Nat) (h : n ≠ 0 ∨ x ≠ 0) : x :: limbs n = limbs (x.toNat + 1000000000 * n) := by
  have hc : canonL (x :: limbs n) := by
    rcases hl : limbs n with _ | ⟨y, l⟩
    · have : n = 0 := limbs_nil_iff.1 hl
      simp [canonL]; omega
    · have := limbs_canon n
      rw [hl] at this
      unfold canonL at this ⊢; rwa [List.getLast?_cons_cons]
  have := eq_limbs (goodL_cons.2 ⟨hx, limbs_good n⟩) hc
  simpa [valL, limbs_val] using this
end Fig
namespace Fig
/-- nat.Add's answer: of numbers that are not too long -/
def addF (a b : List Int) : Option (List Int) :=
  if goodL a = true ∧ goodL b = true ∧ a.length ≤ 1000000000000 ∧ b.length ≤ 1000000000000 then some (limbs (valL a + valL b)) else none
/-- nat.Sub's answer -/
def subF (a b : List Int) : Option (List Int × Bool) :=
  if goodL a = true ∧ goodL b = true ∧ a.length ≤ 1000000000000 ∧ b.length ≤ 1000000000000 then (if valL a < valL b then some ([], false) else some (limbs (valL a - valL b), true)) else none
theorem addF_eq {a b : List Int} (ha : goodL a = true) (hb : goodL b = true) (la : a.length ≤ 1000000000000) (lb : b.length ≤ 1000000000000) : addF a b = some (limbs (valL a + valL b)) := by
  unfold addF; rw [if_pos ⟨ha, hb, la, lb⟩]
theorem subF_eq {a b : List Int} (ha : goodL a = true) (hb : goodL b = true) (la : a.length ≤ 1000000000000) (lb : b.length ≤ 1000000000000) : subF a b = if valL a < valL b then some ([], false) else some (limbs (valL a - valL b), true) := by
  unfold subF; rw [if_pos ⟨ha, hb, la, lb⟩]
end Fig
namespace Fig
def cmpN (m n : Nat) : Int := if m < n then -1 else if n < m then 1 else 0
/-- nat.Cmp's answer -/
def cmpF (a b : List Int) : Option Int := if goodL a = true ∧ goodL b = true ∧ a.length ≤ 1000000000000 ∧ b.length ≤ 1000000000000 then some (cmpN (valL a) (valL b)) else none
theorem cmpF_eq {a b : List Int} (ha : goodL a = true) (hb : goodL b = true) (la : a.length ≤ 1000000000000) (lb : b.length ≤ 1000000000000) : cmpF a b = some (cmpN (valL a) (valL b)) := by
  unfold cmpF; rw [if_pos ⟨ha, hb, la, lb⟩]
/-- nat.Trim's answer -/
def trimF (a : List Int) : Option (List Int) := if a.length ≤ 20000000000000 then some (trimL a) else none
theorem trimF_eq {a : List Int} (ha : goodL a = true) (la : a.length ≤ 20000000000000) : trimF a = some (limbs (valL a)) := by
  unfold trimF; rw [if_pos la, trimL_eq ha]
theorem take_trim (l : List Int) : l.take (trimL l).length = trimL l := by
  obtain ⟨m, hm⟩ := trimL_split l
  conv => lhs; rw [hm]
  rw [List.take_append_of_le_length (by obtain ⟨m', hm'⟩ := trimL_split l; rw [← hm]; exact Nat.le_refl _), ← hm, List.take_length]
theorem len_lt {a b : List Int} (ga : goodL a = true) (gb : goodL b = true) (cb : canonL b) (h : a.length < b.length) : valL a < valL b := by
  have h1 := valL_lt ga
  have h2 := canon_ge gb cb (by omega)
  have := Nat.pow_le_pow_right (n := 1000000000) (by omega) (show a.length ≤ b.length - 1 by omega)
  omega
theorem cmp_top (v w B p q : Nat) (hv : v < B) (hw : w < B) (h : p ≠ q) : cmpN p q = cmpN (v + B * p) (w + B * q) := by
  unfold cmpN
  rcases Nat.lt_or_gt_of_ne h with h1 | h1
  · have : B * (p + 1) ≤ B * q := Nat.mul_le_mul_left _ h1
    rw [Nat.mul_add] at this
    rw [if_pos h1, if_pos (by omega)]
  · have : B * (q + 1) ≤ B * p := Nat.mul_le_mul_left _ h1
    rw [Nat.mul_add] at this
    rw [if_neg (by omega), if_pos h1, if_neg (by omega), if_pos (by omega)]
theorem cmp_low (v w X : Nat) : cmpN v w = cmpN (v + X) (w + X) := by
  unfold cmpN; simp
theorem cmp_self (v : Nat) : cmpN v v = 0 := by unfold cmpN; simp
theorem cmp_len {a b : List Int} (ga : goodL a = true) (gb : goodL b = true) (ca : canonL a) (cb : canonL b) (h : a.length ≠ b.length) : cmpN (valL a) (valL b) = cmpN a.length b.length := by
  unfold cmpN
  rcases Nat.lt_or_gt_of_ne h with h1 | h1
  · have := len_lt ga gb cb h1
    rw [if_pos this, if_pos h1]
  · have := len_lt gb ga ca h1
    rw [if_neg (show ¬ valL a < valL b by omega), if_pos this, if_neg (show ¬ a.length < b.length by omega), if_pos h1]
theorem valL_take_succ {l : List Int} {n : Nat} (h : n < l.length) : valL (l.take (n + 1)) = valL (l.take n) + 1000000000 ^ n * l[n].toNat := by
  rw [List.take_succ_eq_append_getElem h, valL_snoc, List.length_take, Nat.min_eq_left (by omega)]
theorem valL_take_lt {l : List Int} (h : goodL l = true) (n : Nat) : valL (l.take n) < 1000000000 ^ n := by
  have := valL_lt (goodL_take h n)
  rw [List.length_take] at this
  exact Nat.lt_of_lt_of_le this (Nat.pow_le_pow_right (by omega) (Nat.min_le_left _ _))
end Fig
namespace Fig
theorem subF_lt {a b : List Int} (ha : goodL a = true) (hb : goodL b = true) (la : a.length ≤ 1000000000000) (lb : b.length ≤ 1000000000000) (h : valL a < valL b) : subF a b = some ([], false) := by
  rw [subF_eq ha hb la lb, if_pos h]
theorem subF_ge {a b : List Int} (ha : goodL a = true) (hb : goodL b = true) (la : a.length ≤ 1000000000000) (lb : b.length ≤ 1000000000000) (h : ¬ valL a < valL b) : subF a b = some (limbs (valL a - valL b), true) := by
  rw [subF_eq ha hb la lb, if_neg h]
end Fig
