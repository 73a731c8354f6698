/- The functions that the law MulSmalls reaches, told as plain functions, with what is proved of them (part 1). -/
import Derived.Test.YtkhmdpplpecgcaaPx0
import Derived.Test.YtkhmdpplpecgcaaCMulSmalls0
namespace Go.Proofs.Ytkhmdpplpecgcaa.Px
open Fig Go.RowKit Go.Proofs.YtkhmdpplpecgcaaW.PrintWords Go.Proofs.YtkhmdpplpecgcaaW.PrintLast Go.Proofs.YtkhmdpplpecgcaaW.PrintMore
attribute [local go_sem] max2_int min2_int max_two min_two max_three min_three max_four min_four   -- for this text's walks alone

/-! plain facts: figureheadref01_Plus -/
theorem dg_zero {s : ByteArray} {k : Nat} (h : s.size ≤ k) : dg s k = 0 := by unfold dg; rw [List.getElem?_eq_none (by rw [rs_len]; omega)]
theorem add_step (p q c : Nat) (hp : p ≤ 9) (hq : q ≤ 9) (hc : c ≤ 1) : wrap64 (wrap64 ((p : Int) + (q : Int)) + (c : Int)) = ((p + q + c : Nat) : Int) := by
  rw [w64 (x := (p : Int) + (q : Int)) (by omega) (by omega), w64 (by omega) (by omega)]; omega
theorem code_mod (n : Nat) (h : n ≤ 1000000000000000000) : (wrap64 (48 + Int.tmod (n : Int) 10)) % 256 = ((48 + n % 10 : Nat) : Int) := by
  rw [Int.tmod_eq_emod_of_nonneg (by omega), w64 (by omega) (by omega)]; omega
theorem code_div (n : Nat) (h : n ≤ 1000000000000000000) : wrap64 (Int.tdiv (n : Int) 10) = ((n / 10 : Nat) : Int) := by
  rw [Int.tdiv_eq_ediv_of_nonneg (by omega), w64 (by omega) (by omega)]; omega
theorem plus_sum (p q c X Y : Nat) : c + (p + 10 * X) + (q + 10 * Y) = (p + q + c) % 10 + 10 * ((p + q + c) / 10 + X + Y) := by omega
theorem Plus_loop (a b : ByteArray) (ha : dB a = true) (hb : dB b = true) (m : Nat) (la : a.size ≤ m) (lb : b.size ≤ m) (hm : m ≤ 100000000000) : ∀ (d k : Nat) (x : List Int) (c : Nat), m + 1 - k = d → k ≤ m + 1 → (k = m + 1 → c = 0) → c ≤ 1 → x.length = k → digL (ob x) = true →
    Ev (fun j => figureheadref01_Plus.l0 j a b x (c : Int) (k : Int)) (digB (rv (ob x) + 10 ^ k * (c + rv ((rs a).drop k) + rv ((rs b).drop k)))) := by
  intro d
  induction d with
  | zero =>
    intro k x c h1 h2 h3 hc hx hd
    obtain rfl := h3 (by omega)
    refine evIs (Ev.step (f := fun j => (figureheadref01_Plus.j1 j a b x ((0 : Nat) : Int) (k : Int) false)) (fun j => ?_) (Ev.step (fun j => ?_) (turnedStrip_ev (by omega) hd))) ?_
    · simp only [figureheadref01_Plus.l0]; rw [if_neg (by omega), if_neg (by omega), show decide (((0 : Nat) : Int) > 0) = false from rfl]
    · simp only [figureheadref01_Plus.j1]; rw [if_neg (by simp)]
    · rw [rv_rest_end (by omega), rv_rest_end (by omega)]; simp
  | succ d ih =>
    intro k x c h1 h2 h3 hc hx hd
    by_cases hgo : k < a.size ∨ k < b.size ∨ 0 < c
    · have da := dg_le ha k
      have db := dg_le hb k
      have hj : ∀ j, figureheadref01_Plus.l0 (j + 1) a b x (c : Int) (k : Int) = figureheadref01_Plus.j1 j a b x (c : Int) (k : Int) true := by
        intro j
        simp only [figureheadref01_Plus.l0]
        by_cases g1 : k < a.size
        · rw [if_pos (by omega)]
        · rw [if_neg (by omega)]
          by_cases g2 : k < b.size
          · rw [if_pos (by omega)]
          · rw [if_neg (by omega), show decide ((c : Int) > 0) = true by rw [decide_eq_true_eq]; omega]
      have h10 : k = m → dg a k = 0 ∧ dg b k = 0 := fun e => ⟨dg_zero (by omega), dg_zero (by omega)⟩
      have hn0 : k = m → (dg a k + dg b k + c) / 10 = 0 := fun e => by have := h10 e; omega
      have hn1 : (dg a k + dg b k + c) / 10 ≤ 1 := by omega
      obtain ⟨o1, o2⟩ := ob_snoc x (c := (dg a k + dg b k + c) % 10) (by omega) hd
      refine Ev.step hj (Ev.step (f := fun j => figureheadref01_Plus.l0 j a b (x ++ [((48 + (dg a k + dg b k + c) % 10 : Nat) : Int)]) (((dg a k + dg b k + c) / 10 : Nat) : Int) ((k + 1 : Nat) : Int)) (fun j => ?_) ?_)
      · simp only [figureheadref01_Plus.j1, if_true]
        rw [digit_eq ha (by omega) (by omega), digit_eq hb (by omega) (by omega)]
        simp only [Option.bind_some]
        rw [if_pos (by omega), add_step _ _ _ da db hc, code_mod _ (by omega), code_div _ (by omega), w64 (by omega) (by omega)]; rfl
      · refine evIs (ih (k + 1) _ _ (by omega) (by omega) (fun e => hn0 (by omega)) hn1 (by simp [hx]) o1) ?_
        rw [o2, rv_rest a k, rv_rest b k, hx, Nat.pow_succ, plus_sum, Nat.mul_add (10 ^ k) ((dg a k + dg b k + c) % 10), ← Nat.mul_assoc, Nat.add_assoc]
    · have hc0 : c = 0 := by omega
      subst hc0
      refine evIs (Ev.step (f := fun j => (figureheadref01_Plus.j1 j a b x ((0 : Nat) : Int) (k : Int) false)) (fun j => ?_) (Ev.step (fun j => ?_) (turnedStrip_ev (by omega) hd))) ?_
      · simp only [figureheadref01_Plus.l0]; rw [if_neg (by omega), if_neg (by omega), show decide (((0 : Nat) : Int) > 0) = false from rfl]
      · simp only [figureheadref01_Plus.j1]; rw [if_neg (by simp)]
      · rw [rv_rest_end (by omega), rv_rest_end (by omega)]; simp
theorem Plus_ev {a b : ByteArray} (ha : dB a = true) (hb : dB b = true) (la : a.size ≤ 100000000000) (lb : b.size ≤ 100000000000) : Ev (fun k => figureheadref01_Plus.f k a b) (digB (vB a + vB b)) := by
  refine evIs (Plus_loop a b ha hb (max a.size b.size) (by omega) (by omega) (by omega) _ 0 [] 0 rfl (by omega) (by omega) (by omega) rfl rfl) ?_
  simp [ob, rv, vB, rs]

end Go.Proofs.Ytkhmdpplpecgcaa.Px

namespace Go.Proofs.Ytkhmdpplpecgcaa.Px
open Fig Go.RowKit Go.Proofs.YtkhmdpplpecgcaaW.PrintWords Go.Proofs.YtkhmdpplpecgcaaW.PrintLast Go.Proofs.YtkhmdpplpecgcaaW.PrintMore
attribute [local go_sem] max2_int min2_int max_two min_two max_three min_three max_four min_four   -- for this text's walks alone

/-! plain facts: figureheadref01_Times -/
/-- what a row of sums says -/
def va : List Int → Nat
  | [] => 0
  | x :: l => x.toNat + 10 * va l
theorem va_drop {l : List Int} {k : Nat} (h : k < l.length) : va (l.drop k) = l[k].toNat + 10 * va (l.drop (k + 1)) := by
  rw [List.drop_eq_getElem_cons h]; rfl
theorem va_set : ∀ (l : List Int) (m : Nat) (h : m < l.length) (t : Nat), 0 ≤ l[m] → va (l.set m (l[m] + (t : Int))) = va l + 10 ^ m * t
  | x :: l, 0, h, t, h0 => by
    simp only [List.set_cons_zero, va, List.getElem_cons_zero] at h0 ⊢
    rw [Nat.pow_zero]; omega
  | x :: l, m + 1, h, t, h0 => by
    simp only [List.set_cons_succ, va, List.getElem_cons_succ] at h0 ⊢
    rw [va_set l m (by simpa using h) t h0, Nat.pow_succ, Nat.mul_add, Nat.mul_comm (10 ^ m) 10, Nat.mul_assoc]; omega
theorem va_replicate (n : Nat) : va (List.replicate n 0) = 0 := by
  induction n with
  | zero => rfl
  | succ n ih => simp [List.replicate_succ, va, ih]
theorem set_bound {l : List Int} {m : Nat} {v M : Int} (h : ∀ e ∈ l, 0 ≤ e ∧ e ≤ M) {M' : Int} (hM : M ≤ M') (hv : 0 ≤ v ∧ v ≤ M') : ∀ e ∈ l.set m v, 0 ≤ e ∧ e ≤ M' := by
  intro e he
  rcases List.mem_or_eq_of_mem_set he with h1 | h1
  · have := h e h1; omega
  · subst h1; exact hv
theorem times_idx (i j : Nat) (hi : i ≤ 1000000) (hj : j ≤ 1000000) : wrap64 ((i : Int) + (j : Int)) = ((i + j : Nat) : Int) := by rw [w64 (by omega) (by omega)]; omega
theorem times_cell (e : Int) (p q : Nat) (h0 : 0 ≤ e) (h1 : e ≤ 100000000000000000) (hp : p ≤ 9) (hq : q ≤ 9) : wrap64 (e + wrap64 ((p : Int) * (q : Int))) = e + ((p * q : Nat) : Int) := by
  have : p * q ≤ 9 * 9 := Nat.mul_le_mul hp hq
  have e2 : (p : Int) * (q : Int) = ((p * q : Nat) : Int) := by simp
  rw [e2]
  generalize p * q = t at *
  rw [w64 (x := (t : Int)) (by omega) (by omega), w64 (by omega) (by omega)]
theorem Times_in (a b : ByteArray) (ha : dB a = true) (hb : dB b = true) (la : a.size ≤ 1000000) (lb : b.size ≤ 1000000) (i : Nat) (hi : i < a.size) (r : ByteArray) : ∀ (d j M : Nat) (x : List Int), b.size - j = d → j ≤ b.size → x.length = a.size + b.size + 1 → (∀ e ∈ x, 0 ≤ e ∧ e ≤ (M : Int)) → M + 81 * d ≤ 100000000000000000 →
    (∀ x', x'.length = a.size + b.size + 1 → (∀ e ∈ x', 0 ≤ e ∧ e ≤ ((M + 81 * d : Nat) : Int)) → va x' = va x + 10 ^ (i + j) * (dg a i * rv ((rs b).drop j)) → Ev (fun k => figureheadref01_Times.l0 k a b x' ((i + 1 : Nat) : Int)) r) →
    Ev (fun k => figureheadref01_Times.l1 k a b x (i : Int) (j : Int)) r
  | 0, j, M, x, h1, h2, hx, hM, hb2, h => by
    refine Ev.step (f := fun k => figureheadref01_Times.l0 k a b x ((i + 1 : Nat) : Int)) (fun k => ?_) (h x hx (fun e he => by have := hM e he; omega) (by rw [rv_rest_end (by omega)]; simp))
    simp only [figureheadref01_Times.l1]; rw [if_neg (by omega), succ64 _ (by omega)]
  | d + 1, j, M, x, h1, h2, hx, hM, hb2, h => by
    have da := dg_le ha i
    have db := dg_le hb j
    have hlt : i + j < x.length := by omega
    have hm := hM _ (List.getElem_mem hlt)
    have hpq : dg a i * dg b j ≤ 81 := Nat.mul_le_mul da db
    refine Ev.step (f := fun k => figureheadref01_Times.l1 k a b (x.set (i + j) (x[i + j] + ((dg a i * dg b j : Nat) : Int))) (i : Int) ((j + 1 : Nat) : Int)) (fun k => ?_)
      (Times_in a b ha hb la lb i hi r d (j + 1) (M + 81) _ (by omega) (by omega) (by simpa using hx) (set_bound (M' := ((M + 81 : Nat) : Int)) (v := x[i + j] + ((dg a i * dg b j : Nat) : Int)) hM (by omega) (by omega)) (by omega) (fun x' h3 h4 h5 => h x' h3 (fun e he => by have := h4 e he; omega) ?_))
    · simp only [figureheadref01_Times.l1]
      rw [if_pos (by omega), times_idx i j (by omega) (by omega), if_pos (by omega), if_pos (by omega), digit_eq ha (by omega) (by omega), digit_eq hb (by omega) (by omega)]
      simp only [Option.bind_some, Int.toNat_natCast]
      rw [rd_get hlt, times_cell _ _ _ hm.1 (by omega) da db, succ64 _ (by omega)]
    · rw [h5, va_set _ _ hlt _ hm.1, rv_rest b j, Nat.mul_add (dg a i), Nat.mul_add (10 ^ (i + j)), ← Nat.add_assoc i j 1, Nat.pow_succ, ← Nat.mul_assoc (dg a i) 10, Nat.mul_comm (dg a i) 10, Nat.mul_assoc (10 ^ (i + j)) 10, Nat.mul_assoc 10, Nat.add_assoc]
theorem Times_carry (x : List Int) (hx : ∀ e ∈ x, 0 ≤ e ∧ e ≤ 100000000000000000) (lx : x.length ≤ 3000000) : ∀ (d k : Nat) (t : List Int) (c : Nat), x.length - k = d → k ≤ x.length → t.length = k → digL (ob t) = true → c ≤ 100000000000000000 → rv (ob t) + 10 ^ k * (c + va (x.drop k)) < 10 ^ x.length →
    Ev (fun j => figureheadref01_Times.l2 j x t (c : Int) (k : Int)) (digB (rv (ob t) + 10 ^ k * (c + va (x.drop k))))
  | 0, k, t, c, h1, h2, ht, hd, hc, hlt => by
    have e : x.drop k = [] := List.drop_of_length_le (by omega)
    have hk : k = x.length := by omega
    rw [e, hk] at hlt
    simp only [va, Nat.add_zero] at hlt
    have hc0 : c = 0 := by
      rcases Nat.eq_zero_or_pos c with h | h
      · exact h
      · have := Nat.mul_le_mul_left (10 ^ x.length) h
        omega
    subst hc0
    refine evIs (Ev.step (fun j => ?_) (turnedStrip_ev (l := t) (by omega) hd)) ?_
    · simp only [figureheadref01_Times.l2]; rw [if_neg (by omega)]
    · rw [e]; simp [va]
  | d + 1, k, t, c, h1, h2, ht, hd, hc, hlt => by
    have hkx : k < x.length := by omega
    have hm := hx _ (List.getElem_mem hkx)
    obtain ⟨v, hv⟩ : ∃ v : Nat, x[k] = (v : Int) := ⟨x[k].toNat, by omega⟩
    have e := va_drop hkx
    rw [hv, Int.toNat_natCast] at e
    have hsum : wrap64 (rd x (k : Int) + (c : Int)) = ((v + c : Nat) : Int) := by rw [rd_get hkx, hv, w64 (by omega) (by omega)]; omega
    obtain ⟨o1, o2⟩ := ob_snoc t (c := (v + c) % 10) (by omega) hd
    have key : rv (ob t) + 10 ^ t.length * ((v + c) % 10) + 10 ^ (k + 1) * ((v + c) / 10 + va (x.drop (k + 1))) = rv (ob t) + 10 ^ k * (c + va (x.drop k)) := by
      rw [ht, e, Nat.pow_succ, Nat.mul_assoc, Nat.add_assoc, ← Nat.mul_add]; congr 2; omega
    have hn : (v + c) / 10 ≤ 100000000000000000 := by omega
    refine Ev.step (f := fun j => figureheadref01_Times.l2 j x (t ++ [((48 + (v + c) % 10 : Nat) : Int)]) (((v + c) / 10 : Nat) : Int) ((k + 1 : Nat) : Int)) (fun j => ?_)
      (evIs (Times_carry x hx lx d (k + 1) _ ((v + c) / 10) (by omega) (by omega) (by simp [ht]) o1 hn (by rw [o2, key]; exact hlt)) (by rw [o2, key]))
    simp only [figureheadref01_Times.l2]
    rw [if_pos (by omega), if_pos (by omega), if_pos (by omega), hsum, code_mod _ (by omega), code_div _ (by omega), succ64 _ (by omega)]
theorem Times_out (a b : ByteArray) (ha : dB a = true) (hb : dB b = true) (la : a.size ≤ 1000000) (lb : b.size ≤ 1000000) : ∀ (d i : Nat) (x : List Int), a.size - i = d → i ≤ a.size → x.length = a.size + b.size + 1 → (∀ e ∈ x, 0 ≤ e ∧ e ≤ ((81 * b.size * i : Nat) : Int)) → va x + 10 ^ i * (rv ((rs a).drop i) * vB b) < 10 ^ x.length →
    Ev (fun k => figureheadref01_Times.l0 k a b x (i : Int)) (digB (va x + 10 ^ i * (rv ((rs a).drop i) * vB b)))
  | 0, i, x, h1, h2, hx, hM, hlt => by
    have hb3 : 81 * b.size * i ≤ 81 * 1000000 * 1000000 := Nat.mul_le_mul (Nat.mul_le_mul_left _ lb) (by omega)
    have e0 : rv ((rs a).drop i) = 0 := rv_rest_end (by omega)
    rw [e0] at hlt ⊢
    have := Times_carry x (fun e he => by have := hM e he; omega) (by omega) x.length 0 [] 0 (by omega) (by omega) rfl rfl (by omega) (by simpa [ob, rv] using hlt)
    refine evIs (Ev.step (fun k => ?_) this) (by simp [ob, rv])
    simp only [figureheadref01_Times.l0]; rw [if_neg (by omega)]; rfl
  | d + 1, i, x, h1, h2, hx, hM, hlt => by
    have hb3 : 81 * b.size * (i + 1) ≤ 81 * 1000000 * 1000000 := Nat.mul_le_mul (Nat.mul_le_mul_left _ lb) (by omega)
    have hb4 : 81 * b.size * (i + 1) = 81 * b.size * i + 81 * b.size := Nat.mul_succ _ _
    have key : 10 ^ (i + 0) * (dg a i * rv ((rs b).drop 0)) + 10 ^ (i + 1) * (rv ((rs a).drop (i + 1)) * vB b) = 10 ^ i * (rv ((rs a).drop i) * vB b) := by
      rw [rv_rest a i, show rv ((rs b).drop 0) = vB b from rfl, Nat.add_zero, Nat.pow_succ, Nat.mul_assoc (10 ^ i) 10, ← Nat.mul_add, Nat.add_mul, Nat.mul_assoc 10]
    refine Ev.step (f := fun k => figureheadref01_Times.l1 k a b x (i : Int) ((0 : Nat) : Int)) (fun k => ?_)
      (Times_in a b ha hb la lb i (by omega) _ b.size 0 (81 * b.size * i) x (by omega) (by omega) hx hM (by omega) (fun x' h3 h4 h5 => evIs (Times_out a b ha hb la lb d (i + 1) x' (by omega) (by omega) h3 (fun e he => by have := h4 e he; omega) ?_) ?_))
    · simp only [figureheadref01_Times.l0]; rw [if_pos (by omega)]; rfl
    · rw [h5, Nat.add_assoc, key, h3, ← hx]; exact hlt
    · rw [h5, Nat.add_assoc, key]
theorem Times_ev {a b : ByteArray} (ha : dB a = true) (hb : dB b = true) (la : a.size ≤ 1000000) (lb : b.size ≤ 1000000) : Ev (fun k => figureheadref01_Times.f k a b) (digB (vB a * vB b)) := by
  unfold figureheadref01_Times.f
  rw [times_len _ _ la lb]
  simp only [Int.toNat_natCast]
  have c1 : (0 : Int) ≤ ((a.size + b.size + 1 : Nat) : Int) := by omega
  have c2 : a.size + b.size + 1 ≤ 35184372088832 := by omega
  simp only [c1, c2, if_true]
  refine evIs (Times_out a b ha hb la lb a.size 0 _ (by omega) (by omega) (by simp) (fun e he => by rw [List.eq_of_mem_replicate he]; omega) ?_) ?_
  · rw [va_replicate, List.length_replicate]
    have := Nat.mul_lt_mul'' (vB_lt ha) (vB_lt hb)
    rw [← Nat.pow_add] at this
    have h2 : 10 ^ (a.size + b.size) ≤ 10 ^ (a.size + b.size + 1) := Nat.pow_le_pow_right (by omega) (by omega)
    have e : rv ((rs a).drop 0) = vB a := rfl
    rw [e]; omega
  · rw [va_replicate, show rv ((rs a).drop 0) = vB a from rfl]; simp

end Go.Proofs.Ytkhmdpplpecgcaa.Px

namespace Go.Proofs.Ytkhmdpplpecgcaa.Px
open Fig Go.RowKit Go.Proofs.YtkhmdpplpecgcaaW.PrintWords Go.Proofs.YtkhmdpplpecgcaaW.PrintLast Go.Proofs.YtkhmdpplpecgcaaW.PrintMore
attribute [local go_sem] max2_int min2_int max_two min_two max_three min_three max_four min_four   -- for this text's walks alone

/-! plain facts: mul_Small -/
theorem small_len (p : Nat) (hp : p ≤ 1000000) : wrap64 ((p : Int) + 2) = ((p + 2 : Nat) : Int) := by rw [w64 (by omega) (by omega)]; omega
theorem Small_ev {a : List Int} {y m : Nat} (ga : goodL a = true) (la : a.length ≤ 1000000) (hy : y < 1000000000) (hm : m < 1000000000) : Ev (fun k => mul_Small.f k a (y : Int) (m : Int)) (limbs (valL a * y + m)) := by
  unfold mul_Small.f
  rw [small_len _ la]
  have c1 : (0 : Int) ≤ ((a.length + 2 : Nat) : Int) := by omega
  have c2 : a.length + 2 ≤ 70368744177664 := by omega
  simp only [Int.toNat_natCast, c1, c2, if_true, Option.bind_some]
  have c3 : (0 : Int) < (((List.replicate (a.length + 2) (0 : Int)).length : Nat) : Int) := by simp; omega
  simp only [c3, if_true]
  have e1 : (List.replicate (a.length + 2) (0 : Int)).set (0 : Int).toNat (m : Int) = (m : Int) :: List.replicate (a.length + 1) 0 := by rw [List.replicate_succ]; rfl
  rw [e1]
  have g1 : goodL ((m : Int) :: List.replicate (a.length + 1) 0) = true := goodL_cons.2 ⟨by omega, goodL_replicate _⟩
  have v1 : valL ((m : Int) :: List.replicate (a.length + 1) 0) = m := by simp [valL, valL_replicate]
  have l1 : ((m : Int) :: List.replicate (a.length + 1) 0).length = a.length + 2 := by simp
  have hlt : valL ((m : Int) :: List.replicate (a.length + 1) 0) + 1000000000 ^ 0 * (valL a * y) < 1000000000 ^ ((m : Int) :: List.replicate (a.length + 1) 0).length := by
    rw [v1, l1, Nat.pow_zero, Nat.one_mul]
    have va := valL_lt ga
    have h3 : valL a * y ≤ 1000000000 ^ a.length * 999999999 := Nat.mul_le_mul (by omega) (by omega)
    have h4 : 1000000000 ^ (a.length + 2) = 1000000000 ^ a.length * 1000000000 * 1000000000 := by rw [Nat.pow_succ, Nat.pow_succ]
    have h5 : 1 ≤ 1000000000 ^ a.length := Nat.one_le_pow _ _ (by omega)
    omega
  obtain ⟨r, hr, g2, g3, g4⟩ := row_ev (p := 0) g1 ga hy (by rw [l1]; omega) (by rw [l1]; omega) hlt
  refine Ev.bind hr ?_
  simp only [nat_Trim.f]
  rw [trimF_eq g2 (by rw [g3, l1]; omega)]
  refine evIs (Ev.now _) ?_
  rw [g4, v1, Nat.pow_zero, Nat.one_mul, Nat.add_comm]

end Go.Proofs.Ytkhmdpplpecgcaa.Px

namespace Go.Proofs.Ytkhmdpplpecgcaa.Px
open Fig Go.RowKit Go.Proofs.YtkhmdpplpecgcaaW.PrintWords Go.Proofs.YtkhmdpplpecgcaaW.PrintLast Go.Proofs.YtkhmdpplpecgcaaW.PrintMore
attribute [local go_sem] max2_int min2_int max_two min_two max_three min_three max_four min_four   -- for this text's walks alone

/-! plain facts: figureheadlaw02_answers -/
theorem answers02_ev : Ev (fun k => figureheadlaw02_answers.f k) true := Ev.of figureheadlaw02_answers.mono (k := 20) (by decide +kernel)

end Go.Proofs.Ytkhmdpplpecgcaa.Px

namespace Go.Proofs.Ytkhmdpplpecgcaa.Px
open Fig Go.RowKit Go.Proofs.YtkhmdpplpecgcaaW.PrintWords Go.Proofs.YtkhmdpplpecgcaaW.PrintLast Go.Proofs.YtkhmdpplpecgcaaW.PrintMore
attribute [local go_sem] max2_int min2_int max_two min_two max_three min_three max_four min_four   -- for this text's walks alone

/-! plain facts: figureheadref01_Same -/
theorem Same_loop (a b : List Int) (hl : a.length ≤ 4611686018427387904) (he : a.length = b.length) : ∀ (d n : Nat), a.length - n = d → n ≤ a.length → Ev (fun k => figureheadref01_Same.l0 k a b (n : Int)) (decide (a.drop n = b.drop n))
  | 0, n, hd, hn => by
    refine evDone (r' := true) (fun k => ?_) ?_
    · simp only [figureheadref01_Same.l0]; rw [if_neg (by omega)]
    · rw [List.drop_of_length_le (by omega), List.drop_of_length_le (by omega)]; simp
  | d + 1, n, hd, hn => by
    have ha := rd_get (l := a) (n := n) (by omega)
    have hb := rd_get (l := b) (n := n) (by omega)
    have ca := List.drop_eq_getElem_cons (l := a) (i := n) (by omega)
    have cb := List.drop_eq_getElem_cons (l := b) (i := n) (by omega)
    by_cases h9 : rd a (n : Int) = rd b (n : Int)
    · refine Ev.step (f := fun k => figureheadref01_Same.l0 k a b ((n + 1 : Nat) : Int)) (fun k => ?_) ?_
      · simp only [figureheadref01_Same.l0]; rw [if_pos (by omega), if_pos (by omega), if_pos (by omega), if_pos h9, w64 (by omega) (by omega)]; rfl
      · have := Same_loop a b hl he d (n + 1) (by omega) (by omega)
        refine evIs this ?_
        rw [ca, cb, show a[n] = b[n] by rw [← ha, ← hb, h9]]
        simp only [List.cons.injEq, true_and]
    · refine evDone (r' := false) (fun k => ?_) ?_
      · simp only [figureheadref01_Same.l0]; rw [if_pos (by omega), if_pos (by omega), if_pos (by omega), if_neg h9]
      · rw [ca, cb]; symm; rw [decide_eq_false_iff_not]; intro e; injection e with e _
        rw [ha, hb] at h9; exact h9 e
theorem Same_ev {a b : List Int} (hl : a.length ≤ 4611686018427387904) : Ev (fun k => figureheadref01_Same.f k a b) (decide (a = b)) := by
  by_cases he : a.length = b.length
  · have := Same_loop a b hl he a.length 0 (by omega) (by omega)
    simp only [figureheadref01_Same.f, he, if_true]
    simpa using this
  · refine ⟨0, fun k _ => ?_⟩
    simp only [figureheadref01_Same.f]
    rw [if_neg (by omega)]; congr 1; symm; rw [decide_eq_false_iff_not]; rintro rfl; exact he rfl
theorem Same_self {a : List Int} (hl : a.length ≤ 4611686018427387904) : Ev (fun k => figureheadref01_Same.f k a a) true := by
  simpa using Same_ev (a := a) (b := a) hl
theorem Same_true {a b : List Int} (h : a = b) (hl : a.length ≤ 4611686018427387904) : Ev (fun k => figureheadref01_Same.f k a b) true := by subst h; exact Same_self hl

end Go.Proofs.Ytkhmdpplpecgcaa.Px

namespace Go.Proofs.Ytkhmdpplpecgcaa.Px
open Fig Go.RowKit Go.Proofs.YtkhmdpplpecgcaaW.PrintWords Go.Proofs.YtkhmdpplpecgcaaW.PrintLast Go.Proofs.YtkhmdpplpecgcaaW.PrintMore
attribute [local go_sem] max2_int min2_int max_two min_two max_three min_three max_four min_four   -- for this text's walks alone

/-! plain facts: figureheadref01_Number -/
theorem Number_in (s : ByteArray) (hd : dB s = true) (hs : s.size ≤ 1000000000000) (out : List Int) (ho : out.length ≤ 1000000000000) (fr : Nat) (hf : fr ≤ s.size) (r : List Int) : ∀ (d i x : Nat), s.size - i = d → fr ≤ i → i ≤ s.size → s.size - fr ≤ 9 → x < 10 ^ (i - fr) →
    Ev (fun k => figureheadref01_Number.l0 k (s.extract 0 fr) (out ++ [((x * 10 ^ d + rv (s.data.toList.drop i).reverse : Nat) : Int)])) r → Ev (fun k => figureheadref01_Number.l1 k s out (fr : Int) (x : Int) (i : Int)) r
  | 0, i, x, h1, h2, h3, h4, h5, h => by
    refine Ev.step (fun k => ?_) h
    have e : s.data.toList.drop i = [] := List.drop_of_length_le (by rw [← size_eq]; omega)
    simp only [figureheadref01_Number.l1]; rw [if_neg (by omega), if_pos (by omega), if_pos (by omega), if_pos (by omega), e]; simp [rv]
  | d + 1, i, x, h1, h2, h3, h4, h5, h => by
    have hlt : i < s.size := by omega
    have hb := bt_get hlt
    have hc := List.drop_eq_getElem_cons (l := s.data.toList) (i := i) (by rw [← size_eq]; exact hlt)
    have hdig := isD_iff.1 (digL_iff.1 hd _ (List.getElem_mem (l := s.data.toList) (n := i) (by rw [← size_eq]; exact hlt)))
    generalize hcc : s.data.toList[i]'(by rw [← size_eq]; exact hlt) = c at *
    have p1 : 10 ^ (i - fr) ≤ 10 ^ 8 := Nat.pow_le_pow_right (by omega) (by omega)
    have p8 : (10 : Nat) ^ 8 = 100000000 := rfl
    have p2 : 10 ^ (i + 1 - fr) = 10 ^ (i - fr) * 10 := by rw [show i + 1 - fr = (i - fr) + 1 by omega, Nat.pow_succ]
    refine Ev.step (f := fun k => figureheadref01_Number.l1 k s out (fr : Int) ((x * 10 + (c.toNat - 48) : Nat) : Int) ((i + 1 : Nat) : Int)) (fun k => ?_) (Number_in s hd hs out ho fr hf r d (i + 1) (x * 10 + (c.toNat - 48)) (by omega) (by omega) (by omega) h4 (by omega) ?_)
    · simp only [figureheadref01_Number.l1]; rw [if_pos (by omega), if_pos (by omega), hb, w64 (by omega) (by omega)]
      congr 1; omega
    · refine evIs h rfl |> fun h => ?_
      have e : x * 10 ^ (d + 1) + rv (s.data.toList.drop i).reverse = (x * 10 + (c.toNat - 48)) * 10 ^ d + rv (s.data.toList.drop (i + 1)).reverse := by
        have hl : (s.data.toList.drop (i + 1)).length = d := by rw [List.length_drop, ← size_eq]; omega
        rw [hc, List.reverse_cons, rv_append, List.length_reverse, hl]
        simp only [rv, Nat.mul_zero, Nat.add_zero]
        rw [Nat.pow_succ, Nat.add_mul, Nat.mul_comm (c.toNat - 48), Nat.mul_comm (10 ^ d) 10, ← Nat.mul_assoc]; omega
      rw [← e]; exact h
theorem vB_nonzero {s : ByteArray} (hd : dB s = true) (hh : s.data.toList.head? ≠ some 48) (hs : 0 < s.size) : vB s ≠ 0 := by
  intro h
  have := rv_zero (l := s.data.toList.reverse) (by rw [digL_reverse]; exact hd) (canonR_of_head hh) h
  rw [List.reverse_eq_nil_iff] at this
  rw [size_eq, this] at hs; simp at hs
theorem Number_loop : ∀ (z : Nat) (s : ByteArray) (out : List Int), s.size = z → dB s = true → s.data.toList.head? ≠ some 48 → s.size ≤ 1000000000000 → out.length + s.size ≤ 1000000000000 → Ev (fun k => figureheadref01_Number.l0 k s out) (out ++ limbs (vB s)) := by
  intro z
  induction z using Nat.strongRecOn with
  | _ z ih =>
  intro s out hz hd hh hs ho
  by_cases h0 : s.size = 0
  · refine evDone (r' := out) (fun k => ?_) ?_
    · simp only [figureheadref01_Number.l0]; rw [if_neg (by omega)]
    · have : s.data.toList = [] := List.eq_nil_of_length_eq_zero (by rw [← size_eq]; exact h0)
      unfold vB; rw [this]; simp [rv, limbs_zero]
  · obtain ⟨fr, hfr⟩ : ∃ fr : Nat, fr = s.size - 9 := ⟨_, rfl⟩
    have em : mx 0 (wrap64 ((s.size : Int) - 9)) = (fr : Int) := by rw [w64 (by omega) (by omega)]; unfold mx; split <;> omega
    refine Ev.step (f := fun k => figureheadref01_Number.l1 k s out (fr : Int) ((0 : Nat) : Int) (fr : Int)) (fun k => ?_) (Number_in s hd hs out (by omega) fr (by omega) _ (s.size - fr) fr 0 rfl (by omega) (by omega) (by omega) (by simp) ?_)
    · simp only [figureheadref01_Number.l0]; rw [if_pos (by omega), em]; rfl
    · have e1 : (s.extract 0 fr).data.toList = s.data.toList.take fr := B_to s fr
      have e2 : (s.extract 0 fr).size = fr := by rw [size_eq, e1, List.length_take, ← size_eq]; omega
      have hd2 : dB (s.extract 0 fr) = true := by unfold dB; rw [e1]; exact digL_take hd _
      have hv : vB s = rv (s.data.toList.drop fr).reverse + 10 ^ (s.size - fr) * vB (s.extract 0 fr) := by
        unfold vB; rw [e1]
        conv => lhs; rw [← List.take_append_drop fr s.data.toList, List.reverse_append, rv_append]
        rw [List.length_reverse, List.length_drop, ← size_eq]
      have hx : rv (s.data.toList.drop fr).reverse < 10 ^ (s.size - fr) := by
        have := rv_lt (l := (s.data.toList.drop fr).reverse) (by rw [digL_reverse]; exact digL_drop hd _)
        rwa [List.length_reverse, List.length_drop, ← size_eq] at this
      have hp : 10 ^ (s.size - fr) ≤ 10 ^ 9 := Nat.pow_le_pow_right (by omega) (by omega)
      have p9 : (10 : Nat) ^ 9 = 1000000000 := rfl
      generalize hxx : rv (s.data.toList.drop fr).reverse = x at *
      rw [Nat.zero_mul, Nat.zero_add]
      have hne : vB s ≠ 0 := vB_nonzero hd hh (by omega)
      have hh2 : (s.extract 0 fr).data.toList.head? ≠ some 48 := by
        rw [e1]
        rcases hfz : fr with _ | f
        · simp
        · rcases hll : s.data.toList with _ | ⟨c, l⟩
          · simp
          · rw [hll] at hh; simpa using hh
      refine evIs (ih fr (by omega) (s.extract 0 fr) (out ++ [(x : Int)]) e2 hd2 hh2 (by omega) (by rw [List.length_append, e2]; simp; omega)) ?_
      rw [List.append_assoc, List.singleton_append]
      congr 1
      rw [hv]
      by_cases hf0 : fr = 0
      · have hz0 : vB (s.extract 0 fr) = 0 := by
          have : (s.extract 0 fr).data.toList = [] := List.eq_nil_of_length_eq_zero (by rw [← size_eq]; omega)
          unfold vB; rw [this]; rfl
        rw [hz0] at hv ⊢
        have := limbs_cons (x := (x : Int)) ⟨by omega, by omega⟩ 0 (.inr (by omega))
        rw [this]; congr 1
      · have := limbs_cons (x := (x : Int)) ⟨by omega, by omega⟩ (vB (s.extract 0 fr)) (.inl (vB_nonzero hd2 hh2 (by omega)))
        rw [this, show s.size - fr = 9 by omega, p9]; congr 1
theorem Number_ev {s : ByteArray} (hd : dB s = true) (hs : s.size ≤ 1000000000000) : Ev (fun k => figureheadref01_Number.f k s) (limbs (vB s)) := by
  refine Ev.bind (StripD_ev (by omega) hd) ?_
  have hz : (digB (vB s)).size ≤ s.size := by rw [← stripB_eq hd, size_eq, size_eq]; exact stripL_len _
  refine evIs (Number_loop _ (digB (vB s)) [] rfl (dB_digB _) (digs_head _) (by omega) (by simpa using (by omega))) ?_
  rw [vB_digB]; rfl

end Go.Proofs.Ytkhmdpplpecgcaa.Px

namespace Go.Proofs.Ytkhmdpplpecgcaa.Px
open Fig Go.RowKit Go.Proofs.YtkhmdpplpecgcaaW.PrintWords Go.Proofs.YtkhmdpplpecgcaaW.PrintLast Go.Proofs.YtkhmdpplpecgcaaW.PrintMore
attribute [local go_sem] max2_int min2_int max_two min_two max_three min_three max_four min_four   -- for this text's walks alone

/-! plain facts: figureheadref01_Text -/
theorem pow_split (n m : Nat) : 10 ^ (n + m) = 10 ^ n * 10 ^ m := Nat.pow_add 10 n m
theorem one_char {c : Nat} (h : c ≤ 9) : dB (strOfNums [((48 : Int) + (c : Int)) % 4294967296 % 256]) = true ∧ vB (strOfNums [((48 : Int) + (c : Int)) % 4294967296 % 256]) = c ∧ (strOfNums [((48 : Int) + (c : Int)) % 4294967296 % 256]).size = 1 := by
  have e : ((48 : Int) + (c : Int)) % 4294967296 % 256 = ((48 + c : Nat) : Int) := by omega
  have e2 : (UInt8.ofNat (48 + c)).toNat = 48 + c := by rw [UInt8.toNat_ofNat']; omega
  rw [e]
  refine ⟨?_, ?_, ?_⟩
  · unfold dB; rw [B_nums]; simp only [List.map_cons, List.map_nil, Int.toNat_natCast]; rw [digL_cons, isD_iff, e2]; exact ⟨by omega, rfl⟩
  · unfold vB; rw [B_nums]; simp only [List.map_cons, List.map_nil, Int.toNat_natCast, List.reverse_singleton, rv, e2]; omega
  · rw [strOfNums_size]; rfl
theorem Text_in (l : List Int) (i : Nat) (hi : i < 4611686018427387904) (r : ByteArray) : ∀ (m : Nat) (s : ByteArray) (v : Nat), m ≤ 9 → v < 4294967296 → dB s = true → s.size + m ≤ 4611686018427387904 →
    (∀ s', dB s' = true → vB s' = vB s + 10 ^ s.size * (v % 10 ^ m) → s'.size = s.size + m → Ev (fun k => figureheadref01_Text.l0 k l s' ((i + 1 : Nat) : Int)) r) →
    Ev (fun k => figureheadref01_Text.l1 k l s (i : Int) (v : Int) ((9 - m : Nat) : Int)) r
  | 0, s, v, hm, hv, hd, hs, h => by
    refine Ev.step (f := fun k => figureheadref01_Text.l0 k l s ((i + 1 : Nat) : Int)) (fun k => ?_) (h s hd (by simp [Nat.mod_one]) rfl)
    simp only [figureheadref01_Text.l1]; rw [if_neg (by omega), w64 (by omega) (by omega)]; rfl
  | m + 1, s, v, hm, hv, hd, hs, h => by
    obtain ⟨c1, c2, c3⟩ := one_char (c := v % 10) (by omega)
    have et : Int.tmod (v : Int) 10 = ((v % 10 : Nat) : Int) := by rw [Int.tmod_eq_emod_of_nonneg (by omega)]; omega
    have ed : (Int.tdiv (v : Int) 10) % 4294967296 = ((v / 10 : Nat) : Int) := by rw [Int.tdiv_eq_ediv_of_nonneg (by omega)]; omega
    refine Ev.step (f := fun k => figureheadref01_Text.l1 k l (strOfNums [((48 : Int) + ((v % 10 : Nat) : Int)) % 4294967296 % 256] ++ s) (i : Int) ((v / 10 : Nat) : Int) ((9 - m : Nat) : Int)) (fun k => ?_) (Text_in l i hi r m _ (v / 10) (by omega) (by omega) (dB_append.2 ⟨c1, hd⟩) (by rw [ByteArray.size_append]; omega) ?_)
    · simp only [figureheadref01_Text.l1, Option.bind_some]; rw [if_pos (by omega), et, ed, if_pos (by omega), w64 (by omega) (by omega)]
      congr 1; omega
    · intro s' d' v' z'
      rw [ByteArray.size_append, c3] at z' v'
      refine h s' d' ?_ (by omega)
      rw [v', vB_append, c2]
      have e3 : v % 10 ^ (m + 1) = v % 10 + 10 * (v / 10 % 10 ^ m) := by rw [Nat.pow_succ, Nat.mul_comm (10 ^ m) 10, Nat.mod_mul]
      rw [e3, Nat.mul_add, Nat.add_comm 1 s.size, Nat.pow_succ, Nat.mul_comm (v % 10), ← Nat.mul_assoc]; omega
theorem Text_loop (l : List Int) (hg : goodL l = true) (hl : l.length ≤ 1000000000000) : ∀ (d n : Nat) (s : ByteArray), l.length - n = d → n ≤ l.length → dB s = true → s.size = 9 * n →
    Ev (fun k => figureheadref01_Text.l0 k l s (n : Int)) (digB (vB s + 10 ^ s.size * valL (l.drop n)))
  | 0, n, s, hd, hn, hs, hz => by
    refine Ev.step (f := fun k => (figureheadref01_Strip.f k s).bind fun t => some t) (fun k => ?_) (Ev.bind (StripD_ev (by omega) hs) ?_)
    · simp only [figureheadref01_Text.l0]; rw [if_neg (by omega)]
    · rw [List.drop_of_length_le (by omega)]; simpa [valL] using Ev.now _
  | d + 1, n, s, hd, hn, hs, hz => by
    have hlt : n < l.length := by omega
    have hb := rd_get hlt
    have hc := List.drop_eq_getElem_cons hlt
    have hp := goodL_iff.1 hg _ (List.getElem_mem hlt)
    refine Ev.step (f := fun k => figureheadref01_Text.l1 k l s (n : Int) ((l[n].toNat : Nat) : Int) ((9 - 9 : Nat) : Int)) (fun k => ?_) (Text_in l n (by omega) _ 9 s l[n].toNat (by omega) (by omega) hs (by omega) ?_)
    · simp only [figureheadref01_Text.l0]; rw [if_pos (by omega), if_pos (by omega), hb, Int.toNat_of_nonneg hp.1]; rfl
    · intro s' d' v' z'
      refine evIs (Text_loop l hg hl d (n + 1) s' (by omega) (by omega) d' (by omega)) ?_
      rw [v', z', hc]
      simp only [valL]
      rw [Nat.mod_eq_of_lt (by omega), pow_split, Nat.mul_add, Nat.mul_assoc]
      congr 1; rw [show (10 : Nat) ^ 9 = 1000000000 from rfl]; omega
theorem Text_ev {l : List Int} (hg : goodL l = true) (hl : l.length ≤ 1000000000000) : Ev (fun k => figureheadref01_Text.f k l) (digB (valL l)) := by
  have := Text_loop l hg hl l.length 0 (⟨#[]⟩ : ByteArray) (by omega) (by omega) rfl rfl
  refine evIs this ?_
  congr 1
  show rv [] + 10 ^ 0 * valL l = valL l
  simp [rv]

end Go.Proofs.Ytkhmdpplpecgcaa.Px

namespace Go.Proofs.Ytkhmdpplpecgcaa.Px
open Fig Go.RowKit Go.Proofs.YtkhmdpplpecgcaaW.PrintWords Go.Proofs.YtkhmdpplpecgcaaW.PrintLast Go.Proofs.YtkhmdpplpecgcaaW.PrintMore
attribute [local go_sem] max2_int min2_int max_two min_two max_three min_three max_four min_four   -- for this text's walks alone

/-! plain facts: figureheadlaw02_MulSmalls -/
theorem MulSmalls_pure (l0 : List Int) (a1 a2 : Int) (m0 : l0.length * 4 ≤ 140737488351232) (w0 : ∀ x ∈ l0, (Lit.int .u32 x).wf = true) (w1 : (Lit.int .u32 a1).wf = true) (w2 : (Lit.int .u32 a2).wf = true) : ∃ k, figureheadlaw02_MulSmalls.f k l0 a1 a2 = some true := by
  have n0 := fun x hx => wf_u32 (w0 x hx)
  have n1 := wf_u32 w1
  have n2 := wf_u32 w2
  obtain ⟨y, rfl⟩ : ∃ y : Nat, a1 = (y : Int) := ⟨a1.toNat, by omega⟩
  obtain ⟨m, rfl⟩ : ∃ m : Nat, a2 = (m : Int) := ⟨a2.toNat, by omega⟩
  refine Ev.rounds (g := fun k => figureheadlaw02_MulSmalls.f k l0 y m) ?_
  unfold figureheadlaw02_MulSmalls.f
  refine Ev.bind (good02_ev (ls := [l0, [(y : Int), (m : Int)]]) (by simp) (by simp; omega) (by simp; exact fun x hx => (n0 x hx).1)) ?_
  cases hg : [l0, [(y : Int), (m : Int)]].all fun l => decide (l.length ≤ 30) && goodL l
  · simp only [Bool.false_eq_true, if_false]
    exact Ev.bind answers02_ev (Ev.now true)
  · obtain ⟨⟨h30, g0⟩, g1⟩ : (l0.length ≤ 30 ∧ goodL l0 = true) ∧ goodL [(y : Int), (m : Int)] = true := by simpa using hg
    have gy := (goodL_cons.1 g1).1
    have gm := (goodL_cons.1 (goodL_cons.1 g1).2).1
    have g2 : goodL [(y : Int)] = true := goodL_cons.2 ⟨gy, rfl⟩
    have g3 : goodL [(m : Int)] = true := goodL_cons.2 ⟨gm, rfl⟩
    have v2 : valL [(y : Int)] = y := by simp [valL]
    have v3 : valL [(m : Int)] = m := by simp [valL]
    simp only [if_true]
    refine Ev.bind (Text_ev g0 (by omega)) (Ev.bind (Text_ev g2 (by simp)) ?_)
    have z0 := digB_valL_size g0 h30
    have z1 := digB_valL_size (m := 1) g2 (by simp)
    have z4 := digB_valL_size (m := 1) g3 (by simp)
    have z2 := digB_mul_le z0 z1
    have z5 := digB_add_le (p := 9 * 30 + 9 * 1) z2 (Nat.le_trans z4 (by omega))
    have z3 := limbs_len_digB (valL l0 * valL [(y : Int)] + valL [(m : Int)])
    refine Ev.bind (Times_ev (dB_digB _) (dB_digB _) (by omega) (by omega)) ?_
    rw [vB_digB, vB_digB]
    refine Ev.bind (Text_ev g3 (by simp)) (Ev.bind (Plus_ev (dB_digB _) (dB_digB _) (by omega) (by omega)) (Ev.bind answers02_ev ?_))
    simp only [if_true]
    rw [vB_digB, vB_digB]
    refine Ev.bind (Small_ev g0 (by omega) (by omega) (by omega)) (Ev.bind (Number_ev (dB_digB _) (by omega)) ?_)
    rw [vB_digB, v2, v3]
    rw [v2, v3] at z3 z5
    exact Ev.bind (Same_self (by omega)) (Ev.now true)

end Go.Proofs.Ytkhmdpplpecgcaa.Px
